/- Part of the proof of FnSums: no condition of its own. -/
import Derived.Test.YtlniejjcejackaaChecked
import Derived.Test.YtlniejjcejackaaB1FnSumsD
set_option linter.unusedVariables false
set_option linter.unusedSimpArgs false
open Go Go.Proofs Go.Proofs.Try
namespace Go.Proofs.Ytlniejjcejackaa.Ab
def T : Tab := [(3, ⟨(Ab.TK.int IntKind.i64), 1, 8, (Ab.D.int IntKind.i64 (Int.ofNat 0))⟩),
  (4, ⟨Ab.TK.bool, 1, 1, (Ab.D.bool Bool.false)⟩),
  (5, ⟨(Ab.TK.int IntKind.u8), 1, 1, (Ab.D.int IntKind.u8 (Int.ofNat 0))⟩),
  (9, ⟨Ab.TK.str, 1, 16, (Ab.D.str (ByteArray.mk (Array.mk [])))⟩),
  (22, ⟨(Ab.TK.slice 5), 1, 24, Ab.D.nil⟩),
  (38, ⟨(Ab.TK.slice 3), 1, 24, Ab.D.nil⟩),
  (74, ⟨(Ab.TK.int IntKind.u64), 1, 8, (Ab.D.int IntKind.u64 (Int.ofNat 0))⟩),
  (76, ⟨(Ab.TK.strct [(Ab.FI.mk 0 1 Bool.false), (Ab.FI.mk 1 1 Bool.false), (Ab.FI.mk 2 1 Bool.false)] Option.none), 3, 40, (Ab.D.agg [Ab.D.nil, (Ab.D.int IntKind.i64 (Int.ofNat 0)), (Ab.D.int IntKind.u64 (Int.ofNat 0))])⟩),
  (87, ⟨(Ab.TK.slice 9), 1, 24, Ab.D.nil⟩)]
noncomputable def X : Ctx := ⟨Go.Proofs.Try.prog, T, []⟩
theorem T_ok : TabOK X.P X.T := ⟨by kernel_rfl, by kernel_rfl, by kernel_rfl, by kernel_rfl, by kernel_rfl, by kernel_rfl, by kernel_rfl, by kernel_rfl, by kernel_rfl, trivial⟩
theorem mixed : X.P.follows .mixedOrders = true := Go.Proofs.Try.checked.mixed
theorem gO {f : FuncId} {M : Nat} {k k' : List Item} {σ σ' : St} {res : List D} {G' : List Root} (cmds : List Cmd) {ps : List Prop} (h : run X M cmds k σ = some (ps, k', σ')) (hp : AllP ps) (hk : Wc X f M k' σ' res G') : Wc X f M k σ res G' := run_ok T_ok mixed h hp hk
theorem gE {f : FuncId} {M : Nat} {k : List Item} {σ : St} {res : List D} {G' : List Root} {fn : Func} (hf : X.P.funcs[f]? = some fn) (cmds : List Cmd) {ps : List Prop} (h : runFinC X M cmds k σ fn.results.toList res = some (ps, res, G')) (hp : AllP ps) : Wc X f M k σ res G' := runFinC_ok T_ok mixed hf h hp
theorem gS {f : FuncId} {M : Nat} {k : List Item} {σ : St} {res : List D} {G' : List Root} (cmds : List Cmd) {ps : List Prop} (h : runP X M cmds k σ = some ps) (hp : AllP ps) (hk : Wc X f M (runK X M cmds k σ) (runS X M cmds k σ) res G') : Wc X f M k σ res G' := seg_ok T_ok mixed cmds h hp hk
theorem gN {ς ρ : Type} {f : FuncId} {M : Nat} {K : ς → List Item} {Z : ς → St} {R : ρ → List D} {G : ρ → List Root} {k : List Item} {σ : St} {o : ς ⊕ ρ} (cmds : List Cmd) {ps : List Prop} (h : runP X M cmds k σ = some ps) (hp : AllP ps) (hk : Nx X f M K Z R G (runK X M cmds k σ) (runS X M cmds k σ) o) : Nx X f M K Z R G k σ o := segN_ok T_ok mixed cmds h hp hk
theorem allFl_3 (l : List Int) : AllFl (List.map I l) := allFl_map (fun x c hc => by simp [D.cells] at hc; rcases hc with rfl <;> rfl) l
/-! loop example/g00886/laws big -/
theorem cw_big {a0 : (List Int)} {a1 : (List Int)} {r : Bool} (H : Dw_big a0 a1 = some r) : Ct X.P X.gl 7 [sl 1 (D.int .u8) a0, sl 1 (D.int .u8) a1] [] (RB r) [] :=
  Ct.of func7 (c := bdy f7) (by kernel_rfl) (by kernel_rfl) <|
  gS [r0] (by kernel_rfl) P0 <|
  eIf H (fun h1 H =>
    eW RB (fun _ => []) H <| gE func7 [rg [hT 2]] (by kernel_rfl) (P2 ((decide (((a0.length : Nat) : Int) > 1048576)) = true) (decide_eq_true h1) <| P0))
  (fun h1 H =>
    eW RB (fun _ => []) H <| gE func7 [rg [hF 2]] (by kernel_rfl) (P2 ((decide (((a0.length : Nat) : Int) > 1048576)) = false) (decide_eq_false h1) <| P0))
/-!   loop example/g00886/spec l1Cur  next -/
def Rs_l1Cur_next (r : Int × Gs_l1Cur) : List D := [I r.1]
def Ns_l1Cur_next (r : Int × Gs_l1Cur) : List Root := [⟨false, true, 3, 1, [.agg [sl 1 (D.int .u8) r.2.code, I r.2.at_, .int .u64 r.2.seed]]⟩]
theorem cs_l1Cur_next {a0 : Gs_l1Cur} {r : Int × Gs_l1Cur} (H : Ds_l1Cur_next a0 = some r) : Ct X.P X.gl 108 [.ptr 0 3 0 0] [⟨false, true, 3, 1, [.agg [sl 1 (D.int .u8) a0.code, I a0.at_, .int .u64 a0.seed]]⟩] (Rs_l1Cur_next r) (Ns_l1Cur_next r) :=
  Ct.of func108 (c := bdy f108) (by kernel_rfl) (by kernel_rfl) <|
  gS [r0, r0] (by kernel_rfl) P0 <|
  eIf H (fun h1 H =>
    eCk H fun h2 H =>
    eBind H fun x3 hx3 H =>
    gS [rg [hT 9], rg [hE 9 ((D.int .u8) x3)], r0, r0] (by kernel_rfl) (P2 ((decide (a0.at_ < ((a0.code.length : Nat) : Int))) = true) (decide_eq_true h1) <| P1 h2 <| P1 (int_lt_of_at h2 hx3) <| P1 (at_map (D.int .u8) hx3) <| P0) <|
    eIf H (fun h4 H =>
      eW Rs_l1Cur_next Ns_l1Cur_next H <| gE func108 [rg [hT 9], r0] (by kernel_rfl) (P2 ((decide ((IntKind.wrap .i64 (a0.at_ + 1)) ≤ ((a0.code.length : Nat) : Int))) = true) (decide_eq_true h4) <| P0))
    (fun h4 H =>
      eW Rs_l1Cur_next Ns_l1Cur_next H <| gE func108 [rg [hF 9], r0] (by kernel_rfl) (P2 ((decide ((IntKind.wrap .i64 (a0.at_ + 1)) ≤ ((a0.code.length : Nat) : Int))) = false) (decide_eq_false h4) <| P2 ((0 : Int) ≤ 40) (by decide) <| P0)))
  (fun h1 H =>
    gS [rg [hF 9], r0, r0] (by kernel_rfl) (P2 ((decide (a0.at_ < ((a0.code.length : Nat) : Int))) = false) (decide_eq_false h1) <| P0) <|
    eIf H (fun h2 H =>
      eW Rs_l1Cur_next Ns_l1Cur_next H <| gE func108 [rg [hT 9], r0] (by kernel_rfl) (P2 ((decide ((IntKind.wrap .i64 (a0.at_ + 1)) ≤ ((a0.code.length : Nat) : Int))) = true) (decide_eq_true h2) <| P0))
    (fun h2 H =>
      eW Rs_l1Cur_next Ns_l1Cur_next H <| gE func108 [rg [hF 9], r0] (by kernel_rfl) (P2 ((decide ((IntKind.wrap .i64 (a0.at_ + 1)) ≤ ((a0.code.length : Nat) : Int))) = false) (decide_eq_false h2) <| P2 ((0 : Int) ≤ 40) (by decide) <| P0)))
/-!   loop example/g00886/spec l1Cur  pick -/
def Rs_l1Cur_pick (r : Int × Gs_l1Cur) : List D := [I r.1]
def Ns_l1Cur_pick (r : Int × Gs_l1Cur) : List Root := [⟨false, true, 3, 1, [.agg [sl 1 (D.int .u8) r.2.code, I r.2.at_, .int .u64 r.2.seed]]⟩]
theorem cs_l1Cur_pick {a0 : Gs_l1Cur} {a1 : Int} {r : Int × Gs_l1Cur} (H : Ds_l1Cur_pick a0 a1 = some r) : Ct X.P X.gl 65 [.ptr 0 3 0 0, I a1] [⟨false, true, 3, 1, [.agg [sl 1 (D.int .u8) a0.code, I a0.at_, .int .u64 a0.seed]]⟩] (Rs_l1Cur_pick r) (Ns_l1Cur_pick r) :=
  Ct.of func65 (c := bdy f65) (by kernel_rfl) (by kernel_rfl) <|
  gS [r0] (by kernel_rfl) P0 <|
  eIf H (fun h1 H =>
    eW Rs_l1Cur_pick Ns_l1Cur_pick H <| gE func65 [rg [hT 1], r0] (by kernel_rfl) (P2 ((decide (a1 ≤ 1)) = true) (decide_eq_true h1) <| P0))
  (fun h1 H =>
    eBind H fun r2 hr2 H =>
    gS [rg [hF 1], rg [hC 1 true [0] (Rs_l1Cur_next r2) (Ns_l1Cur_next r2)]] (by kernel_rfl) (P2 ((decide (a1 ≤ 1)) = false) (decide_eq_false h1) <| PI (1 : Nat) <| P1 (cs_l1Cur_next hr2) <| P0) <|
    eIf H (fun h3 H =>
      eBind H fun r4 hr4 H =>
      eCk H fun h5 H =>
      eW Rs_l1Cur_pick Ns_l1Cur_pick H <| gE func65 [rg [hT 1], rg [hC 3 true [0] (Rs_l1Cur_next r4) (Ns_l1Cur_next r4)], r0] (by kernel_rfl) (P2 ((decide (a1 > 200)) = true) (decide_eq_true h3) <| PI (1 : Nat) <| P1 (cs_l1Cur_next hr4) <| P2 (¬ (a1 : Int) = 0) h5 <| P0))
    (fun h3 H =>
      eCk H fun h4 H =>
      eW Rs_l1Cur_pick Ns_l1Cur_pick H <| gE func65 [rg [hF 1], r0] (by kernel_rfl) (P2 ((decide (a1 > 200)) = false) (decide_eq_false h3) <| P2 (¬ (a1 : Int) = 0) h4 <| P0)))
/-!   loop example/g00886/spec l1Cur  among -/
def Rs_l1Cur_among (r : Int × Gs_l1Cur) : List D := [I r.1]
def Ns_l1Cur_among (r : Int × Gs_l1Cur) : List Root := [⟨false, true, 3, 1, [.agg [sl 1 (D.int .u8) r.2.code, I r.2.at_, .int .u64 r.2.seed]]⟩]
theorem cs_l1Cur_among {a0 : Gs_l1Cur} {a1 : (List Int)} {r : Int × Gs_l1Cur} (H : Ds_l1Cur_among a0 a1 = some r) : Ct X.P X.gl 64 [.ptr 0 3 0 0, sl 1 I a1] [⟨false, true, 3, 1, [.agg [sl 1 (D.int .u8) a0.code, I a0.at_, .int .u64 a0.seed]]⟩] (Rs_l1Cur_among r) (Ns_l1Cur_among r) :=
  Ct.of func64 (c := bdy f64) (by kernel_rfl) (by kernel_rfl) <|
  eBind H fun r1 hr1 H =>
  eCk H fun h2 H =>
  eBind H fun x3 hx3 H =>
  eW Rs_l1Cur_among Ns_l1Cur_among H <| gE func64 [r0, rg [hC 4 true [0] (Rs_l1Cur_pick r1) (Ns_l1Cur_pick r1), hE 6 (I x3)]] (by kernel_rfl) (PI (1 : Nat) <| P1 (cs_l1Cur_pick hr1) <| P1 h2 <| P1 (int_lt_of_at h2 hx3) <| P1 (at_map I hx3) <| P0)
/-! loop example/g00886/spec DrawSumWays -/
def Rs_DrawSumWays (r : Int × Int) : List D := [I r.1, I r.2]
theorem cs_DrawSumWays {a0 : (List Int)} {r : Int × Int} (H : Ds_DrawSumWays a0 = some r) : Ct X.P X.gl 29 [sl 1 (D.int .u8) a0] [] (Rs_DrawSumWays r) [] :=
  Ct.of func29 (c := bdy f29) (by kernel_rfl) (by kernel_rfl) <|
  eBind H fun r1 hr1 H =>
  eBind H fun r2 hr2 H =>
  eBind H fun r3 hr3 H =>
  eW Rs_DrawSumWays (fun _ => []) H <| gE func29 [r0, r0, rg [hC 1 true [0] (Rs_l1Cur_pick r1) (Ns_l1Cur_pick r1), hC 3 true [0] (Rs_l1Cur_pick r2) (Ns_l1Cur_pick r2)], rg [{ i := 13, frz := [1], call := some { cl := true, auto := true, ins := [0], res := (Rs_l1Cur_among r3), G' := (Ns_l1Cur_among r3) } }]] (by kernel_rfl) (PI (1 : Nat) <| P1 (cs_l1Cur_pick hr1) <| PI (1 : Nat) <| P1 (cs_l1Cur_pick hr2) <| P2 (¬ (19 : Int) = 0) (by decide) <| PI (1 : Nat) <| P1 (cs_l1Cur_among hr3) <| P0)
/-! loop example/g00886/impl inRange -/
theorem ci_inRange {a0 : Int} {a1 : Int} {a2 : Int} {r : Bool} (H : Di_inRange a0 a1 a2 = some r) : Ct X.P X.gl 68 [I a0, I a1, I a2] [] (RB r) [] :=
  Ct.of func68 (c := bdy f68) (by kernel_rfl) (by kernel_rfl) <|
  gS [r0] (by kernel_rfl) P0 <|
  eIf H (fun h1 H =>
    eW RB (fun _ => []) H <| gE func68 [rg [hT 2]] (by kernel_rfl) (P2 ((decide (a1 ≤ a0)) = true) (decide_eq_true h1) <| P0))
  (fun h1 H =>
    eW RB (fun _ => []) H <| gE func68 [rg [hF 2]] (by kernel_rfl) (P2 ((decide (a1 ≤ a0)) = false) (decide_eq_false h1) <| P0))
/-! loop example/g00886/impl waysOf -/
def Ri_waysOf (r : (List Int)) : List D := [ow 1 I r]
noncomputable def Ki_waysOf : Si_waysOf → List Item
  | .h1 .. => nav 300 3 [] [.code (bdy f77)]
  | .h2 .. => nav 300 6 [true] [.code (bdy f77)]
  | .h3 .. => nav 300 9 [true, true] [.code (bdy f77)]
def Zi_waysOf : Si_waysOf → St
  | .h1 t0 t1 l2 => ⟨sts 40 [(3, .ref 0 1 none), (9, I t0), (10, I t1)], [some ⟨false, false, 1, l2.length, List.map I l2⟩]⟩
  | .h2 t0 t1 t2 t3 l4 l5 => ⟨sts 40 [(4, .ref 0 1 none), (9, I t0), (10, I t1), (16, .ref 1 1 none), (17, I t2), (18, I t3)], [some ⟨false, false, 1, l4.length, List.map I l4⟩, some ⟨false, false, 1, l5.length, List.map I l5⟩]⟩
  | .h3 sum0 ways1 face2 t3 t4 t5 t6 l7 l8 => ⟨sts 40 [(4, .ref 0 1 none), (5, I sum0), (6, I ways1), (7, I face2), (9, I t3), (10, I t4), (16, .ref 1 1 none), (17, I t5), (18, I t6)], [some ⟨false, false, 1, l7.length, List.map I l7⟩, some ⟨false, false, 1, l8.length, List.map I l8⟩]⟩
abbrev Qi_waysOf := Nx X 77 0 Ki_waysOf Zi_waysOf Ri_waysOf (fun _ => [])
theorem ni_waysOf : ∀ s o, Bi_waysOf s = some o → Qi_waysOf (Ki_waysOf s) (Zi_waysOf s) o
  | .h1 t0 t1 l2, o, H =>
    eIf H (fun h1 H =>
      eCk H fun h2 H =>
      eCk H fun h3 H =>
      eN H fun r hn => gO [rg [hT 0], rg [hA 3 ((List.replicate (Int.toNat (IntKind.wrap .i64 (((l2.length : Nat) : Int) + 6))) (0 : Int)).length) (List.map I (List.replicate (Int.toNat (IntKind.wrap .i64 (((l2.length : Nat) : Int) + 6))) (0 : Int)))], r0, .canon [1, 0] [4, 9, 10, 16, 17, 18]] (by kernel_rfl) (P2 ((decide (t1 < t0)) = true) (decide_eq_true h1) <| PI (IntKind.wrap .i64 (((l2.length : Nat) : Int) + 6) : Int) <| P2 ((0 : Int) ≤ (IntKind.wrap .i64 (((l2.length : Nat) : Int) + 6))) h2 <| P2 (Int.toNat (IntKind.wrap .i64 (((l2.length : Nat) : Int) + 6)) * 8 ≤ 140737488355328) h3 <| P1 (repLen (Int.toNat (IntKind.wrap .i64 (((l2.length : Nat) : Int) + 6))) (0 : Int)) <| P1 (repMap I (Int.toNat (IntKind.wrap .i64 (((l2.length : Nat) : Int) + 6))) (0 : Int)) <| P0) hn)
    (fun h1 H =>
      eN H <| gE func77 [rg [hF 0], r0] (by kernel_rfl) (P2 ((decide (t1 < t0)) = false) (decide_eq_false h1) <| P0))
  | .h2 t0 t1 t2 t3 l4 l5, o, H =>
    eIf H (fun h1 H =>
      eCk H fun h2 H =>
      eBind H fun x3 hx3 H =>
      eN H fun r hn => gO [rg [hT 0], rg [hE 2 (I x3)], r0, .canon [0, 1] [4, 5, 6, 7, 9, 10, 16, 17, 18]] (by kernel_rfl) (P2 ((decide (t3 < t2)) = true) (decide_eq_true h1) <| P1 h2 <| P1 (int_lt_of_at h2 hx3) <| P1 (at_map I hx3) <| P0) hn)
    (fun h1 H =>
      eN H fun r hn => gO [rg [hF 0], r0, r0, .canon [0] [3, 9, 10]] (by kernel_rfl) (P2 ((decide (t3 < t2)) = false) (decide_eq_false h1) <| P0) hn)
  | .h3 sum0 ways1 face2 t3 t4 t5 t6 l7 l8, o, H =>
    eIf H (fun h1 H =>
      eCk H fun h2 H =>
      eBind H fun x3 hx3 H =>
      eCk H fun h4 H =>
      eBind H fun x5 hx5 H =>
      eN H fun r hn => gO [rg [hT 1], rg [hE 5 (I x3), hA 9 ((List.set l7 (Int.toNat (IntKind.wrap .i64 (sum0 + face2))) (IntKind.wrap .i64 (x3 + ways1))).length) (List.map I (List.set l7 (Int.toNat (IntKind.wrap .i64 (sum0 + face2))) (IntKind.wrap .i64 (x3 + ways1))))], r0, .canon [0, 1] [4, 5, 6, 7, 9, 10, 16, 17, 18]] (by kernel_rfl) (P2 ((decide (face2 ≤ 6)) = true) (decide_eq_true h1) <| P1 h2 <| P1 (int_lt_of_at h2 hx3) <| P1 (at_map I hx3) <| P1 h4 <| P1 (int_lt_of_at h4 hx5) <| P1 (lt_of_at hx5) <| P2 (setCells (List.map I l7) (Int.toNat (IntKind.wrap .i64 (sum0 + face2))) 0 [I (IntKind.wrap .i64 (x3 + ways1))] = List.map I (List.set l7 (Int.toNat (IntKind.wrap .i64 (sum0 + face2))) (IntKind.wrap .i64 (x3 + ways1)))) (setCells_map hx5 rfl) <| P1 (setLen l7 (Int.toNat (IntKind.wrap .i64 (sum0 + face2))) (IntKind.wrap .i64 (x3 + ways1))) <| P0) hn)
    (fun h1 H =>
      eN H fun r hn => gO [rg [hF 1], r0, .canon [0, 1] [4, 9, 10, 16, 17, 18]] (by kernel_rfl) (P2 ((decide (face2 ≤ 6)) = false) (decide_eq_false h1) <| P0) hn)
theorem wi_waysOf : ∀ s r, loop Bi_waysOf s = some r → Wc X 77 0 (Ki_waysOf s) (Zi_waysOf s) (Ri_waysOf r) ((fun _ => []) r) := Nx.all ni_waysOf
theorem ci_waysOf {a0 : Int} {r : (List Int)} (H : Di_waysOf a0 = some r) : Ct X.P X.gl 77 [I a0] [] (Ri_waysOf r) [] :=
  Ct.of func77 (c := bdy f77) (by kernel_rfl) (by kernel_rfl) <|
  gO [r0, r0, r0, .canon [0] [3, 9, 10]] (by kernel_rfl) P0 (wi_waysOf _ _ H)
/-! loop example/g00886/impl isIndex -/
theorem ci_isIndex {a0 : Int} {a1 : Int} {r : Bool} (H : Di_isIndex a0 a1 = some r) : Ct X.P X.gl 78 [I a0, I a1] [] (RB r) [] :=
  Ct.of func78 (c := bdy f78) (by kernel_rfl) (by kernel_rfl) <|
  eBind H fun r1 hr1 H =>
  eW RB (fun _ => []) H <| gE func78 [r0, rg [hC 3 true [] (RB r1) []]] (by kernel_rfl) (P1 (ci_inRange hr1) <| P0)
/-! loop example/g00886/impl SumWays -/
def Ri_SumWays (r : Int × Bool) : List D := [I r.1, .bool r.2]
theorem ci_SumWays {a0 : Int} {a1 : Int} {r : Int × Bool} (H : Di_SumWays a0 a1 = some r) : Ct X.P X.gl 30 [I a0, I a1] [] (Ri_SumWays r) [] :=
  Ct.of func30 (c := bdy f30) (by kernel_rfl) (by kernel_rfl) <|
  eBind H fun r1 hr1 H =>
  gS [r0] (by kernel_rfl) P0 <|
  eIf H (fun h2 H =>
    eBind H fun r3 hr3 H =>
    eIf H (fun h4 H =>
      eBind H fun r5 hr5 H =>
      eBind H fun r6 hr6 H =>
      gS [rg [{ i := 1, call := some { cl := true, auto := true, ins := [], res := (RB r1), G' := [] }, dec := some true }, { i := 5, call := some { cl := true, auto := true, ins := [], res := (RB r3), G' := [] }, dec := some true }], rg [hC 1 true [] (Ri_waysOf r5) []]] (by kernel_rfl) (P1 (ci_inRange hr1) <| P2 (r1 = true) (h2) <| P1 (ci_inRange hr3) <| P2 (r3 = true) (h4) <| P1 (ci_waysOf hr5) <| P0) <|
      eIf H (fun h7 H =>
        eCk H fun h8 H =>
        eBind H fun x9 hx9 H =>
        eW Ri_SumWays (fun _ => []) H <| gE func30 [rg [{ i := 3, call := some { cl := true, auto := true, ins := [], res := (RB r6), G' := [] }, dec := some true }], rg [hE 3 (I x9)]] (by kernel_rfl) (P1 (ci_isIndex hr6) <| P2 (r6 = true) (h7) <| P1 h8 <| P1 (int_lt_of_at h8 hx9) <| P1 (at_map I hx9) <| P0))
      (fun h7 H =>
        eW Ri_SumWays (fun _ => []) H <| gE func30 [rg [{ i := 3, call := some { cl := true, auto := true, ins := [], res := (RB r6), G' := [] }, dec := some false }], r0] (by kernel_rfl) (P1 (ci_isIndex hr6) <| P2 (r6 = false) (eqF h7) <| P0)))
    (fun h4 H =>
      eW Ri_SumWays (fun _ => []) H <| gE func30 [rg [{ i := 1, call := some { cl := true, auto := true, ins := [], res := (RB r1), G' := [] }, dec := some true }, { i := 5, call := some { cl := true, auto := true, ins := [], res := (RB r3), G' := [] }, dec := some false }], r0] (by kernel_rfl) (P1 (ci_inRange hr1) <| P2 (r1 = true) (h2) <| P1 (ci_inRange hr3) <| P2 (r3 = false) (eqF h4) <| P0)))
  (fun h2 H =>
    eW Ri_SumWays (fun _ => []) H <| gE func30 [rg [{ i := 1, call := some { cl := true, auto := true, ins := [], res := (RB r1), G' := [] }, dec := some false }], r0] (by kernel_rfl) (P1 (ci_inRange hr1) <| P2 (r1 = false) (eqF h2) <| P0))
/-! loop example/g00886/spec l1In -/
theorem cs_l1In {a0 : Int} {a1 : Int} {a2 : Int} {r : Bool} (H : Ds_l1In a0 a1 a2 = some r) : Ct X.P X.gl 71 [I a0, I a1, I a2] [] (RB r) [] :=
  Ct.of func71 (c := bdy f71) (by kernel_rfl) (by kernel_rfl) <|
  gS [r0] (by kernel_rfl) P0 <|
  eIf H (fun h1 H =>
    eW RB (fun _ => []) H <| gE func71 [rg [hT 2]] (by kernel_rfl) (P2 ((decide (a0 ≥ a1)) = true) (decide_eq_true h1) <| P0))
  (fun h1 H =>
    eW RB (fun _ => []) H <| gE func71 [rg [hF 2]] (by kernel_rfl) (P2 ((decide (a0 ≥ a1)) = false) (decide_eq_false h1) <| P0))
/-! loop example/g00886/spec dSumAsked -/
theorem cs_dSumAsked {a0 : Int} {a1 : Int} {r : Bool} (H : Ds_dSumAsked a0 a1 = some r) : Ct X.P X.gl 79 [I a0, I a1] [] (RB r) [] :=
  Ct.of func79 (c := bdy f79) (by kernel_rfl) (by kernel_rfl) <|
  eBind H fun r1 hr1 H =>
  gS [r0] (by kernel_rfl) P0 <|
  eIf H (fun h2 H =>
    eBind H fun r3 hr3 H =>
    eW RB (fun _ => []) H <| gE func79 [rg [{ i := 1, call := some { cl := true, auto := true, ins := [], res := (RB r1), G' := [] }, dec := some true }, hC 4 true [] (RB r3) []]] (by kernel_rfl) (P1 (cs_l1In hr1) <| P2 (r1 = true) (h2) <| P1 (cs_l1In hr3) <| P0))
  (fun h2 H =>
    eW RB (fun _ => []) H <| gE func79 [rg [{ i := 1, call := some { cl := true, auto := true, ins := [], res := (RB r1), G' := [] }, dec := some false }]] (by kernel_rfl) (P1 (cs_l1In hr1) <| P2 (r1 = false) (eqF h2) <| P0))
/-! loop example/g00886/spec dWays -/
def Rs_dWays (r : (List Int)) : List D := [ow 1 I r]
noncomputable def Ks_dWays : Ss_dWays → List Item
  | .h1 .. => nav 300 2 [] [.code (bdy f80)]
  | .h2 .. => nav 300 5 [true] [.code (bdy f80)]
  | .h3 .. => nav 300 8 [true, true] [.code (bdy f80)]
def Zs_dWays : Ss_dWays → St
  | .h1 n0 l1 => ⟨sts 40 [(0, I n0), (3, .ref 0 1 none)], [some ⟨false, false, 1, l1.length, List.map I l1⟩]⟩
  | .h2 n0 t1 t2 l3 l4 => ⟨sts 40 [(0, I n0), (4, .ref 0 1 none), (17, .ref 1 1 none), (18, I t1), (19, I t2)], [some ⟨false, false, 1, l3.length, List.map I l3⟩, some ⟨false, false, 1, l4.length, List.map I l4⟩]⟩
  | .h3 n0 s1 w2 f3 t4 t5 l6 l7 => ⟨sts 40 [(0, I n0), (4, .ref 0 1 none), (5, I s1), (6, I w2), (7, I f3), (17, .ref 1 1 none), (18, I t4), (19, I t5)], [some ⟨false, false, 1, l6.length, List.map I l6⟩, some ⟨false, false, 1, l7.length, List.map I l7⟩]⟩
abbrev Qs_dWays := Nx X 80 0 Ks_dWays Zs_dWays Rs_dWays (fun _ => [])
theorem ns_dWays : ∀ s o, Bs_dWays s = some o → Qs_dWays (Ks_dWays s) (Zs_dWays s) o
  | .h1 n0 l1, o, H =>
    eIf H (fun h1 H =>
      eCk H fun h2 H =>
      eCk H fun h3 H =>
      eN H fun r hn => gO [rg [hT 1], rg [hA 3 ((List.replicate (Int.toNat (IntKind.wrap .i64 (((l1.length : Nat) : Int) + 6))) (0 : Int)).length) (List.map I (List.replicate (Int.toNat (IntKind.wrap .i64 (((l1.length : Nat) : Int) + 6))) (0 : Int)))], r0, .canon [1, 0] [0, 4, 17, 18, 19]] (by kernel_rfl) (P2 ((decide (n0 > 0)) = true) (decide_eq_true h1) <| PI (IntKind.wrap .i64 (((l1.length : Nat) : Int) + 6) : Int) <| P2 ((0 : Int) ≤ (IntKind.wrap .i64 (((l1.length : Nat) : Int) + 6))) h2 <| P2 (Int.toNat (IntKind.wrap .i64 (((l1.length : Nat) : Int) + 6)) * 8 ≤ 140737488355328) h3 <| P1 (repLen (Int.toNat (IntKind.wrap .i64 (((l1.length : Nat) : Int) + 6))) (0 : Int)) <| P1 (repMap I (Int.toNat (IntKind.wrap .i64 (((l1.length : Nat) : Int) + 6))) (0 : Int)) <| P0) hn)
    (fun h1 H =>
      eN H <| gE func80 [rg [hF 1], r0] (by kernel_rfl) (P2 ((decide (n0 > 0)) = false) (decide_eq_false h1) <| P0))
  | .h2 n0 t1 t2 l3 l4, o, H =>
    eIf H (fun h1 H =>
      eCk H fun h2 H =>
      eBind H fun x3 hx3 H =>
      eN H fun r hn => gO [rg [hT 0], rg [hE 2 (I x3)], r0, .canon [0, 1] [0, 4, 5, 6, 7, 17, 18, 19]] (by kernel_rfl) (P2 ((decide (t2 < t1)) = true) (decide_eq_true h1) <| P1 h2 <| P1 (int_lt_of_at h2 hx3) <| P1 (at_map I hx3) <| P0) hn)
    (fun h1 H =>
      eN H fun r hn => gO [rg [hF 0], r0, r0, .canon [0] [0, 3]] (by kernel_rfl) (P2 ((decide (t2 < t1)) = false) (decide_eq_false h1) <| P0) hn)
  | .h3 n0 s1 w2 f3 t4 t5 l6 l7, o, H =>
    eIf H (fun h1 H =>
      eCk H fun h2 H =>
      eBind H fun x3 hx3 H =>
      eCk H fun h4 H =>
      eBind H fun x5 hx5 H =>
      eN H fun r hn => gO [rg [hT 1], rg [hE 5 (I x3), hA 9 ((List.set l6 (Int.toNat (IntKind.wrap .i64 (s1 + f3))) (IntKind.wrap .i64 (x3 + w2))).length) (List.map I (List.set l6 (Int.toNat (IntKind.wrap .i64 (s1 + f3))) (IntKind.wrap .i64 (x3 + w2))))], r0, .canon [0, 1] [0, 4, 5, 6, 7, 17, 18, 19]] (by kernel_rfl) (P2 ((decide (f3 ≤ 6)) = true) (decide_eq_true h1) <| P1 h2 <| P1 (int_lt_of_at h2 hx3) <| P1 (at_map I hx3) <| P1 h4 <| P1 (int_lt_of_at h4 hx5) <| P1 (lt_of_at hx5) <| P2 (setCells (List.map I l6) (Int.toNat (IntKind.wrap .i64 (s1 + f3))) 0 [I (IntKind.wrap .i64 (x3 + w2))] = List.map I (List.set l6 (Int.toNat (IntKind.wrap .i64 (s1 + f3))) (IntKind.wrap .i64 (x3 + w2)))) (setCells_map hx5 rfl) <| P1 (setLen l6 (Int.toNat (IntKind.wrap .i64 (s1 + f3))) (IntKind.wrap .i64 (x3 + w2))) <| P0) hn)
    (fun h1 H =>
      eN H fun r hn => gO [rg [hF 1], r0, .canon [0, 1] [0, 4, 17, 18, 19]] (by kernel_rfl) (P2 ((decide (f3 ≤ 6)) = false) (decide_eq_false h1) <| P0) hn)
theorem ws_dWays : ∀ s r, loop Bs_dWays s = some r → Wc X 80 0 (Ks_dWays s) (Zs_dWays s) (Rs_dWays r) ((fun _ => []) r) := Nx.all ns_dWays
theorem cs_dWays {a0 : Int} {r : (List Int)} (H : Ds_dWays a0 = some r) : Ct X.P X.gl 80 [I a0] [] (Rs_dWays r) [] :=
  Ct.of func80 (c := bdy f80) (by kernel_rfl) (by kernel_rfl) <|
  gO [r0, r0, .canon [0] [0, 3]] (by kernel_rfl) P0 (ws_dWays _ _ H)
/-! loop example/g00886/spec SumWays -/
def Rs_SumWays (r : Int × Bool) : List D := [I r.1, .bool r.2]
theorem cs_SumWays {a0 : Int} {a1 : Int} {r : Int × Bool} (H : Ds_SumWays a0 a1 = some r) : Ct X.P X.gl 31 [I a0, I a1] [] (Rs_SumWays r) [] :=
  Ct.of func31 (c := bdy f31) (by kernel_rfl) (by kernel_rfl) <|
  eBind H fun r1 hr1 H =>
  gS [r0] (by kernel_rfl) P0 <|
  eIf H (fun h2 H =>
    eBind H fun r3 hr3 H =>
    eBind H fun r4 hr4 H =>
    gS [rg [{ i := 2, call := some { cl := true, auto := true, ins := [], res := (RB r1), G' := [] }, dec := some true }], rg [hC 1 true [] (Rs_dWays r3) []]] (by kernel_rfl) (P1 (cs_dSumAsked hr1) <| P2 (r1 = true) (h2) <| P1 (cs_dWays hr3) <| P0) <|
    eIf H (fun h5 H =>
      eCk H fun h6 H =>
      eBind H fun x7 hx7 H =>
      eW Rs_SumWays (fun _ => []) H <| gE func31 [rg [{ i := 4, call := some { cl := true, auto := true, ins := [], res := (RB r4), G' := [] }, dec := some true }], rg [hE 3 (I x7)]] (by kernel_rfl) (P1 (cs_l1In hr4) <| P2 (r4 = true) (h5) <| P1 h6 <| P1 (int_lt_of_at h6 hx7) <| P1 (at_map I hx7) <| P0))
    (fun h5 H =>
      eW Rs_SumWays (fun _ => []) H <| gE func31 [rg [{ i := 4, call := some { cl := true, auto := true, ins := [], res := (RB r4), G' := [] }, dec := some false }], r0] (by kernel_rfl) (P1 (cs_l1In hr4) <| P2 (r4 = false) (eqF h5) <| P0)))
  (fun h2 H =>
    eW Rs_SumWays (fun _ => []) H <| gE func31 [rg [{ i := 2, call := some { cl := true, auto := true, ins := [], res := (RB r1), G' := [] }, dec := some false }], r0] (by kernel_rfl) (P1 (cs_dSumAsked hr1) <| P2 (r1 = false) (eqF h2) <| P0))
/-! loop example/g00886/impl WaysAtLeast -/
def Ri_WaysAtLeast (r : Int × Bool) : List D := [I r.1, .bool r.2]
noncomputable def Ki_WaysAtLeast : Si_WaysAtLeast → List Item
  | .h1 .. => nav 300 4 [false] [.code (bdy f32)]
def Zi_WaysAtLeast : Si_WaysAtLeast → St
  | .h1 sum0 many1 t2 t3 l4 => ⟨sts 33 [(1, I sum0), (6, I many1), (18, .ref 0 1 none), (19, I t2), (20, I t3)], [some ⟨false, false, 1, l4.length, List.map I l4⟩]⟩
abbrev Qi_WaysAtLeast := Nx X 32 0 Ki_WaysAtLeast Zi_WaysAtLeast Ri_WaysAtLeast (fun _ => [])
theorem ni_WaysAtLeast : ∀ s o, Bi_WaysAtLeast s = some o → Qi_WaysAtLeast (Ki_WaysAtLeast s) (Zi_WaysAtLeast s) o
  | .h1 sum0 many1 t2 t3 l4, o, H =>
    eIf H (fun h1 H =>
      eCk H fun h2 H =>
      eBind H fun x3 hx3 H =>
      gN [rg [hT 0], rg [hE 2 (I x3)]] (by kernel_rfl) (P2 ((decide (t3 < t2)) = true) (decide_eq_true h1) <| P1 h2 <| P1 (int_lt_of_at h2 hx3) <| P1 (at_map I hx3) <| P0) <|
      eIf H (fun h4 H =>
        eN H fun r hn => gO [rg [hT 2], r0, r0, .canon [0] [1, 6, 18, 19, 20]] (by kernel_rfl) (P2 ((decide (t3 ≥ sum0)) = true) (decide_eq_true h4) <| P0) hn)
      (fun h4 H =>
        eN H fun r hn => gO [rg [hF 2], r0, .canon [0] [1, 6, 18, 19, 20]] (by kernel_rfl) (P2 ((decide (t3 ≥ sum0)) = false) (decide_eq_false h4) <| P0) hn))
    (fun h1 H =>
      eN H <| gE func32 [rg [hF 0], r0] (by kernel_rfl) (P2 ((decide (t3 < t2)) = false) (decide_eq_false h1) <| P0))
theorem wi_WaysAtLeast : ∀ s r, loop Bi_WaysAtLeast s = some r → Wc X 32 0 (Ki_WaysAtLeast s) (Zi_WaysAtLeast s) (Ri_WaysAtLeast r) ((fun _ => []) r) := Nx.all ni_WaysAtLeast
theorem ci_WaysAtLeast {a0 : Int} {a1 : Int} {r : Int × Bool} (H : Di_WaysAtLeast a0 a1 = some r) : Ct X.P X.gl 32 [I a0, I a1] [] (Ri_WaysAtLeast r) [] :=
  Ct.of func32 (c := bdy f32) (by kernel_rfl) (by kernel_rfl) <|
  eBind H fun r1 hr1 H =>
  gS [r0] (by kernel_rfl) P0 <|
  eIf H (fun h2 H =>
    eBind H fun r3 hr3 H =>
    eIf H (fun h4 H =>
      eBind H fun r5 hr5 H =>
      gO [rg [{ i := 1, call := some { cl := true, auto := true, ins := [], res := (RB r1), G' := [] }, dec := some true }, { i := 5, call := some { cl := true, auto := true, ins := [], res := (RB r3), G' := [] }, dec := some true }], r0, rg [hC 1 true [] (Ri_waysOf r5) []], .canon [0] [1, 6, 18, 19, 20]] (by kernel_rfl) (P1 (ci_inRange hr1) <| P2 (r1 = true) (h2) <| P1 (ci_inRange hr3) <| P2 (r3 = true) (h4) <| P1 (ci_waysOf hr5) <| P0) (wi_WaysAtLeast _ _ H))
    (fun h4 H =>
      eW Ri_WaysAtLeast (fun _ => []) H <| gE func32 [rg [{ i := 1, call := some { cl := true, auto := true, ins := [], res := (RB r1), G' := [] }, dec := some true }, { i := 5, call := some { cl := true, auto := true, ins := [], res := (RB r3), G' := [] }, dec := some false }], r0] (by kernel_rfl) (P1 (ci_inRange hr1) <| P2 (r1 = true) (h2) <| P1 (ci_inRange hr3) <| P2 (r3 = false) (eqF h4) <| P0)))
  (fun h2 H =>
    eW Ri_WaysAtLeast (fun _ => []) H <| gE func32 [rg [{ i := 1, call := some { cl := true, auto := true, ins := [], res := (RB r1), G' := [] }, dec := some false }], r0] (by kernel_rfl) (P1 (ci_inRange hr1) <| P2 (r1 = false) (eqF h2) <| P0))
/-! loop example/g00886/spec WaysAtLeast -/
def Rs_WaysAtLeast (r : Int × Bool) : List D := [I r.1, .bool r.2]
noncomputable def Ks_WaysAtLeast : Ss_WaysAtLeast → List Item
  | .h1 .. => nav 300 4 [false] [.code (bdy f33)]
def Zs_WaysAtLeast : Ss_WaysAtLeast → St
  | .h1 sum0 total1 t2 t3 l4 => ⟨sts 29 [(1, I sum0), (6, I total1), (14, .ref 0 1 none), (15, I t2), (16, I t3)], [some ⟨false, false, 1, l4.length, List.map I l4⟩]⟩
abbrev Qs_WaysAtLeast := Nx X 33 0 Ks_WaysAtLeast Zs_WaysAtLeast Rs_WaysAtLeast (fun _ => [])
theorem ns_WaysAtLeast : ∀ s o, Bs_WaysAtLeast s = some o → Qs_WaysAtLeast (Ks_WaysAtLeast s) (Zs_WaysAtLeast s) o
  | .h1 sum0 total1 t2 t3 l4, o, H =>
    eIf H (fun h1 H =>
      eCk H fun h2 H =>
      eBind H fun x3 hx3 H =>
      gN [rg [hT 0], rg [hE 2 (I x3)]] (by kernel_rfl) (P2 ((decide (t3 < t2)) = true) (decide_eq_true h1) <| P1 h2 <| P1 (int_lt_of_at h2 hx3) <| P1 (at_map I hx3) <| P0) <|
      eIf H (fun h4 H =>
        eN H fun r hn => gO [rg [hT 2], r0, r0, .canon [0] [1, 6, 14, 15, 16]] (by kernel_rfl) (P2 ((decide (t3 ≥ sum0)) = true) (decide_eq_true h4) <| P0) hn)
      (fun h4 H =>
        eN H fun r hn => gO [rg [hF 2], r0, .canon [0] [1, 6, 14, 15, 16]] (by kernel_rfl) (P2 ((decide (t3 ≥ sum0)) = false) (decide_eq_false h4) <| P0) hn))
    (fun h1 H =>
      eN H <| gE func33 [rg [hF 0], r0] (by kernel_rfl) (P2 ((decide (t3 < t2)) = false) (decide_eq_false h1) <| P0))
theorem ws_WaysAtLeast : ∀ s r, loop Bs_WaysAtLeast s = some r → Wc X 33 0 (Ks_WaysAtLeast s) (Zs_WaysAtLeast s) (Rs_WaysAtLeast r) ((fun _ => []) r) := Nx.all ns_WaysAtLeast
theorem cs_WaysAtLeast {a0 : Int} {a1 : Int} {r : Int × Bool} (H : Ds_WaysAtLeast a0 a1 = some r) : Ct X.P X.gl 33 [I a0, I a1] [] (Rs_WaysAtLeast r) [] :=
  Ct.of func33 (c := bdy f33) (by kernel_rfl) (by kernel_rfl) <|
  eBind H fun r1 hr1 H =>
  gS [r0] (by kernel_rfl) P0 <|
  eIf H (fun h2 H =>
    eBind H fun r3 hr3 H =>
    gO [rg [{ i := 2, call := some { cl := true, auto := true, ins := [], res := (RB r1), G' := [] }, dec := some true }], r0, rg [hC 1 true [] (Rs_dWays r3) []], .canon [0] [1, 6, 14, 15, 16]] (by kernel_rfl) (P1 (cs_dSumAsked hr1) <| P2 (r1 = true) (h2) <| P1 (cs_dWays hr3) <| P0) (ws_WaysAtLeast _ _ H))
  (fun h2 H =>
    eW Rs_WaysAtLeast (fun _ => []) H <| gE func33 [rg [{ i := 2, call := some { cl := true, auto := true, ins := [], res := (RB r1), G' := [] }, dec := some false }], r0] (by kernel_rfl) (P1 (cs_dSumAsked hr1) <| P2 (r1 = false) (eqF h2) <| P0))
/-! loop example/g00886/spec DrawGreatestOf -/
def Rs_DrawGreatestOf (r : Int × Int) : List D := [I r.1, I r.2]
theorem cs_DrawGreatestOf {a0 : (List Int)} {r : Int × Int} (H : Ds_DrawGreatestOf a0 = some r) : Ct X.P X.gl 34 [sl 1 (D.int .u8) a0] [] (Rs_DrawGreatestOf r) [] :=
  Ct.of func34 (c := bdy f34) (by kernel_rfl) (by kernel_rfl) <|
  eBind H fun r1 hr1 H =>
  eBind H fun r2 hr2 H =>
  eW Rs_DrawGreatestOf (fun _ => []) H <| gE func34 [r0, r0, rg [hC 1 true [0] (Rs_l1Cur_pick r1) (Ns_l1Cur_pick r1), hC 3 true [0] (Rs_l1Cur_pick r2) (Ns_l1Cur_pick r2)]] (by kernel_rfl) (PI (1 : Nat) <| P1 (cs_l1Cur_pick hr1) <| PI (1 : Nat) <| P1 (cs_l1Cur_pick hr2) <| P0)
/-! loop example/g00886/impl GreatestOf -/
def Ri_GreatestOf (r : Int × Bool) : List D := [I r.1, .bool r.2]
noncomputable def Ki_GreatestOf : Si_GreatestOf → List Item
  | .h1 .. => nav 300 4 [false] [.code (bdy f35)]
def Zi_GreatestOf : Si_GreatestOf → St
  | .h1 vx0 vwith1 without2 t3 t4 => ⟨sts 30 [(1, I vx0), (6, I vwith1), (7, I without2), (16, I t3), (17, I t4)], []⟩
abbrev Qi_GreatestOf := Nx X 35 0 Ki_GreatestOf Zi_GreatestOf Ri_GreatestOf (fun _ => [])
theorem ni_GreatestOf : ∀ s o, Bi_GreatestOf s = some o → Qi_GreatestOf (Ki_GreatestOf s) (Zi_GreatestOf s) o
  | .h1 vx0 vwith1 without2 t3 t4, o, H =>
    eIf H (fun h1 H =>
      eN H fun r hn => gO [rg [hT 0], r0, r0, r0, .canon [] [1, 6, 7, 16, 17]] (by kernel_rfl) (P2 ((decide (t4 < t3)) = true) (decide_eq_true h1) <| P0) hn)
    (fun h1 H =>
      eN H <| gE func35 [rg [hF 0], r0] (by kernel_rfl) (P2 ((decide (t4 < t3)) = false) (decide_eq_false h1) <| P0))
theorem wi_GreatestOf : ∀ s r, loop Bi_GreatestOf s = some r → Wc X 35 0 (Ki_GreatestOf s) (Zi_GreatestOf s) (Ri_GreatestOf r) ((fun _ => []) r) := Nx.all ni_GreatestOf
theorem ci_GreatestOf {a0 : Int} {a1 : Int} {r : Int × Bool} (H : Di_GreatestOf a0 a1 = some r) : Ct X.P X.gl 35 [I a0, I a1] [] (Ri_GreatestOf r) [] :=
  Ct.of func35 (c := bdy f35) (by kernel_rfl) (by kernel_rfl) <|
  eBind H fun r1 hr1 H =>
  gS [r0] (by kernel_rfl) P0 <|
  eIf H (fun h2 H =>
    eBind H fun r3 hr3 H =>
    eIf H (fun h4 H =>
      gO [rg [{ i := 1, call := some { cl := true, auto := true, ins := [], res := (RB r1), G' := [] }, dec := some true }, { i := 5, call := some { cl := true, auto := true, ins := [], res := (RB r3), G' := [] }, dec := some true }], r0, r0, .canon [] [1, 6, 7, 16, 17]] (by kernel_rfl) (P1 (ci_inRange hr1) <| P2 (r1 = true) (h2) <| P1 (ci_inRange hr3) <| P2 (r3 = true) (h4) <| P0) (wi_GreatestOf _ _ H))
    (fun h4 H =>
      eW Ri_GreatestOf (fun _ => []) H <| gE func35 [rg [{ i := 1, call := some { cl := true, auto := true, ins := [], res := (RB r1), G' := [] }, dec := some true }, { i := 5, call := some { cl := true, auto := true, ins := [], res := (RB r3), G' := [] }, dec := some false }], r0] (by kernel_rfl) (P1 (ci_inRange hr1) <| P2 (r1 = true) (h2) <| P1 (ci_inRange hr3) <| P2 (r3 = false) (eqF h4) <| P0)))
  (fun h2 H =>
    eW Ri_GreatestOf (fun _ => []) H <| gE func35 [rg [{ i := 1, call := some { cl := true, auto := true, ins := [], res := (RB r1), G' := [] }, dec := some false }], r0] (by kernel_rfl) (P1 (ci_inRange hr1) <| P2 (r1 = false) (eqF h2) <| P0))
/-! loop example/g00886/spec GreatestOf -/
def Rs_GreatestOf (r : Int × Bool) : List D := [I r.1, .bool r.2]
noncomputable def Ks_GreatestOf : Ss_GreatestOf → List Item
  | .h1 .. => nav 300 3 [false] [.code (bdy f36)]
def Zs_GreatestOf : Ss_GreatestOf → St
  | .h1 n0 vx1 most2 less3 => ⟨sts 30 [(0, I n0), (1, I vx1), (6, I most2), (7, I less3)], []⟩
abbrev Qs_GreatestOf := Nx X 36 0 Ks_GreatestOf Zs_GreatestOf Rs_GreatestOf (fun _ => [])
theorem ns_GreatestOf : ∀ s o, Bs_GreatestOf s = some o → Qs_GreatestOf (Ks_GreatestOf s) (Zs_GreatestOf s) o
  | .h1 n0 vx1 most2 less3, o, H =>
    eIf H (fun h1 H =>
      eN H fun r hn => gO [rg [hT 1], r0, r0, r0, .canon [] [0, 1, 6, 7]] (by kernel_rfl) (P2 ((decide (n0 > 0)) = true) (decide_eq_true h1) <| P0) hn)
    (fun h1 H =>
      eN H <| gE func36 [rg [hF 1], r0] (by kernel_rfl) (P2 ((decide (n0 > 0)) = false) (decide_eq_false h1) <| P0))
theorem ws_GreatestOf : ∀ s r, loop Bs_GreatestOf s = some r → Wc X 36 0 (Ks_GreatestOf s) (Zs_GreatestOf s) (Rs_GreatestOf r) ((fun _ => []) r) := Nx.all ns_GreatestOf
theorem cs_GreatestOf {a0 : Int} {a1 : Int} {r : Int × Bool} (H : Ds_GreatestOf a0 a1 = some r) : Ct X.P X.gl 36 [I a0, I a1] [] (Rs_GreatestOf r) [] :=
  Ct.of func36 (c := bdy f36) (by kernel_rfl) (by kernel_rfl) <|
  eBind H fun r1 hr1 H =>
  gS [r0] (by kernel_rfl) P0 <|
  eIf H (fun h2 H =>
    eBind H fun r3 hr3 H =>
    eIf H (fun h4 H =>
      gO [rg [{ i := 1, call := some { cl := true, auto := true, ins := [], res := (RB r1), G' := [] }, dec := some true }, { i := 5, call := some { cl := true, auto := true, ins := [], res := (RB r3), G' := [] }, dec := some true }], r0, .canon [] [0, 1, 6, 7]] (by kernel_rfl) (P1 (cs_l1In hr1) <| P2 (r1 = true) (h2) <| P1 (cs_l1In hr3) <| P2 (r3 = true) (h4) <| P0) (ws_GreatestOf _ _ H))
    (fun h4 H =>
      eW Rs_GreatestOf (fun _ => []) H <| gE func36 [rg [{ i := 1, call := some { cl := true, auto := true, ins := [], res := (RB r1), G' := [] }, dec := some true }, { i := 5, call := some { cl := true, auto := true, ins := [], res := (RB r3), G' := [] }, dec := some false }], r0] (by kernel_rfl) (P1 (cs_l1In hr1) <| P2 (r1 = true) (h2) <| P1 (cs_l1In hr3) <| P2 (r3 = false) (eqF h4) <| P0)))
  (fun h2 H =>
    eW Rs_GreatestOf (fun _ => []) H <| gE func36 [rg [{ i := 1, call := some { cl := true, auto := true, ins := [], res := (RB r1), G' := [] }, dec := some false }], r0] (by kernel_rfl) (P1 (cs_l1In hr1) <| P2 (r1 = false) (eqF h2) <| P0))
/-! loop example/g00886/spec DrawMixNumbers -/
def Rs_DrawMixNumbers (r : (List Int)) : List D := [ow 1 I r]
noncomputable def Ks_DrawMixNumbers : Ss_DrawMixNumbers → List Item
  | .h1 .. => nav 300 4 [] [.code (bdy f37)]
def Zs_DrawMixNumbers : Ss_DrawMixNumbers → St
  | .h1 k0 b1 l2 => ⟨sts 38 [(3, .ptr 0 3 0 0), (4, .ref 1 1 none), (5, I k0)], [some ⟨false, true, 3, 1, [.agg [sl 1 (D.int .u8) b1.code, I b1.at_, .int .u64 b1.seed]]⟩, some ⟨false, false, 1, l2.length, List.map I l2⟩]⟩
abbrev Qs_DrawMixNumbers := Nx X 37 0 Ks_DrawMixNumbers Zs_DrawMixNumbers Rs_DrawMixNumbers (fun _ => [])
theorem ns_DrawMixNumbers : ∀ s o, Bs_DrawMixNumbers s = some o → Qs_DrawMixNumbers (Ks_DrawMixNumbers s) (Zs_DrawMixNumbers s) o
  | .h1 k0 b1 l2, o, H =>
    eIf H (fun h1 H =>
      eBind H fun r2 hr2 H =>
      eCk H fun h3 H =>
      eN H fun r hn => gO [rg [hT 1], rg [hC 2 true [0] (Rs_l1Cur_pick r2) (Ns_l1Cur_pick r2), hA 5 ((l2 ++ [(IntKind.wrap .i64 (r2.1 - 30000))]).length) (List.map I (l2 ++ [(IntKind.wrap .i64 (r2.1 - 30000))]))], r0, .canon [0, 3] [3, 4, 5]] (by kernel_rfl) (P2 ((decide (k0 > 0)) = true) (decide_eq_true h1) <| PI (1 : Nat) <| P1 (cs_l1Cur_pick hr2) <| P1 (apL l2 [(IntKind.wrap .i64 (r2.1 - 30000))]) <| P1 (apB h3) <| P1 (apM I l2 [(IntKind.wrap .i64 (r2.1 - 30000))]) <| P0) hn)
    (fun h1 H =>
      eBind H fun r2 hr2 H =>
      gN [rg [hF 1], rg [hC 1 true [0] (Rs_l1Cur_pick r2) (Ns_l1Cur_pick r2)]] (by kernel_rfl) (P2 ((decide (k0 > 0)) = false) (decide_eq_false h1) <| PI (1 : Nat) <| P1 (cs_l1Cur_pick hr2) <| P0) <|
      eIf H (fun h3 H =>
        eBind H fun r4 hr4 H =>
        eCk H fun h5 H =>
        eCk H fun h6 H =>
        eN H <| gE func37 [rg [hT 0], rg [hC 1 true [0] (Rs_l1Cur_pick r4) (Ns_l1Cur_pick r4), hA 3 ((List.replicate (Int.toNat (IntKind.wrap .i64 (200 + r4.1))) (0 : Int)).length) (List.map I (List.replicate (Int.toNat (IntKind.wrap .i64 (200 + r4.1))) (0 : Int)))]] (by kernel_rfl) (P2 (((r2.1 : Int) == 0) = true) (beqT h3) <| PI (1 : Nat) <| P1 (cs_l1Cur_pick hr4) <| PI (IntKind.wrap .i64 (200 + r4.1) : Int) <| P2 ((0 : Int) ≤ (IntKind.wrap .i64 (200 + r4.1))) h5 <| P2 (Int.toNat (IntKind.wrap .i64 (200 + r4.1)) * 8 ≤ 140737488355328) h6 <| P1 (repLen (Int.toNat (IntKind.wrap .i64 (200 + r4.1))) (0 : Int)) <| P1 (repMap I (Int.toNat (IntKind.wrap .i64 (200 + r4.1))) (0 : Int)) <| P0))
      (fun h3 H =>
        gN [rg [hF 0]] (by kernel_rfl) (P2 (((r2.1 : Int) == 0) = false) (beqF h3) <| P0) <|
        eIf H (fun h4 H =>
          eBind H fun r5 hr5 H =>
          eCk H fun h6 H =>
          eN H <| gE func37 [rg [hT 0], rg [{ i := 3, frz := [2], call := some { cl := true, auto := true, ins := [0], res := (Rs_l1Cur_among r5), G' := (Ns_l1Cur_among r5) } }, hA 5 ((l2 ++ [r5.1]).length) (List.map I (l2 ++ [r5.1]))], r0] (by kernel_rfl) (P2 (((r2.1 : Int) == 1) = true) (beqT h4) <| PI (1 : Nat) <| P1 (cs_l1Cur_among hr5) <| P1 (apL l2 [r5.1]) <| P1 (apB h6) <| P1 (apM I l2 [r5.1]) <| P0))
        (fun h4 H =>
          eN H <| gE func37 [rg [hF 0], r0] (by kernel_rfl) (P2 (((r2.1 : Int) == 1) = false) (beqF h4) <| P0))))
theorem ws_DrawMixNumbers : ∀ s r, loop Bs_DrawMixNumbers s = some r → Wc X 37 0 (Ks_DrawMixNumbers s) (Zs_DrawMixNumbers s) (Rs_DrawMixNumbers r) ((fun _ => []) r) := Nx.all ns_DrawMixNumbers
theorem cs_DrawMixNumbers {a0 : (List Int)} {r : (List Int)} (H : Ds_DrawMixNumbers a0 = some r) : Ct X.P X.gl 37 [sl 1 (D.int .u8) a0] [] (Rs_DrawMixNumbers r) [] :=
  Ct.of func37 (c := bdy f37) (by kernel_rfl) (by kernel_rfl) <|
  eBind H fun r1 hr1 H =>
  gO [r0, r0, r0, rg [hC 1 true [0] (Rs_l1Cur_pick r1) (Ns_l1Cur_pick r1)], .own 4 1, .canon [0, 1] [3, 4, 5]] (by kernel_rfl) (PI (1 : Nat) <| P1 (cs_l1Cur_pick hr1) <| P0) (ws_DrawMixNumbers _ _ H)
/-! loop example/g00886/impl residue -/
theorem ci_residue {a0 : Int} {a1 : Int} {r : Int} (H : Di_residue a0 a1 = some r) : Ct X.P X.gl 125 [I a0, I a1] [] (RI r) [] :=
  Ct.of func125 (c := bdy f125) (by kernel_rfl) (by kernel_rfl) <|
  eCk H fun h1 H =>
  eCk H fun h2 H =>
  eW RI (fun _ => []) H <| gE func125 [r0, r0] (by kernel_rfl) (P2 (¬ (a1 : Int) = 0) h1 <| P2 (¬ (a1 : Int) = 0) h2 <| P0)
/-! loop example/g00886/impl mixParts 1 -/
def Ri_mixParts_1 (r : Int × Int) : List D := []
def Ni_mixParts_1 (r : Int × Int) : List Root := [⟨false, true, 1, 1, [.agg [I r.1]]⟩, ⟨false, true, 1, 1, [.agg [I r.2]]⟩]
theorem ci_mixParts_1 {a0 : Int} {a1 : Int} {a2 : Int} {r : Int × Int} (H : Di_mixParts_1 a0 a1 a2 = some r) : Ct X.P X.gl 124 [I a0, .ptr 0 1 0 0, .ptr 1 1 0 0] [⟨false, true, 1, 1, [.agg [I a1]]⟩, ⟨false, true, 1, 1, [.agg [I a2]]⟩] (Ri_mixParts_1 r) (Ni_mixParts_1 r) :=
  Ct.of func124 (c := bdy f124) (by kernel_rfl) (by kernel_rfl) <|
  eBind H fun r1 hr1 H =>
  eBind H fun r2 hr2 H =>
  eW Ri_mixParts_1 Ni_mixParts_1 H <| gE func124 [rg [hC 3 true [] (RI r1) []], rg [hC 3 true [] (RI r2) []]] (by kernel_rfl) (P1 (ci_residue hr1) <| P2 (¬ (2147483647 : Int) = 0) (by decide) <| P1 (ci_residue hr2) <| P2 (¬ (2147483629 : Int) = 0) (by decide) <| P0)
/-! loop example/g00886/impl mixParts -/
def Ri_mixParts (r : Int × Int) : List D := [I r.1, I r.2]
noncomputable def Ki_mixParts : Si_mixParts → List Item
  | .h1 .. => nav 300 4 [] [.code (bdy f109)]
  | .h2 .. => nav 300 6 [false] [.code (bdy f109)]
def Zi_mixParts : Si_mixParts → St
  | .h1 t0 t1 t2 b3 b4 => ⟨sts 30 [(4, .ptr 0 1 0 0), (5, .ptr 1 1 0 0), (6, .fn 124 [.ptr 0 1 0 0, .ptr 1 1 0 0]), (13, sl 1 I t0), (14, I t1), (15, I t2)], [some ⟨false, true, 1, 1, [.agg [I b3]]⟩, some ⟨false, true, 1, 1, [.agg [I b4]]⟩]⟩
  | .h2 t0 b1 b2 => ⟨sts 30 [(4, .ptr 0 1 0 0), (5, .ptr 1 1 0 0), (6, .fn 124 [.ptr 0 1 0 0, .ptr 1 1 0 0]), (23, I t0)], [some ⟨false, true, 1, 1, [.agg [I b1]]⟩, some ⟨false, true, 1, 1, [.agg [I b2]]⟩]⟩
abbrev Qi_mixParts := Nx X 109 0 Ki_mixParts Zi_mixParts Ri_mixParts (fun _ => [])
theorem ni_mixParts : ∀ s o, Bi_mixParts s = some o → Qi_mixParts (Ki_mixParts s) (Zi_mixParts s) o
  | .h1 t0 t1 t2 b3 b4, o, H =>
    eIf H (fun h1 H =>
      eCk H fun h2 H =>
      eBind H fun x3 hx3 H =>
      eBind H fun r4 hr4 H =>
      eN H fun r hn => gO [rg [hT 0], rg [hE 1 (I x3)], rg [hC 2 true [0, 1] (Ri_mixParts_1 r4) (Ni_mixParts_1 r4)], r0, .canon [0, 1] [4, 5, 6, 13, 14, 15]] (by kernel_rfl) (P2 ((decide (t2 < t1)) = true) (decide_eq_true h1) <| P1 h2 <| P1 (int_lt_of_at h2 hx3) <| P1 (at_map I hx3) <| PI (1 : Nat) <| PI (1 : Nat) <| P1 (ci_mixParts_1 hr4) <| P0) hn)
    (fun h1 H =>
      eN H fun r hn => gO [rg [hF 0], r0, .canon [0, 1] [4, 5, 6, 23]] (by kernel_rfl) (P2 ((decide (t2 < t1)) = false) (decide_eq_false h1) <| P0) hn)
  | .h2 t0 b1 b2, o, H =>
    eIf H (fun h1 H =>
      eBind H fun r2 hr2 H =>
      eN H fun r hn => gO [rg [hT 0], rg [hC 1 true [0, 1] (Ri_mixParts_1 r2) (Ni_mixParts_1 r2)], r0, .canon [0, 1] [4, 5, 6, 23]] (by kernel_rfl) (P2 ((decide (t0 < 3)) = true) (decide_eq_true h1) <| PI (1 : Nat) <| PI (1 : Nat) <| P1 (ci_mixParts_1 hr2) <| P0) hn)
    (fun h1 H =>
      eN H <| gE func109 [rg [hF 0], r0] (by kernel_rfl) (P2 ((decide (t0 < 3)) = false) (decide_eq_false h1) <| P0))
theorem wi_mixParts : ∀ s r, loop Bi_mixParts s = some r → Wc X 109 0 (Ki_mixParts s) (Zi_mixParts s) (Ri_mixParts r) ((fun _ => []) r) := Nx.all ni_mixParts
theorem ci_mixParts {a0 : (List Int)} {r : Int × Int} (H : Di_mixParts a0 = some r) : Ct X.P X.gl 109 [sl 1 I a0] [] (Ri_mixParts r) [] :=
  Ct.of func109 (c := bdy f109) (by kernel_rfl) (by kernel_rfl) <|
  gO [r0, r0, r0, r0, .canon [0, 1] [4, 5, 6, 13, 14, 15]] (by kernel_rfl) P0 (wi_mixParts _ _ H)
/-! loop example/g00886/impl mix -/
theorem ci_mix {a0 : (List Int)} {r : Int} (H : Di_mix a0 = some r) : Ct X.P X.gl 81 [sl 1 I a0] [] (RI r) [] :=
  Ct.of func81 (c := bdy f81) (by kernel_rfl) (by kernel_rfl) <|
  eBind H fun r1 hr1 H =>
  eW RI (fun _ => []) H <| gE func81 [r0, rg [hC 1 true [] (Ri_mixParts r1) []], r0] (by kernel_rfl) (P1 (ci_mixParts hr1) <| P2 ((0 : Int) ≤ 31) (by decide) <| P0)
/-! loop example/g00886/impl MixNumbers -/
def Ri_MixNumbers (r : Int × Bool) : List D := [I r.1, .bool r.2]
theorem ci_MixNumbers {a0 : (List Int)} {r : Int × Bool} (H : Di_MixNumbers a0 = some r) : Ct X.P X.gl 38 [sl 1 I a0] [] (Ri_MixNumbers r) [] :=
  Ct.of func38 (c := bdy f38) (by kernel_rfl) (by kernel_rfl) <|
  gS [r0] (by kernel_rfl) P0 <|
  eIf H (fun h1 H =>
    eW Ri_MixNumbers (fun _ => []) H <| gE func38 [rg [hT 2], r0] (by kernel_rfl) (P2 ((decide (((a0.length : Nat) : Int) > 200)) = true) (decide_eq_true h1) <| P0))
  (fun h1 H =>
    eBind H fun r2 hr2 H =>
    eW Ri_MixNumbers (fun _ => []) H <| gE func38 [rg [hF 2], rg [hC 1 true [] (RI r2) []]] (by kernel_rfl) (P2 ((decide (((a0.length : Nat) : Int) > 200)) = false) (decide_eq_false h1) <| P1 (ci_mix hr2) <| P0))
/-! loop example/g00886/spec dMod -/
theorem cs_dMod {a0 : Int} {a1 : Int} {r : Int} (H : Ds_dMod a0 a1 = some r) : Ct X.P X.gl 126 [I a0, I a1] [] (RI r) [] :=
  Ct.of func126 (c := bdy f126) (by kernel_rfl) (by kernel_rfl) <|
  eCk H fun h1 H =>
  eCk H fun h2 H =>
  eW RI (fun _ => []) H <| gE func126 [r0, r0] (by kernel_rfl) (P2 (¬ (a1 : Int) = 0) h1 <| P2 (¬ (a1 : Int) = 0) h2 <| P0)
/-! loop example/g00886/spec dMix -/
def Rs_dMix (r : Int × Int) : List D := [I r.1, I r.2]
noncomputable def Ks_dMix : Ss_dMix → List Item
  | .h1 .. => nav 300 3 [] [.code (bdy f110)]
def Zs_dMix : Ss_dMix → St
  | .h1 l0 va1 b2 i3 => ⟨sts 44 [(0, sl 1 I l0), (4, I va1), (5, I b2), (6, I i3)], []⟩
abbrev Qs_dMix := Nx X 110 0 Ks_dMix Zs_dMix Rs_dMix (fun _ => [])
theorem ns_dMix : ∀ s o, Bs_dMix s = some o → Qs_dMix (Ks_dMix s) (Zs_dMix s) o
  | .h1 l0 va1 b2 i3, o, H =>
    eIf H (fun h1 H =>
      gN [rg [hT 4], r0] (by kernel_rfl) (P2 ((decide (i3 < (IntKind.wrap .i64 (((l0.length : Nat) : Int) + 3)))) = true) (decide_eq_true h1) <| P0) <|
      eIf H (fun h2 H =>
        eCk H fun h3 H =>
        eBind H fun x4 hx4 H =>
        eBind H fun r5 hr5 H =>
        eBind H fun r6 hr6 H =>
        eN H fun r hn => gO [rg [hT 3], rg [hE 3 (I x4)], rg [hC 3 true [] (RI r5) []], rg [hC 3 true [] (RI r6) []], r0, .canon [] [0, 4, 5, 6]] (by kernel_rfl) (P2 ((decide (i3 < ((l0.length : Nat) : Int))) = true) (decide_eq_true h2) <| P1 h3 <| P1 (int_lt_of_at h3 hx4) <| P1 (at_map I hx4) <| P1 (cs_dMod hr5) <| P2 (¬ (2147483647 : Int) = 0) (by decide) <| P1 (cs_dMod hr6) <| P2 (¬ (2147483629 : Int) = 0) (by decide) <| P0) hn)
      (fun h2 H =>
        eBind H fun r3 hr3 H =>
        eBind H fun r4 hr4 H =>
        eN H fun r hn => gO [rg [hF 3], rg [hC 3 true [] (RI r3) []], rg [hC 3 true [] (RI r4) []], r0, .canon [] [0, 4, 5, 6]] (by kernel_rfl) (P2 ((decide (i3 < ((l0.length : Nat) : Int))) = false) (decide_eq_false h2) <| P1 (cs_dMod hr3) <| P2 (¬ (2147483647 : Int) = 0) (by decide) <| P1 (cs_dMod hr4) <| P2 (¬ (2147483629 : Int) = 0) (by decide) <| P0) hn))
    (fun h1 H =>
      eN H <| gE func110 [rg [hF 4], r0] (by kernel_rfl) (P2 ((decide (i3 < (IntKind.wrap .i64 (((l0.length : Nat) : Int) + 3)))) = false) (decide_eq_false h1) <| P0))
theorem ws_dMix : ∀ s r, loop Bs_dMix s = some r → Wc X 110 0 (Ks_dMix s) (Zs_dMix s) (Rs_dMix r) ((fun _ => []) r) := Nx.all ns_dMix
theorem cs_dMix {a0 : (List Int)} {r : Int × Int} (H : Ds_dMix a0 = some r) : Ct X.P X.gl 110 [sl 1 I a0] [] (Rs_dMix r) [] :=
  Ct.of func110 (c := bdy f110) (by kernel_rfl) (by kernel_rfl) <|
  gO [r0, r0, r0, .canon [] [0, 4, 5, 6]] (by kernel_rfl) P0 (ws_dMix _ _ H)
/-! loop example/g00886/spec dHash -/
theorem cs_dHash {a0 : (List Int)} {r : Int} (H : Ds_dHash a0 = some r) : Ct X.P X.gl 82 [sl 1 I a0] [] (RI r) [] :=
  Ct.of func82 (c := bdy f82) (by kernel_rfl) (by kernel_rfl) <|
  eBind H fun r1 hr1 H =>
  eW RI (fun _ => []) H <| gE func82 [r0, rg [hC 1 true [] (Rs_dMix r1) []], r0] (by kernel_rfl) (P1 (cs_dMix hr1) <| P2 ((0 : Int) ≤ 31) (by decide) <| P0)
/-! loop example/g00886/spec MixNumbers -/
def Rs_MixNumbers (r : Int × Bool) : List D := [I r.1, .bool r.2]
theorem cs_MixNumbers {a0 : (List Int)} {r : Int × Bool} (H : Ds_MixNumbers a0 = some r) : Ct X.P X.gl 39 [sl 1 I a0] [] (Rs_MixNumbers r) [] :=
  Ct.of func39 (c := bdy f39) (by kernel_rfl) (by kernel_rfl) <|
  gS [r0] (by kernel_rfl) P0 <|
  eIf H (fun h1 H =>
    eW Rs_MixNumbers (fun _ => []) H <| gE func39 [rg [hT 2], r0] (by kernel_rfl) (P2 ((decide (((a0.length : Nat) : Int) > 200)) = true) (decide_eq_true h1) <| P0))
  (fun h1 H =>
    eBind H fun r2 hr2 H =>
    eW Rs_MixNumbers (fun _ => []) H <| gE func39 [rg [hF 2], rg [hC 1 true [] (RI r2) []]] (by kernel_rfl) (P2 ((decide (((a0.length : Nat) : Int) > 200)) = false) (decide_eq_false h1) <| P1 (cs_dHash hr2) <| P0))
/-!   loop example/g00886/spec l1Cur  one -/
def Rs_l1Cur_one (r : Bool × Gs_l1Cur) : List D := [.bool r.1]
def Ns_l1Cur_one (r : Bool × Gs_l1Cur) : List Root := [⟨false, true, 3, 1, [.agg [sl 1 (D.int .u8) r.2.code, I r.2.at_, .int .u64 r.2.seed]]⟩]
theorem cs_l1Cur_one {a0 : Gs_l1Cur} {a1 : Int} {r : Bool × Gs_l1Cur} (H : Ds_l1Cur_one a0 a1 = some r) : Ct X.P X.gl 106 [.ptr 0 3 0 0, I a1] [⟨false, true, 3, 1, [.agg [sl 1 (D.int .u8) a0.code, I a0.at_, .int .u64 a0.seed]]⟩] (Rs_l1Cur_one r) (Ns_l1Cur_one r) :=
  Ct.of func106 (c := bdy f106) (by kernel_rfl) (by kernel_rfl) <|
  eBind H fun r1 hr1 H =>
  eW Rs_l1Cur_one Ns_l1Cur_one H <| gE func106 [r0, rg [hC 2 true [0] (Rs_l1Cur_pick r1) (Ns_l1Cur_pick r1)]] (by kernel_rfl) (PI (1 : Nat) <| P1 (cs_l1Cur_pick hr1) <| P0)
/-!   loop example/g00886/spec l1Cur  seedOf -/
def Rs_l1Cur_seedOf (r : Int × Gs_l1Cur) : List D := [I r.1]
def Ns_l1Cur_seedOf (r : Int × Gs_l1Cur) : List Root := [⟨false, true, 3, 1, [.agg [sl 1 (D.int .u8) r.2.code, I r.2.at_, .int .u64 r.2.seed]]⟩]
theorem cs_l1Cur_seedOf {a0 : Gs_l1Cur} {r : Int × Gs_l1Cur} (H : Ds_l1Cur_seedOf a0 = some r) : Ct X.P X.gl 107 [.ptr 0 3 0 0] [⟨false, true, 3, 1, [.agg [sl 1 (D.int .u8) a0.code, I a0.at_, .int .u64 a0.seed]]⟩] (Rs_l1Cur_seedOf r) (Ns_l1Cur_seedOf r) :=
  Ct.of func107 (c := bdy f107) (by kernel_rfl) (by kernel_rfl) <|
  eBind H fun r1 hr1 H =>
  gS [r0, rg [hC 1 true [0] (Rs_l1Cur_pick r1) (Ns_l1Cur_pick r1)]] (by kernel_rfl) (PI (1 : Nat) <| P1 (cs_l1Cur_pick hr1) <| P0) <|
  eIf H (fun h2 H =>
    eW Rs_l1Cur_seedOf Ns_l1Cur_seedOf H <| gE func107 [rg [hT 0], r0] (by kernel_rfl) (P2 (((r1.1 : Int) == 0) = true) (beqT h2) <| P0))
  (fun h2 H =>
    gS [rg [hF 0]] (by kernel_rfl) (P2 (((r1.1 : Int) == 0) = false) (beqF h2) <| P0) <|
    eIf H (fun h3 H =>
      eBind H fun r4 hr4 H =>
      eW Rs_l1Cur_seedOf Ns_l1Cur_seedOf H <| gE func107 [rg [hT 0], rg [{ i := 2, frz := [1], call := some { cl := true, auto := true, ins := [0], res := (Rs_l1Cur_among r4), G' := (Ns_l1Cur_among r4) } }]] (by kernel_rfl) (P2 (((r1.1 : Int) == 1) = true) (beqT h3) <| PI (1 : Nat) <| P1 (cs_l1Cur_among hr4) <| P0))
    (fun h3 H =>
      eBind H fun r4 hr4 H =>
      eW Rs_l1Cur_seedOf Ns_l1Cur_seedOf H <| gE func107 [rg [hF 0], rg [hC 1 true [0] (Rs_l1Cur_pick r4) (Ns_l1Cur_pick r4)]] (by kernel_rfl) (P2 (((r1.1 : Int) == 1) = false) (beqF h3) <| PI (1 : Nat) <| P1 (cs_l1Cur_pick hr4) <| P0)))
/-!   loop example/g00886/spec l1Cur  anySeed -/
def Rs_l1Cur_anySeed (r : Int × Gs_l1Cur) : List D := [I r.1]
def Ns_l1Cur_anySeed (r : Int × Gs_l1Cur) : List Root := [⟨false, true, 3, 1, [.agg [sl 1 (D.int .u8) r.2.code, I r.2.at_, .int .u64 r.2.seed]]⟩]
theorem cs_l1Cur_anySeed {a0 : Gs_l1Cur} {r : Int × Gs_l1Cur} (H : Ds_l1Cur_anySeed a0 = some r) : Ct X.P X.gl 63 [.ptr 0 3 0 0] [⟨false, true, 3, 1, [.agg [sl 1 (D.int .u8) a0.code, I a0.at_, .int .u64 a0.seed]]⟩] (Rs_l1Cur_anySeed r) (Ns_l1Cur_anySeed r) :=
  Ct.of func63 (c := bdy f63) (by kernel_rfl) (by kernel_rfl) <|
  eBind H fun r1 hr1 H =>
  gS [r0] (by kernel_rfl) P0 <|
  eIf H (fun h2 H =>
    eBind H fun r3 hr3 H =>
    eW Rs_l1Cur_anySeed Ns_l1Cur_anySeed H <| gE func63 [rg [{ i := 1, call := some { cl := true, auto := true, ins := [0], res := (Rs_l1Cur_one r1), G' := (Ns_l1Cur_one r1) }, dec := some true }], rg [{ i := 2, frz := [1], call := some { cl := true, auto := true, ins := [0], res := (Rs_l1Cur_among r3), G' := (Ns_l1Cur_among r3) } }]] (by kernel_rfl) (PI (1 : Nat) <| P1 (cs_l1Cur_one hr1) <| P2 (r1.1 = true) (h2) <| PI (1 : Nat) <| P1 (cs_l1Cur_among hr3) <| P0))
  (fun h2 H =>
    eBind H fun r3 hr3 H =>
    eW Rs_l1Cur_anySeed Ns_l1Cur_anySeed H <| gE func63 [rg [{ i := 1, call := some { cl := true, auto := true, ins := [0], res := (Rs_l1Cur_one r1), G' := (Ns_l1Cur_one r1) }, dec := some false }], rg [hC 1 true [0] (Rs_l1Cur_seedOf r3) (Ns_l1Cur_seedOf r3)]] (by kernel_rfl) (PI (1 : Nat) <| P1 (cs_l1Cur_one hr1) <| P2 (r1.1 = false) (eqF h2) <| PI (1 : Nat) <| P1 (cs_l1Cur_seedOf hr3) <| P0))
/-!   loop example/g00886/spec l1Cur  of -/
def Rs_l1Cur_of (r : ByteArray × Gs_l1Cur) : List D := [.str r.1]
def Ns_l1Cur_of (r : ByteArray × Gs_l1Cur) : List Root := [⟨false, true, 3, 1, [.agg [sl 1 (D.int .u8) r.2.code, I r.2.at_, .int .u64 r.2.seed]]⟩]
theorem cs_l1Cur_of {a0 : Gs_l1Cur} {a1 : (List ByteArray)} {r : ByteArray × Gs_l1Cur} (H : Ds_l1Cur_of a0 a1 = some r) : Ct X.P X.gl 83 [.ptr 0 3 0 0, sl 1 D.str a1] [⟨false, true, 3, 1, [.agg [sl 1 (D.int .u8) a0.code, I a0.at_, .int .u64 a0.seed]]⟩] (Rs_l1Cur_of r) (Ns_l1Cur_of r) :=
  Ct.of func83 (c := bdy f83) (by kernel_rfl) (by kernel_rfl) <|
  eBind H fun r1 hr1 H =>
  eCk H fun h2 H =>
  eBind H fun x3 hx3 H =>
  eW Rs_l1Cur_of Ns_l1Cur_of H <| gE func83 [r0, rg [hC 4 true [0] (Rs_l1Cur_pick r1) (Ns_l1Cur_pick r1), hE 6 (D.str x3)]] (by kernel_rfl) (PI (1 : Nat) <| P1 (cs_l1Cur_pick hr1) <| P1 h2 <| P1 (int_lt_of_at h2 hx3) <| P1 (at_map D.str hx3) <| P0)
/-! loop example/g00886/spec DrawChildSeed -/
def Rs_DrawChildSeed (r : Int × ByteArray) : List D := [I r.1, .str r.2]
theorem cs_DrawChildSeed {a0 : (List Int)} {r : Int × ByteArray} (H : Ds_DrawChildSeed a0 = some r) : Ct X.P X.gl 40 [sl 1 (D.int .u8) a0] [] (Rs_DrawChildSeed r) [] :=
  Ct.of func40 (c := bdy f40) (by kernel_rfl) (by kernel_rfl) <|
  eBind H fun r1 hr1 H =>
  eBind H fun r2 hr2 H =>
  eW Rs_DrawChildSeed (fun _ => []) H <| gE func40 [r0, r0, rg [hC 1 true [0] (Rs_l1Cur_anySeed r1) (Ns_l1Cur_anySeed r1), { i := 4, frz := [1], call := some { cl := true, auto := true, ins := [0], res := (Rs_l1Cur_of r2), G' := (Ns_l1Cur_of r2) } }]] (by kernel_rfl) (PI (1 : Nat) <| P1 (cs_l1Cur_anySeed hr1) <| PI (1 : Nat) <| P1 (cs_l1Cur_of hr2) <| P0)
/-! loop example/g00886/impl isSeed -/
theorem ci_isSeed {a0 : Int} {r : Bool} (H : Di_isSeed a0 = some r) : Ct X.P X.gl 66 [I a0] [] (RB r) [] :=
  Ct.of func66 (c := bdy f66) (by kernel_rfl) (by kernel_rfl) <|
  eBind H fun r1 hr1 H =>
  eW RB (fun _ => []) H <| gE func66 [r0, rg [hC 1 true [] (RB r1) []]] (by kernel_rfl) (P1 (ci_inRange hr1) <| P0)
/-! loop example/g00886/impl withBytes -/
def Ri_withBytes (r : (List Int)) : List D := [ow 1 I r]
def Ni_withBytes (r : (List Int)) : List Root := [deadR]
noncomputable def Ki_withBytes : Si_withBytes → List Item
  | .h1 .. => nav 300 2 [] [.code (bdy f84)]
def Zi_withBytes : Si_withBytes → St
  | .h1 s0 k1 l2 => ⟨sts 20 [(0, .ref 1 1 none), (1, .str s0), (5, I k1)], [none, some ⟨false, false, 1, l2.length, List.map I l2⟩]⟩
abbrev Qi_withBytes := Nx X 84 1 Ki_withBytes Zi_withBytes Ri_withBytes Ni_withBytes
theorem ni_withBytes : ∀ s o, Bi_withBytes s = some o → Qi_withBytes (Ki_withBytes s) (Zi_withBytes s) o
  | .h1 s0 k1 l2, o, H =>
    eIf H (fun h1 H =>
      eCk H fun h2 H =>
      eCk H fun h3 H =>
      eCk H fun h4 H =>
      eN H fun r hn => gO [rg [hT 3], rg [{ i := 3, n := byteAt s0 (Int.toNat k1) }, hA 6 ((l2 ++ [(IntKind.wrap .i64 ((byteAt s0 (Int.toNat k1) : Nat) : Int))]).length) (List.map I (l2 ++ [(IntKind.wrap .i64 ((byteAt s0 (Int.toNat k1) : Nat) : Int))]))], r0, .canon [0, 3] [0, 1, 5]] (by kernel_rfl) (P2 ((decide (k1 < ((ByteArray.size s0 : Nat) : Int))) = true) (decide_eq_true h1) <| P2 ((0 : Int) ≤ k1) h2 <| P2 (k1 < (ByteArray.size s0 : Int)) h3 <| P2 ((s0.data.toList[(Int.toNat k1)]?.map fun b => (b.toNat : Int)) = some ((byteAt s0 (Int.toNat k1) : Nat) : Int)) (byteAt_ok (by omega)) <| P1 (apL l2 [(IntKind.wrap .i64 ((byteAt s0 (Int.toNat k1) : Nat) : Int))]) <| P1 (apB h4) <| P1 (apM I l2 [(IntKind.wrap .i64 ((byteAt s0 (Int.toNat k1) : Nat) : Int))]) <| P0) hn)
    (fun h1 H =>
      eN H <| gE func84 [rg [hF 3], r0] (by kernel_rfl) (P2 ((decide (k1 < ((ByteArray.size s0 : Nat) : Int))) = false) (decide_eq_false h1) <| P0))
theorem wi_withBytes : ∀ s r, loop Bi_withBytes s = some r → Wc X 84 1 (Ki_withBytes s) (Zi_withBytes s) (Ri_withBytes r) (Ni_withBytes r) := Nx.all ni_withBytes
theorem ci_withBytes {a0 : (List Int)} {a1 : ByteArray} {r : (List Int)} (H : Di_withBytes a0 a1 = some r) : Ct X.P X.gl 84 [.ref 0 1 none, .str a1] [⟨false, false, 1, a0.length, List.map I a0⟩] (Ri_withBytes r) (Ni_withBytes r) :=
  Ct.of func84 (c := bdy f84) (by kernel_rfl) (by kernel_rfl) <|
  gO [.whole 0, r0, r0, .canon [0, 1] [0, 1, 5]] (by kernel_rfl) (P1 (allFl_3 a0) <| P0) (wi_withBytes _ _ H)
/-! loop example/g00886/impl ChildSeed -/
def Ri_ChildSeed (r : Int × Bool) : List D := [I r.1, .bool r.2]
theorem ci_ChildSeed {a0 : Int} {a1 : ByteArray} {r : Int × Bool} (H : Di_ChildSeed a0 a1 = some r) : Ct X.P X.gl 41 [I a0, .str a1] [] (Ri_ChildSeed r) [] :=
  Ct.of func41 (c := bdy f41) (by kernel_rfl) (by kernel_rfl) <|
  eBind H fun r1 hr1 H =>
  gS [r0] (by kernel_rfl) P0 <|
  eIf H (fun h2 H =>
    eIf H (fun h3 H =>
      eW Ri_ChildSeed (fun _ => []) H <| gE func41 [rg [{ i := 1, call := some { cl := true, auto := true, ins := [], res := (RB r1), G' := [] }, dec := some true }, hT 6], r0] (by kernel_rfl) (P1 (ci_isSeed hr1) <| P2 (r1 = true) (h2) <| P2 ((decide (((ByteArray.size a1 : Nat) : Int) > 40)) = true) (decide_eq_true h3) <| P0))
    (fun h3 H =>
      eBind H fun r4 hr4 H =>
      eBind H fun r5 hr5 H =>
      eW Ri_ChildSeed (fun _ => []) H <| gE func41 [rg [{ i := 1, call := some { cl := true, auto := true, ins := [], res := (RB r1), G' := [] }, dec := some true }, hF 6], rg [hC 3 true [0] (Ri_withBytes r4) (Ni_withBytes r4), hC 4 false [] (RI r5) []]] (by kernel_rfl) (P1 (ci_isSeed hr1) <| P2 (r1 = true) (h2) <| P2 ((decide (((ByteArray.size a1 : Nat) : Int) > 40)) = false) (decide_eq_false h3) <| P1 (ci_withBytes hr4) <| P1 (ci_mix hr5) <| P0)))
  (fun h2 H =>
    eW Ri_ChildSeed (fun _ => []) H <| gE func41 [rg [{ i := 1, call := some { cl := true, auto := true, ins := [], res := (RB r1), G' := [] }, dec := some false }], r0] (by kernel_rfl) (P1 (ci_isSeed hr1) <| P2 (r1 = false) (eqF h2) <| P0))
/-! loop example/g00886/spec dSeed -/
theorem cs_dSeed {a0 : Int} {r : Bool} (H : Ds_dSeed a0 = some r) : Ct X.P X.gl 74 [I a0] [] (RB r) [] :=
  Ct.of func74 (c := bdy f74) (by kernel_rfl) (by kernel_rfl) <|
  eBind H fun r1 hr1 H =>
  eW RB (fun _ => []) H <| gE func74 [r0, rg [hC 1 true [] (RB r1) []]] (by kernel_rfl) (P1 (cs_l1In hr1) <| P0)
/-! loop example/g00886/spec dBytes -/
def Rs_dBytes (r : (List Int)) : List D := [ow 1 I r]
noncomputable def Ks_dBytes : Ss_dBytes → List Item
  | .h1 .. => nav 300 3 [] [.code (bdy f111)]
def Zs_dBytes : Ss_dBytes → St
  | .h1 s0 i1 l2 => ⟨sts 19 [(0, .str s0), (3, .ref 0 1 none), (4, I i1)], [some ⟨false, false, 1, l2.length, List.map I l2⟩]⟩
abbrev Qs_dBytes := Nx X 111 0 Ks_dBytes Zs_dBytes Rs_dBytes (fun _ => [])
theorem ns_dBytes : ∀ s o, Bs_dBytes s = some o → Qs_dBytes (Ks_dBytes s) (Zs_dBytes s) o
  | .h1 s0 i1 l2, o, H =>
    eIf H (fun h1 H =>
      eCk H fun h2 H =>
      eCk H fun h3 H =>
      eCk H fun h4 H =>
      eN H fun r hn => gO [rg [hT 3], rg [{ i := 3, n := byteAt s0 (Int.toNat i1) }, hA 6 ((l2 ++ [(IntKind.wrap .i64 ((byteAt s0 (Int.toNat i1) : Nat) : Int))]).length) (List.map I (l2 ++ [(IntKind.wrap .i64 ((byteAt s0 (Int.toNat i1) : Nat) : Int))]))], r0, .canon [2] [0, 3, 4]] (by kernel_rfl) (P2 ((decide (i1 < ((ByteArray.size s0 : Nat) : Int))) = true) (decide_eq_true h1) <| P2 ((0 : Int) ≤ i1) h2 <| P2 (i1 < (ByteArray.size s0 : Int)) h3 <| P2 ((s0.data.toList[(Int.toNat i1)]?.map fun b => (b.toNat : Int)) = some ((byteAt s0 (Int.toNat i1) : Nat) : Int)) (byteAt_ok (by omega)) <| P1 (apL l2 [(IntKind.wrap .i64 ((byteAt s0 (Int.toNat i1) : Nat) : Int))]) <| P1 (apB h4) <| P1 (apM I l2 [(IntKind.wrap .i64 ((byteAt s0 (Int.toNat i1) : Nat) : Int))]) <| P0) hn)
    (fun h1 H =>
      eN H <| gE func111 [rg [hF 3], r0] (by kernel_rfl) (P2 ((decide (i1 < ((ByteArray.size s0 : Nat) : Int))) = false) (decide_eq_false h1) <| P0))
theorem ws_dBytes : ∀ s r, loop Bs_dBytes s = some r → Wc X 111 0 (Ks_dBytes s) (Zs_dBytes s) (Rs_dBytes r) ((fun _ => []) r) := Nx.all ns_dBytes
theorem cs_dBytes {a0 : ByteArray} {r : (List Int)} (H : Ds_dBytes a0 = some r) : Ct X.P X.gl 111 [.str a0] [] (Rs_dBytes r) [] :=
  Ct.of func111 (c := bdy f111) (by kernel_rfl) (by kernel_rfl) <|
  gO [r0, r0, r0, .own 3 1, .canon [0] [0, 3, 4]] (by kernel_rfl) P0 (ws_dBytes _ _ H)
/-! loop example/g00886/spec dChild -/
theorem cs_dChild {a0 : Int} {a1 : ByteArray} {r : Int} (H : Ds_dChild a0 a1 = some r) : Ct X.P X.gl 85 [I a0, .str a1] [] (RI r) [] :=
  Ct.of func85 (c := bdy f85) (by kernel_rfl) (by kernel_rfl) <|
  eBind H fun r1 hr1 H =>
  eCk H fun h2 H =>
  eBind H fun r3 hr3 H =>
  eW RI (fun _ => []) H <| gE func85 [r0, rg [hC 3 true [] (Rs_dBytes r1) [], { i := 4, keep := true, n := ([a0] ++ r1).length, xs := List.map I ([a0] ++ r1) }, hC 5 false [] (RI r3) []]] (by kernel_rfl) (P1 (cs_dBytes hr1) <| P2 (AllFl (List.map I r1)) (allFl_3 _) <| P1 (apL [a0] r1) <| P1 (apB h2) <| P1 (apM I [a0] r1) <| P1 (cs_dHash hr3) <| P0)
/-! loop example/g00886/spec ChildSeed -/
def Rs_ChildSeed (r : Int × Bool) : List D := [I r.1, .bool r.2]
theorem cs_ChildSeed {a0 : Int} {a1 : ByteArray} {r : Int × Bool} (H : Ds_ChildSeed a0 a1 = some r) : Ct X.P X.gl 42 [I a0, .str a1] [] (Rs_ChildSeed r) [] :=
  Ct.of func42 (c := bdy f42) (by kernel_rfl) (by kernel_rfl) <|
  eBind H fun r1 hr1 H =>
  gS [r0] (by kernel_rfl) P0 <|
  eIf H (fun h2 H =>
    eIf H (fun h3 H =>
      eW Rs_ChildSeed (fun _ => []) H <| gE func42 [rg [{ i := 1, call := some { cl := true, auto := true, ins := [], res := (RB r1), G' := [] }, dec := some true }, hT 6], r0] (by kernel_rfl) (P1 (cs_dSeed hr1) <| P2 (r1 = true) (h2) <| P2 ((decide (((ByteArray.size a1 : Nat) : Int) > 40)) = true) (decide_eq_true h3) <| P0))
    (fun h3 H =>
      eBind H fun r4 hr4 H =>
      eW Rs_ChildSeed (fun _ => []) H <| gE func42 [rg [{ i := 1, call := some { cl := true, auto := true, ins := [], res := (RB r1), G' := [] }, dec := some true }, hF 6], rg [hC 2 true [] (RI r4) []]] (by kernel_rfl) (P1 (cs_dSeed hr1) <| P2 (r1 = true) (h2) <| P2 ((decide (((ByteArray.size a1 : Nat) : Int) > 40)) = false) (decide_eq_false h3) <| P1 (cs_dChild hr4) <| P0)))
  (fun h2 H =>
    eW Rs_ChildSeed (fun _ => []) H <| gE func42 [rg [{ i := 1, call := some { cl := true, auto := true, ins := [], res := (RB r1), G' := [] }, dec := some false }], r0] (by kernel_rfl) (P1 (cs_dSeed hr1) <| P2 (r1 = false) (eqF h2) <| P0))
/-! loop example/g00886/laws FnSums -/
noncomputable def Kw_FnSums : Sw_FnSums → List Item
  | .h1 .. => nav 300 9 [false, false, true, false] [.code (bdy f5)]
  | .h2 .. => nav 300 15 [false, false, true, false, false, true, false] [.code (bdy f5)]
def Zw_FnSums : Sw_FnSums → St
  | .h1 t0 t1 t2 t3 => ⟨sts 210 [(1, sl 1 (D.int .u8) t0), (5, I t1), (6, I t2), (9, I t3)], []⟩
  | .h2 t0 => ⟨sts 210 [(1, sl 1 (D.int .u8) t0)], []⟩
abbrev Qw_FnSums := Nx X 5 0 Kw_FnSums Zw_FnSums RB (fun _ => [])
theorem nw_FnSums : ∀ s o, Bw_FnSums s = some o → Qw_FnSums (Kw_FnSums s) (Zw_FnSums s) o
  | .h1 t0 t1 t2 t3, o, H =>
    eBind H fun r1 hr1 H =>
    eIf H (fun h2 H =>
      eBind H fun r3 hr3 H =>
      gN [rg [hC 2 true [] (Ri_WaysAtLeast r1) [], hT 5], rg [hC 2 true [] (Rs_WaysAtLeast r3) []]] (by kernel_rfl) (P1 (ci_WaysAtLeast hr1) <| P2 (r1.2 = true) (h2) <| P1 (cs_WaysAtLeast hr3) <| P0) <|
      eIf H (fun h4 H =>
        eN H <| gE func5 [rg [hT 2], r0] (by kernel_rfl) (P2 ((!(true == r3.2)) = true) (h4) <| P0))
      (fun h4 H =>
        eIf H (fun h5 H =>
          gN [rg [hF 2, hF 6]] (by kernel_rfl) (P2 ((!(true == r3.2)) = false) (eqF h4) <| P2 (((r1.1 : Int) != r3.1) = false) (bneF h5) <| P0) <|
          eIf H (fun h6 H =>
            eBind H fun r7 hr7 H =>
            gN [rg [hT 3]] (by kernel_rfl) (P2 ((decide (t2 < 100)) = true) (decide_eq_true h6) <| P0) <|
            eIf H (fun h8 H =>
              gN [rg [hC 3 true [] (Ri_WaysAtLeast r7) [], hT 6]] (by kernel_rfl) (P1 (ci_WaysAtLeast hr7) <| P2 (r7.2 = true) (h8) <| P0) <|
              eIf H (fun h9 H =>
                eN H fun r hn => gO [rg [hF 7], .canon [] [1]] (by kernel_rfl) (P2 ((((IntKind.wrap .i64 (r3.1 - r7.1)) : Int) != t3) = false) (bneF h9) <| P0) hn)
              (fun h9 H =>
                eN H <| gE func5 [rg [hT 7], r0] (by kernel_rfl) (P2 ((((IntKind.wrap .i64 (r3.1 - r7.1)) : Int) != t3) = true) (bneT h9) <| P0)))
            (fun h8 H =>
              eN H <| gE func5 [rg [hC 3 true [] (Ri_WaysAtLeast r7) [], hF 6], r0, r0] (by kernel_rfl) (P1 (ci_WaysAtLeast hr7) <| P2 (r7.2 = false) (eqF h8) <| P0)))
          (fun h6 H =>
            eN H fun r hn => gO [rg [hF 3], .canon [] [1]] (by kernel_rfl) (P2 ((decide (t2 < 100)) = false) (decide_eq_false h6) <| P0) hn))
        (fun h5 H =>
          eN H <| gE func5 [rg [hF 2, hT 6], r0] (by kernel_rfl) (P2 ((!(true == r3.2)) = false) (eqF h4) <| P2 (((r1.1 : Int) != r3.1) = true) (bneT h5) <| P0))))
    (fun h2 H =>
      eBind H fun r3 hr3 H =>
      gN [rg [hC 2 true [] (Ri_WaysAtLeast r1) [], hF 5], rg [hC 2 true [] (Rs_WaysAtLeast r3) []]] (by kernel_rfl) (P1 (ci_WaysAtLeast hr1) <| P2 (r1.2 = false) (eqF h2) <| P1 (cs_WaysAtLeast hr3) <| P0) <|
      eIf H (fun h4 H =>
        eN H <| gE func5 [rg [hT 2], r0] (by kernel_rfl) (P2 ((!(false == r3.2)) = true) (h4) <| P0))
      (fun h4 H =>
        eIf H (fun h5 H =>
          eN H fun r hn => gO [rg [hF 2, hF 6], r0, .canon [] [1]] (by kernel_rfl) (P2 ((!(false == r3.2)) = false) (eqF h4) <| P2 (((r1.1 : Int) != r3.1) = false) (bneF h5) <| P0) hn)
        (fun h5 H =>
          eN H <| gE func5 [rg [hF 2, hT 6], r0] (by kernel_rfl) (P2 ((!(false == r3.2)) = false) (eqF h4) <| P2 (((r1.1 : Int) != r3.1) = true) (bneT h5) <| P0))))
  | .h2 t0, o, H =>
    eBind H fun r1 hr1 H =>
    eBind H fun r2 hr2 H =>
    eBind H fun r3 hr3 H =>
    eBind H fun r4 hr4 H =>
    eBind H fun r5 hr5 H =>
    eBind H fun r6 hr6 H =>
    eBind H fun r7 hr7 H =>
    eBind H fun r8 hr8 H =>
    eBind H fun r9 hr9 H =>
    gN [rg [hC 1 true [] (Rs_DrawGreatestOf r1) []], rg [hC 2 true [] (Ri_GreatestOf r2) []], rg [hC 2 true [] (Rs_GreatestOf r3) []], rg [hC 1 true [] (Rs_DrawMixNumbers r4) []], rg [hC 1 false [] (Ri_MixNumbers r5) []], rg [hC 1 false [] (Rs_MixNumbers r6) []], rg [hC 1 true [] (Rs_DrawChildSeed r7) []], rg [hC 2 true [] (Ri_ChildSeed r8) []], rg [hC 2 true [] (Rs_ChildSeed r9) []]] (by kernel_rfl) (P1 (cs_DrawGreatestOf hr1) <| P1 (ci_GreatestOf hr2) <| P1 (cs_GreatestOf hr3) <| P1 (cs_DrawMixNumbers hr4) <| P1 (ci_MixNumbers hr5) <| P1 (cs_MixNumbers hr6) <| P1 (cs_DrawChildSeed hr7) <| P1 (ci_ChildSeed hr8) <| P1 (cs_ChildSeed hr9) <| P0) <|
    eIf H (fun h10 H =>
      eIf H (fun h11 H =>
        eIf H (fun h12 H =>
          eIf H (fun h13 H =>
            eIf H (fun h14 H =>
              eN H <| gE func5 [rg [hT 2, hT 6, hT 11, hT 16, hT 21]] (by kernel_rfl) (P2 ((r2.2 == r3.2) = true) (h10) <| P2 (((r2.1 : Int) == r3.1) = true) (beqT h11) <| P2 ((r5.2 == r6.2) = true) (h12) <| P2 (((r5.1 : Int) == r6.1) = true) (beqT h13) <| P2 ((r8.2 == r9.2) = true) (h14) <| P0))
            (fun h14 H =>
              eN H <| gE func5 [rg [hT 2, hT 6, hT 11, hT 16, hF 21]] (by kernel_rfl) (P2 ((r2.2 == r3.2) = true) (h10) <| P2 (((r2.1 : Int) == r3.1) = true) (beqT h11) <| P2 ((r5.2 == r6.2) = true) (h12) <| P2 (((r5.1 : Int) == r6.1) = true) (beqT h13) <| P2 ((r8.2 == r9.2) = false) (eqF h14) <| P0)))
          (fun h13 H =>
            eN H <| gE func5 [rg [hT 2, hT 6, hT 11, hF 16]] (by kernel_rfl) (P2 ((r2.2 == r3.2) = true) (h10) <| P2 (((r2.1 : Int) == r3.1) = true) (beqT h11) <| P2 ((r5.2 == r6.2) = true) (h12) <| P2 (((r5.1 : Int) == r6.1) = false) (beqF h13) <| P0)))
        (fun h12 H =>
          eN H <| gE func5 [rg [hT 2, hT 6, hF 11]] (by kernel_rfl) (P2 ((r2.2 == r3.2) = true) (h10) <| P2 (((r2.1 : Int) == r3.1) = true) (beqT h11) <| P2 ((r5.2 == r6.2) = false) (eqF h12) <| P0)))
      (fun h11 H =>
        eN H <| gE func5 [rg [hT 2, hF 6]] (by kernel_rfl) (P2 ((r2.2 == r3.2) = true) (h10) <| P2 (((r2.1 : Int) == r3.1) = false) (beqF h11) <| P0)))
    (fun h10 H =>
      eN H <| gE func5 [rg [hF 2]] (by kernel_rfl) (P2 ((r2.2 == r3.2) = false) (eqF h10) <| P0))
theorem ww_FnSums : ∀ s r, loop Bw_FnSums s = some r → Wc X 5 0 (Kw_FnSums s) (Zw_FnSums s) (RB r) ((fun _ => []) r) := Nx.all nw_FnSums
theorem cw_FnSums {a0 : (List Int)} {a1 : (List Int)} {r : Bool} (H : Dw_FnSums a0 a1 = some r) : Ct X.P X.gl 5 [sl 1 (D.int .u8) a0, sl 1 (D.int .u8) a1] [] (RB r) [] :=
  Ct.of func5 (c := bdy f5) (by kernel_rfl) (by kernel_rfl) <|
  eBind H fun r1 hr1 H =>
  gS [r0] (by kernel_rfl) P0 <|
  eIf H (fun h2 H =>
    eW RB (fun _ => []) H <| gE func5 [rg [{ i := 2, call := some { cl := true, auto := true, ins := [], res := (RB r1), G' := [] }, dec := some true }], r0] (by kernel_rfl) (P1 (cw_big hr1) <| P2 (r1 = true) (h2) <| P0))
  (fun h2 H =>
    eBind H fun r3 hr3 H =>
    eBind H fun r4 hr4 H =>
    gS [rg [{ i := 2, call := some { cl := true, auto := true, ins := [], res := (RB r1), G' := [] }, dec := some false }], rg [hC 1 true [] (Rs_DrawSumWays r3) []]] (by kernel_rfl) (P1 (cw_big hr1) <| P2 (r1 = false) (eqF h2) <| P1 (cs_DrawSumWays hr3) <| P0) <|
    eIf H (fun h5 H =>
      eBind H fun r6 hr6 H =>
      gS [rg [hC 2 true [] (Ri_SumWays r4) [], hT 5], rg [hC 2 true [] (Rs_SumWays r6) []]] (by kernel_rfl) (P1 (ci_SumWays hr4) <| P2 (r4.2 = true) (h5) <| P1 (cs_SumWays hr6) <| P0) <|
      eIf H (fun h7 H =>
        eW RB (fun _ => []) H <| gE func5 [rg [hT 2], r0] (by kernel_rfl) (P2 ((!(true == r6.2)) = true) (h7) <| P0))
      (fun h7 H =>
        eIf H (fun h8 H =>
          gS [rg [hF 2, hF 6]] (by kernel_rfl) (P2 ((!(true == r6.2)) = false) (eqF h7) <| P2 (((r4.1 : Int) != r6.1) = false) (bneF h8) <| P0) <|
          eIf H (fun h9 H =>
            eIf H (fun h10 H =>
              eBind H fun r11 hr11 H =>
              gS [rg [hT 6, hT 13]] (by kernel_rfl) (P2 ((decide ((IntKind.wrap .i64 ((IntKind.wrap .i64 (7 * r3.1)) - r3.2)) ≥ (-100))) = true) (decide_eq_true h9) <| P2 ((decide ((IntKind.wrap .i64 ((IntKind.wrap .i64 (7 * r3.1)) - r3.2)) ≤ 100)) = true) (decide_eq_true h10) <| P0) <|
              eIf H (fun h12 H =>
                gS [rg [hC 5 true [] (Ri_SumWays r11) [], hT 8]] (by kernel_rfl) (P1 (ci_SumWays hr11) <| P2 (r11.2 = true) (h12) <| P0) <|
                eIf H (fun h13 H =>
                  gO [rg [hF 5], .canon [] [1, 5, 6, 9]] (by kernel_rfl) (P2 (((r11.1 : Int) != r6.1) = false) (bneF h13) <| P0) (ww_FnSums _ _ H))
                (fun h13 H =>
                  eW RB (fun _ => []) H <| gE func5 [rg [hT 5], r0] (by kernel_rfl) (P2 (((r11.1 : Int) != r6.1) = true) (bneT h13) <| P0)))
              (fun h12 H =>
                eW RB (fun _ => []) H <| gE func5 [rg [hC 5 true [] (Ri_SumWays r11) [], hF 8], r0, r0] (by kernel_rfl) (P1 (ci_SumWays hr11) <| P2 (r11.2 = false) (eqF h12) <| P0)))
            (fun h10 H =>
              gO [rg [hT 6, hF 13], .canon [] [1, 5, 6, 9]] (by kernel_rfl) (P2 ((decide ((IntKind.wrap .i64 ((IntKind.wrap .i64 (7 * r3.1)) - r3.2)) ≥ (-100))) = true) (decide_eq_true h9) <| P2 ((decide ((IntKind.wrap .i64 ((IntKind.wrap .i64 (7 * r3.1)) - r3.2)) ≤ 100)) = false) (decide_eq_false h10) <| P0) (ww_FnSums _ _ H)))
          (fun h9 H =>
            gO [rg [hF 6], .canon [] [1, 5, 6, 9]] (by kernel_rfl) (P2 ((decide ((IntKind.wrap .i64 ((IntKind.wrap .i64 (7 * r3.1)) - r3.2)) ≥ (-100))) = false) (decide_eq_false h9) <| P0) (ww_FnSums _ _ H)))
        (fun h8 H =>
          eW RB (fun _ => []) H <| gE func5 [rg [hF 2, hT 6], r0] (by kernel_rfl) (P2 ((!(true == r6.2)) = false) (eqF h7) <| P2 (((r4.1 : Int) != r6.1) = true) (bneT h8) <| P0))))
    (fun h5 H =>
      eBind H fun r6 hr6 H =>
      gS [rg [hC 2 true [] (Ri_SumWays r4) [], hF 5], rg [hC 2 true [] (Rs_SumWays r6) []]] (by kernel_rfl) (P1 (ci_SumWays hr4) <| P2 (r4.2 = false) (eqF h5) <| P1 (cs_SumWays hr6) <| P0) <|
      eIf H (fun h7 H =>
        eW RB (fun _ => []) H <| gE func5 [rg [hT 2], r0] (by kernel_rfl) (P2 ((!(false == r6.2)) = true) (h7) <| P0))
      (fun h7 H =>
        eIf H (fun h8 H =>
          gO [rg [hF 2, hF 6], r0, .canon [] [1, 5, 6, 9]] (by kernel_rfl) (P2 ((!(false == r6.2)) = false) (eqF h7) <| P2 (((r4.1 : Int) != r6.1) = false) (bneF h8) <| P0) (ww_FnSums _ _ H))
        (fun h8 H =>
          eW RB (fun _ => []) H <| gE func5 [rg [hF 2, hT 6], r0] (by kernel_rfl) (P2 ((!(false == r6.2)) = false) (eqF h7) <| P2 (((r4.1 : Int) != r6.1) = true) (bneT h8) <| P0)))))
end Go.Proofs.Ytlniejjcejackaa.Ab
