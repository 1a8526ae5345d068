/- Part of the proof of FnBattlesCard: no condition of its own. -/
import Derived.Test.YtakcjcjfcignjaaGreatDoorChecked
import Derived.Test.YtakcjcjfcignjaaGreatDoorB5BD
set_option linter.unusedVariables false
set_option linter.unusedSimpArgs false
open Go Go.Proofs Go.Proofs.Tryz
namespace Go.Proofs.YtakcjcjfcignjaaGreatDoor.Ab
def T : Tab := [(3, ⟨(Ab.TK.int IntKind.i64), 1, 8, (Ab.D.int IntKind.i64 (Int.ofNat 0))⟩),
  (4, ⟨Ab.TK.bool, 1, 1, (Ab.D.bool Bool.false)⟩),
  (5, ⟨(Ab.TK.int IntKind.u8), 1, 1, (Ab.D.int IntKind.u8 (Int.ofNat 0))⟩),
  (9, ⟨Ab.TK.str, 1, 16, (Ab.D.str (ByteArray.mk (Array.mk [])))⟩),
  (22, ⟨(Ab.TK.slice 5), 1, 24, Ab.D.nil⟩),
  (24, ⟨(Ab.TK.slice 127), 1, 24, Ab.D.nil⟩),
  (25, ⟨(Ab.TK.slice 76), 1, 24, Ab.D.nil⟩),
  (27, ⟨(Ab.TK.strct [(Ab.FI.mk 0 1 Bool.false), (Ab.FI.mk 1 1 Bool.false), (Ab.FI.mk 2 1 Bool.false), (Ab.FI.mk 3 1 Bool.false), (Ab.FI.mk 4 1 Bool.false), (Ab.FI.mk 5 1 Bool.false), (Ab.FI.mk 6 1 Bool.false)] Option.none), 7, 88, (Ab.D.agg [Ab.D.nil, Ab.D.nil, (Ab.D.int IntKind.i64 (Int.ofNat 0)), (Ab.D.int IntKind.i64 (Int.ofNat 0)), (Ab.D.int IntKind.i64 (Int.ofNat 0)), (Ab.D.int IntKind.i64 (Int.ofNat 0)), (Ab.D.int IntKind.i64 (Int.ofNat 0))])⟩),
  (28, ⟨(Ab.TK.slice 3), 1, 24, Ab.D.nil⟩),
  (30, ⟨(Ab.TK.strct [(Ab.FI.mk 0 1 Bool.false), (Ab.FI.mk 1 1 Bool.false), (Ab.FI.mk 2 1 Bool.false), (Ab.FI.mk 3 1 Bool.false), (Ab.FI.mk 4 1 Bool.false)] Option.none), 5, 88, (Ab.D.agg [(Ab.D.int IntKind.i64 (Int.ofNat 0)), (Ab.D.int IntKind.i64 (Int.ofNat 0)), Ab.D.nil, Ab.D.nil, Ab.D.nil])⟩),
  (32, ⟨(Ab.TK.strct [(Ab.FI.mk 0 7 Bool.true), (Ab.FI.mk 7 5 Bool.true)] Option.none), 12, 176, (Ab.D.agg [Ab.D.nil, Ab.D.nil, (Ab.D.int IntKind.i64 (Int.ofNat 0)), (Ab.D.int IntKind.i64 (Int.ofNat 0)), (Ab.D.int IntKind.i64 (Int.ofNat 0)), (Ab.D.int IntKind.i64 (Int.ofNat 0)), (Ab.D.int IntKind.i64 (Int.ofNat 0)), (Ab.D.int IntKind.i64 (Int.ofNat 0)), (Ab.D.int IntKind.i64 (Int.ofNat 0)), Ab.D.nil, Ab.D.nil, Ab.D.nil])⟩),
  (42, ⟨(Ab.TK.slice 56), 1, 24, Ab.D.nil⟩),
  (44, ⟨(Ab.TK.strct [(Ab.FI.mk 0 1 Bool.false), (Ab.FI.mk 1 1 Bool.false), (Ab.FI.mk 2 1 Bool.false)] Option.none), 3, 40, (Ab.D.agg [(Ab.D.int IntKind.i64 (Int.ofNat 0)), (Ab.D.int IntKind.i64 (Int.ofNat 0)), Ab.D.nil])⟩),
  (56, ⟨(Ab.TK.strct [(Ab.FI.mk 0 1 Bool.false), (Ab.FI.mk 1 1 Bool.false), (Ab.FI.mk 2 1 Bool.false), (Ab.FI.mk 3 1 Bool.false)] (Option.some [(Ab.LK.int IntKind.i64), (Ab.LK.int IntKind.i64), (Ab.LK.int IntKind.i64), (Ab.LK.int IntKind.i64)])), 4, 32, (Ab.D.agg [(Ab.D.int IntKind.i64 (Int.ofNat 0)), (Ab.D.int IntKind.i64 (Int.ofNat 0)), (Ab.D.int IntKind.i64 (Int.ofNat 0)), (Ab.D.int IntKind.i64 (Int.ofNat 0))])⟩),
  (64, ⟨(Ab.TK.slice 79), 1, 24, Ab.D.nil⟩),
  (67, ⟨(Ab.TK.slice 71), 1, 24, Ab.D.nil⟩),
  (71, ⟨(Ab.TK.strct [(Ab.FI.mk 0 1 Bool.false), (Ab.FI.mk 1 1 Bool.false), (Ab.FI.mk 2 1 Bool.false)] Option.none), 3, 56, (Ab.D.agg [(Ab.D.int IntKind.i64 (Int.ofNat 0)), Ab.D.nil, Ab.D.nil])⟩),
  (76, ⟨(Ab.TK.strct [(Ab.FI.mk 0 1 Bool.false), (Ab.FI.mk 1 1 Bool.false), (Ab.FI.mk 2 1 Bool.false), (Ab.FI.mk 3 1 Bool.false), (Ab.FI.mk 4 1 Bool.false), (Ab.FI.mk 5 1 Bool.false)] (Option.some [Ab.LK.str, (Ab.LK.int IntKind.i64), (Ab.LK.int IntKind.i64), (Ab.LK.int IntKind.i64), Ab.LK.bool, (Ab.LK.int IntKind.i64)])), 6, 56, (Ab.D.agg [(Ab.D.str (ByteArray.mk (Array.mk []))), (Ab.D.int IntKind.i64 (Int.ofNat 0)), (Ab.D.int IntKind.i64 (Int.ofNat 0)), (Ab.D.int IntKind.i64 (Int.ofNat 0)), (Ab.D.bool Bool.false), (Ab.D.int IntKind.i64 (Int.ofNat 0))])⟩),
  (79, ⟨(Ab.TK.strct [(Ab.FI.mk 0 1 Bool.false), (Ab.FI.mk 1 1 Bool.false)] (Option.some [(Ab.LK.int IntKind.i64), (Ab.LK.int IntKind.i64)])), 2, 16, (Ab.D.agg [(Ab.D.int IntKind.i64 (Int.ofNat 0)), (Ab.D.int IntKind.i64 (Int.ofNat 0))])⟩),
  (87, ⟨(Ab.TK.int IntKind.u64), 1, 8, (Ab.D.int IntKind.u64 (Int.ofNat 0))⟩),
  (89, ⟨(Ab.TK.strct [(Ab.FI.mk 0 1 Bool.false), (Ab.FI.mk 1 1 Bool.false), (Ab.FI.mk 2 1 Bool.false)] Option.none), 3, 40, (Ab.D.agg [Ab.D.nil, (Ab.D.int IntKind.i64 (Int.ofNat 0)), (Ab.D.int IntKind.u64 (Int.ofNat 0))])⟩),
  (94, ⟨(Ab.TK.strct [(Ab.FI.mk 0 1 Bool.false), (Ab.FI.mk 1 1 Bool.false)] (Option.some [(Ab.LK.int IntKind.i64), (Ab.LK.int IntKind.i64)])), 2, 16, (Ab.D.agg [(Ab.D.int IntKind.i64 (Int.ofNat 0)), (Ab.D.int IntKind.i64 (Int.ofNat 0))])⟩),
  (95, ⟨(Ab.TK.arr 6 94), 12, 96, (Ab.D.agg [(Ab.D.int IntKind.i64 (Int.ofNat 0)), (Ab.D.int IntKind.i64 (Int.ofNat 0)), (Ab.D.int IntKind.i64 (Int.ofNat 0)), (Ab.D.int IntKind.i64 (Int.ofNat 0)), (Ab.D.int IntKind.i64 (Int.ofNat 0)), (Ab.D.int IntKind.i64 (Int.ofNat 0)), (Ab.D.int IntKind.i64 (Int.ofNat 0)), (Ab.D.int IntKind.i64 (Int.ofNat 0)), (Ab.D.int IntKind.i64 (Int.ofNat 0)), (Ab.D.int IntKind.i64 (Int.ofNat 0)), (Ab.D.int IntKind.i64 (Int.ofNat 0)), (Ab.D.int IntKind.i64 (Int.ofNat 0))])⟩),
  (127, ⟨(Ab.TK.strct [(Ab.FI.mk 0 1 Bool.false), (Ab.FI.mk 1 1 Bool.false), (Ab.FI.mk 2 1 Bool.false), (Ab.FI.mk 3 1 Bool.false), (Ab.FI.mk 4 1 Bool.false)] Option.none), 5, 64, (Ab.D.agg [(Ab.D.str (ByteArray.mk (Array.mk []))), Ab.D.nil, (Ab.D.int IntKind.i64 (Int.ofNat 0)), (Ab.D.int IntKind.i64 (Int.ofNat 0)), (Ab.D.bool Bool.false)])⟩),
  (154, ⟨(Ab.TK.slice 28), 1, 24, Ab.D.nil⟩),
  (155, ⟨(Ab.TK.slice 156), 1, 24, Ab.D.nil⟩),
  (156, ⟨(Ab.TK.arr 2 3), 2, 16, (Ab.D.agg [(Ab.D.int IntKind.i64 (Int.ofNat 0)), (Ab.D.int IntKind.i64 (Int.ofNat 0))])⟩),
  (160, ⟨(Ab.TK.slice 9), 1, 24, Ab.D.nil⟩)]
noncomputable def X : Ctx := ⟨Go.Proofs.Tryz.prog, T, [(0, .fptr 12 gc0 0 0)]⟩
theorem T_ok : TabOK X.P X.T := ⟨by kernel_rfl, by kernel_rfl, by kernel_rfl, by kernel_rfl, by kernel_rfl, by kernel_rfl, by kernel_rfl, by kernel_rfl, by kernel_rfl, by kernel_rfl, by kernel_rfl, by kernel_rfl, by kernel_rfl, by kernel_rfl, by kernel_rfl, by kernel_rfl, by kernel_rfl, by kernel_rfl, by kernel_rfl, by kernel_rfl, by kernel_rfl, by kernel_rfl, by kernel_rfl, by kernel_rfl, by kernel_rfl, by kernel_rfl, by kernel_rfl, by kernel_rfl, trivial⟩
theorem mixed : X.P.follows .mixedOrders = true := Go.Proofs.Tryz.checked.mixed
theorem gO {f : FuncId} {M : Nat} {k k' : List Item} {σ σ' : St} {res : List D} {G' : List Root} (cmds : List Cmd) {ps : List Prop} (h : run X M cmds k σ = some (ps, k', σ')) (hp : AllP ps) (hk : Wc X f M k' σ' res G') : Wc X f M k σ res G' := run_ok T_ok mixed h hp hk
theorem gE {f : FuncId} {M : Nat} {k : List Item} {σ : St} {res : List D} {G' : List Root} {fn : Func} (hf : X.P.funcs[f]? = some fn) (cmds : List Cmd) {ps : List Prop} (h : runFinC X M cmds k σ fn.results.toList res = some (ps, res, G')) (hp : AllP ps) : Wc X f M k σ res G' := runFinC_ok T_ok mixed hf h hp
theorem gS {f : FuncId} {M : Nat} {k : List Item} {σ : St} {res : List D} {G' : List Root} (cmds : List Cmd) {ps : List Prop} (h : runP X M cmds k σ = some ps) (hp : AllP ps) (hk : Wc X f M (runK X M cmds k σ) (runS X M cmds k σ) res G') : Wc X f M k σ res G' := seg_ok T_ok mixed cmds h hp hk
theorem gN {ς ρ : Type} {f : FuncId} {M : Nat} {K : ς → List Item} {Z : ς → St} {R : ρ → List D} {G : ρ → List Root} {k : List Item} {σ : St} {o : ς ⊕ ρ} (cmds : List Cmd) {ps : List Prop} (h : runP X M cmds k σ = some ps) (hp : AllP ps) (hk : Nx X f M K Z R G (runK X M cmds k σ) (runS X M cmds k σ) o) : Nx X f M K Z R G k σ o := segN_ok T_ok mixed cmds h hp hk
theorem nf_3 : ∀ x, (I x).nf := fun x => by simp [D.nf, nfL]
theorem nf_56 : ∀ x, (gi_Unit x).nf := fun x => by simp [gi_Unit, D.nf, nfL]
theorem nfo_71 : ∀ x, (goi_Battle x).nf := fun x => by simp [goi_Battle, gi_Battle, D.nf, nfL, nf_ow nf_3]
theorem ero_71 : ∀ x, (goi_Battle x).er = (gi_Battle x).er := fun x => by simp [goi_Battle, gi_Battle, D.er, erL, er_ow (f := I) (g := I) (fun _ => rfl)]
theorem ero_127 : ∀ x, (goi_Terrain x).er = (gi_Terrain x).er := fun x => by simp [goi_Terrain, gi_Terrain, D.er, erL, er_ow (f := I) (g := I) (fun _ => rfl)]
theorem allOw_71 (l : List Gi_Battle) : AllOw (List.map goi_Battle l) := allOw_map (fun x c hc => by simp [goi_Battle, gi_Battle, D.cells] at hc; rcases hc with rfl | rfl | rfl <;> rfl) l
theorem allOw_127 (l : List Gi_Terrain) : AllOw (List.map goi_Terrain l) := allOw_map (fun x c hc => by simp [goi_Terrain, gi_Terrain, D.cells] at hc; rcases hc with rfl | rfl | rfl | rfl | rfl <;> rfl) l
theorem allFl_3 (l : List Int) : AllFl (List.map I l) := allFl_map (fun x c hc => by simp [D.cells] at hc; rcases hc with rfl <;> rfl) l
theorem allFl_56 (l : List Gi_Unit) : AllFl (List.map gi_Unit l) := allFl_map (fun x c hc => by simp [gi_Unit, D.cells] at hc; rcases hc with rfl | rfl | rfl | rfl <;> rfl) l
theorem allFl_79 (l : List Gi_Attack) : AllFl (List.map gi_Attack l) := allFl_map (fun x c hc => by simp [gi_Attack, D.cells] at hc; rcases hc with rfl | rfl <;> rfl) l
/-!   loop example/g00886/spec l1Cur  next -/
def Rs_l1Cur_next (r : Int × Gs_l1Cur) : List D := [I r.1]
def Ns_l1Cur_next (r : Int × Gs_l1Cur) : List Root := [⟨false, true, 3, 1, [.agg [sl 1 (D.int .u8) r.2.code, I r.2.at_, .int .u64 r.2.seed]]⟩]
theorem cs_l1Cur_next {a0 : Gs_l1Cur} {r : Int × Gs_l1Cur} (H : Ds_l1Cur_next a0 = some r) : Ct X.P X.gl 105 [.ptr 0 3 0 0] [⟨false, true, 3, 1, [.agg [sl 1 (D.int .u8) a0.code, I a0.at_, .int .u64 a0.seed]]⟩] (Rs_l1Cur_next r) (Ns_l1Cur_next r) :=
  Ct.of func105 (c := bdy f105) (by kernel_rfl) (by kernel_rfl) <|
  gS [r0, r0] (by kernel_rfl) P0 <|
  eIf H (fun h1 H =>
    eCk H fun h2 H =>
    eBind H fun x3 hx3 H =>
    gS [rg [hT 9], rg [hE 9 ((D.int .u8) x3)], r0, r0] (by kernel_rfl) (P2 ((decide (a0.at_ < ((a0.code.length : Nat) : Int))) = true) (decide_eq_true h1) <| P1 h2 <| P1 (int_lt_of_at h2 hx3) <| P1 (at_map (D.int .u8) hx3) <| P0) <|
    eIf H (fun h4 H =>
      eW Rs_l1Cur_next Ns_l1Cur_next H <| gE func105 [rg [hT 9], r0] (by kernel_rfl) (P2 ((decide ((IntKind.wrap .i64 (a0.at_ + 1)) ≤ ((a0.code.length : Nat) : Int))) = true) (decide_eq_true h4) <| P0))
    (fun h4 H =>
      eW Rs_l1Cur_next Ns_l1Cur_next H <| gE func105 [rg [hF 9], r0] (by kernel_rfl) (P2 ((decide ((IntKind.wrap .i64 (a0.at_ + 1)) ≤ ((a0.code.length : Nat) : Int))) = false) (decide_eq_false h4) <| P2 ((0 : Int) ≤ 40) (by decide) <| P0)))
  (fun h1 H =>
    gS [rg [hF 9], r0, r0] (by kernel_rfl) (P2 ((decide (a0.at_ < ((a0.code.length : Nat) : Int))) = false) (decide_eq_false h1) <| P0) <|
    eIf H (fun h2 H =>
      eW Rs_l1Cur_next Ns_l1Cur_next H <| gE func105 [rg [hT 9], r0] (by kernel_rfl) (P2 ((decide ((IntKind.wrap .i64 (a0.at_ + 1)) ≤ ((a0.code.length : Nat) : Int))) = true) (decide_eq_true h2) <| P0))
    (fun h2 H =>
      eW Rs_l1Cur_next Ns_l1Cur_next H <| gE func105 [rg [hF 9], r0] (by kernel_rfl) (P2 ((decide ((IntKind.wrap .i64 (a0.at_ + 1)) ≤ ((a0.code.length : Nat) : Int))) = false) (decide_eq_false h2) <| P2 ((0 : Int) ≤ 40) (by decide) <| P0)))
/-!   loop example/g00886/spec l1Cur  pick -/
def Rs_l1Cur_pick (r : Int × Gs_l1Cur) : List D := [I r.1]
def Ns_l1Cur_pick (r : Int × Gs_l1Cur) : List Root := [⟨false, true, 3, 1, [.agg [sl 1 (D.int .u8) r.2.code, I r.2.at_, .int .u64 r.2.seed]]⟩]
theorem cs_l1Cur_pick {a0 : Gs_l1Cur} {a1 : Int} {r : Int × Gs_l1Cur} (H : Ds_l1Cur_pick a0 a1 = some r) : Ct X.P X.gl 65 [.ptr 0 3 0 0, I a1] [⟨false, true, 3, 1, [.agg [sl 1 (D.int .u8) a0.code, I a0.at_, .int .u64 a0.seed]]⟩] (Rs_l1Cur_pick r) (Ns_l1Cur_pick r) :=
  Ct.of func65 (c := bdy f65) (by kernel_rfl) (by kernel_rfl) <|
  gS [r0] (by kernel_rfl) P0 <|
  eIf H (fun h1 H =>
    eW Rs_l1Cur_pick Ns_l1Cur_pick H <| gE func65 [rg [hT 1], r0] (by kernel_rfl) (P2 ((decide (a1 ≤ 1)) = true) (decide_eq_true h1) <| P0))
  (fun h1 H =>
    eBind H fun r2 hr2 H =>
    gS [rg [hF 1], rg [hC 1 true [0] (Rs_l1Cur_next r2) (Ns_l1Cur_next r2)]] (by kernel_rfl) (P2 ((decide (a1 ≤ 1)) = false) (decide_eq_false h1) <| PI (1 : Nat) <| P1 (cs_l1Cur_next hr2) <| P0) <|
    eIf H (fun h3 H =>
      eBind H fun r4 hr4 H =>
      eCk H fun h5 H =>
      eW Rs_l1Cur_pick Ns_l1Cur_pick H <| gE func65 [rg [hT 1], rg [hC 3 true [0] (Rs_l1Cur_next r4) (Ns_l1Cur_next r4)], r0] (by kernel_rfl) (P2 ((decide (a1 > 200)) = true) (decide_eq_true h3) <| PI (1 : Nat) <| P1 (cs_l1Cur_next hr4) <| P2 (¬ (a1 : Int) = 0) h5 <| P0))
    (fun h3 H =>
      eCk H fun h4 H =>
      eW Rs_l1Cur_pick Ns_l1Cur_pick H <| gE func65 [rg [hF 1], r0] (by kernel_rfl) (P2 ((decide (a1 > 200)) = false) (decide_eq_false h3) <| P2 (¬ (a1 : Int) = 0) h4 <| P0)))
/-!   loop example/g00886/spec l1Cur  one -/
def Rs_l1Cur_one (r : Bool × Gs_l1Cur) : List D := [.bool r.1]
def Ns_l1Cur_one (r : Bool × Gs_l1Cur) : List Root := [⟨false, true, 3, 1, [.agg [sl 1 (D.int .u8) r.2.code, I r.2.at_, .int .u64 r.2.seed]]⟩]
theorem cs_l1Cur_one {a0 : Gs_l1Cur} {a1 : Int} {r : Bool × Gs_l1Cur} (H : Ds_l1Cur_one a0 a1 = some r) : Ct X.P X.gl 64 [.ptr 0 3 0 0, I a1] [⟨false, true, 3, 1, [.agg [sl 1 (D.int .u8) a0.code, I a0.at_, .int .u64 a0.seed]]⟩] (Rs_l1Cur_one r) (Ns_l1Cur_one r) :=
  Ct.of func64 (c := bdy f64) (by kernel_rfl) (by kernel_rfl) <|
  eBind H fun r1 hr1 H =>
  eW Rs_l1Cur_one Ns_l1Cur_one H <| gE func64 [r0, rg [hC 2 true [0] (Rs_l1Cur_pick r1) (Ns_l1Cur_pick r1)]] (by kernel_rfl) (PI (1 : Nat) <| P1 (cs_l1Cur_pick hr1) <| P0)
/-!   loop example/g00886/spec l1Cur  rules -/
def Rs_l1Cur_rules (r : Gi_Rules × Gs_l1Cur) : List D := [.agg [ow 5 goi_Terrain r.1.Terrains, ow 6 gi_Kind r.1.Kinds, I r.1.Stack, I r.1.River, I r.1.Road, I r.1.Supply, I r.1.Turns]]
def Ns_l1Cur_rules (r : Gi_Rules × Gs_l1Cur) : List Root := [⟨false, true, 3, 1, [.agg [sl 1 (D.int .u8) r.2.code, I r.2.at_, .int .u64 r.2.seed]]⟩]
noncomputable def Ks_l1Cur_rules : Ss_l1Cur_rules → List Item
  | .h1 .. => nav 300 5 [] [.code (bdy f159)]
  | .h2 .. => nav 300 9 [true, false] [.code (bdy f159)]
  | .h3 .. => nav 300 15 [true, false, true, true] [.code (bdy f159)]
  | .h4 .. => nav 300 12 [true, false, false] [.code (bdy f159)]
  | .h5 .. => nav 300 16 [true, false, false, true, false] [.code (bdy f159)]
  | .h6 .. => nav 300 22 [true, false, false, true, false, true, true] [.code (bdy f159)]
def Zs_l1Cur_rules : Ss_l1Cur_rules → St
  | .h1 t0 b1 b2 b3 b4 b5 b6 b7 b8 b9 b10 b11 l12 l13 => ⟨sts 115 [(0, .ptr 0 3 0 0), (2, .ptr 1 7 0 0), (4, .ptr 2 7 0 0), (5, .ref 3 1 none), (6, I t0)], [some ⟨false, true, 3, 1, [.agg [sl 1 (D.int .u8) b1.code, I b1.at_, .int .u64 b1.seed]]⟩, some ⟨false, true, 7, 1, [.agg [.nil, .nil, I b2, I b3, I b4, I b5, I b6]]⟩, some ⟨false, true, 7, 1, [.agg [.nil, .ref 4 6 none, I b7, I b8, I b9, I b10, I b11]]⟩, some ⟨false, false, 1, l12.length, List.map D.str l12⟩, some ⟨false, false, 6, l13.length, List.map gi_Kind l13⟩]⟩
  | .h2 t0 t1 t2 b3 b4 b5 b6 b7 b8 b9 b10 b11 b12 b13 l14 b15 b16 b17 b18 l19 => ⟨sts 115 [(0, .ptr 0 3 0 0), (2, .ptr 1 7 0 0), (4, .ptr 2 7 0 0), (5, .ref 3 1 none), (6, I t0), (7, .ptr 4 5 0 0), (94, I t1), (95, I t2)], [some ⟨false, true, 3, 1, [.agg [sl 1 (D.int .u8) b3.code, I b3.at_, .int .u64 b3.seed]]⟩, some ⟨false, true, 7, 1, [.agg [.nil, .nil, I b4, I b5, I b6, I b7, I b8]]⟩, some ⟨false, true, 7, 1, [.agg [.nil, .ref 5 6 none, I b9, I b10, I b11, I b12, I b13]]⟩, some ⟨false, false, 1, l14.length, List.map D.str l14⟩, some ⟨false, true, 5, 1, [.agg [.str b15, .nil, I b16, I b17, .bool b18]]⟩, some ⟨false, false, 6, l19.length, List.map gi_Kind l19⟩]⟩
  | .h3 t0 t1 t2 b3 b4 b5 b6 b7 b8 b9 b10 b11 b12 b13 l14 b15 b16 b17 b18 l19 l20 => ⟨sts 115 [(0, .ptr 0 3 0 0), (2, .ptr 1 7 0 0), (4, .ptr 2 7 0 0), (5, .ref 3 1 none), (6, I t0), (7, .ptr 4 5 0 0), (94, I t1), (95, I t2)], [some ⟨false, true, 3, 1, [.agg [sl 1 (D.int .u8) b3.code, I b3.at_, .int .u64 b3.seed]]⟩, some ⟨false, true, 7, 1, [.agg [.nil, .nil, I b4, I b5, I b6, I b7, I b8]]⟩, some ⟨false, true, 7, 1, [.agg [.nil, .ref 5 6 none, I b9, I b10, I b11, I b12, I b13]]⟩, some ⟨false, false, 1, l14.length, List.map D.str l14⟩, some ⟨false, true, 5, 1, [.agg [.str b15, .ref 6 1 none, I b16, I b17, .bool b18]]⟩, some ⟨false, false, 6, l19.length, List.map gi_Kind l19⟩, some ⟨false, false, 1, l20.length, List.map I l20⟩]⟩
  | .h4 t0 b1 b2 b3 b4 b5 b6 b7 b8 b9 b10 b11 l12 l13 l14 => ⟨sts 115 [(0, .ptr 0 3 0 0), (2, .ptr 1 7 0 0), (4, .ptr 2 7 0 0), (5, .ref 3 1 none), (6, I t0)], [some ⟨false, true, 3, 1, [.agg [sl 1 (D.int .u8) b1.code, I b1.at_, .int .u64 b1.seed]]⟩, some ⟨false, true, 7, 1, [.agg [.nil, .nil, I b2, I b3, I b4, I b5, I b6]]⟩, some ⟨false, true, 7, 1, [.agg [.ref 4 5 none, .ref 5 6 none, I b7, I b8, I b9, I b10, I b11]]⟩, some ⟨false, false, 1, l12.length, List.map D.str l12⟩, some ⟨false, false, 5, l13.length, List.map goi_Terrain l13⟩, some ⟨false, false, 6, l14.length, List.map gi_Kind l14⟩]⟩
  | .h5 t0 t1 t2 b3 b4 b5 b6 b7 b8 b9 b10 b11 b12 b13 l14 b15 b16 b17 b18 l19 l20 => ⟨sts 115 [(0, .ptr 0 3 0 0), (2, .ptr 1 7 0 0), (4, .ptr 2 7 0 0), (5, .ref 3 1 none), (6, I t0), (7, .ptr 4 5 0 0), (94, I t1), (95, I t2)], [some ⟨false, true, 3, 1, [.agg [sl 1 (D.int .u8) b3.code, I b3.at_, .int .u64 b3.seed]]⟩, some ⟨false, true, 7, 1, [.agg [.nil, .nil, I b4, I b5, I b6, I b7, I b8]]⟩, some ⟨false, true, 7, 1, [.agg [.ref 5 5 none, .ref 6 6 none, I b9, I b10, I b11, I b12, I b13]]⟩, some ⟨false, false, 1, l14.length, List.map D.str l14⟩, some ⟨false, true, 5, 1, [.agg [.str b15, .nil, I b16, I b17, .bool b18]]⟩, some ⟨false, false, 5, l19.length, List.map goi_Terrain l19⟩, some ⟨false, false, 6, l20.length, List.map gi_Kind l20⟩]⟩
  | .h6 t0 t1 t2 b3 b4 b5 b6 b7 b8 b9 b10 b11 b12 b13 l14 b15 b16 b17 b18 l19 l20 l21 => ⟨sts 115 [(0, .ptr 0 3 0 0), (2, .ptr 1 7 0 0), (4, .ptr 2 7 0 0), (5, .ref 3 1 none), (6, I t0), (7, .ptr 4 5 0 0), (94, I t1), (95, I t2)], [some ⟨false, true, 3, 1, [.agg [sl 1 (D.int .u8) b3.code, I b3.at_, .int .u64 b3.seed]]⟩, some ⟨false, true, 7, 1, [.agg [.nil, .nil, I b4, I b5, I b6, I b7, I b8]]⟩, some ⟨false, true, 7, 1, [.agg [.ref 5 5 none, .ref 6 6 none, I b9, I b10, I b11, I b12, I b13]]⟩, some ⟨false, false, 1, l14.length, List.map D.str l14⟩, some ⟨false, true, 5, 1, [.agg [.str b15, .ref 7 1 none, I b16, I b17, .bool b18]]⟩, some ⟨false, false, 5, l19.length, List.map goi_Terrain l19⟩, some ⟨false, false, 6, l20.length, List.map gi_Kind l20⟩, some ⟨false, false, 1, l21.length, List.map I l21⟩]⟩
abbrev Qs_l1Cur_rules := Nx X 159 1 Ks_l1Cur_rules Zs_l1Cur_rules Rs_l1Cur_rules Ns_l1Cur_rules
theorem ns_l1Cur_rules : ∀ s o, Bs_l1Cur_rules s = some o → Qs_l1Cur_rules (Ks_l1Cur_rules s) (Zs_l1Cur_rules s) o
  | .h1 t0 b1 b2 b3 b4 b5 b6 b7 b8 b9 b10 b11 l12 l13, o, H =>
    eBind H fun r1 hr1 H =>
    eIf H (fun h2 H =>
      gN [rg [hC 2 true [0] (Rs_l1Cur_pick r1) (Ns_l1Cur_pick r1), hT 4]] (by kernel_rfl) (PI (1 : Nat) <| P1 (cs_l1Cur_pick hr1) <| P2 ((decide (t0 < (IntKind.wrap .i64 (2 + r1.1)))) = true) (decide_eq_true h2) <| P0) <|
      eIf H (fun h3 H =>
        eN H <| gE func159 [rg [hT 3], r0] (by kernel_rfl) (P2 (((t0 : Int) == ((l12.length : Nat) : Int)) = true) (beqT h3) <| P0))
      (fun h3 H =>
        eCk H fun h4 H =>
        eBind H fun x5 hx5 H =>
        eBind H fun r6 hr6 H =>
        eBind H fun r7 hr7 H =>
        eBind H fun r8 hr8 H =>
        gN [rg [hF 3]] (by kernel_rfl) (P2 (((t0 : Int) == ((l12.length : Nat) : Int)) = false) (beqF h3) <| P0) <|
        eIf H (fun h9 H =>
          eBind H fun r10 hr10 H =>
          eN H fun r hn => gO [rg [hE 3 (D.str x5), hC 5 true [0] (Rs_l1Cur_pick r6) (Ns_l1Cur_pick r6), hC 8 true [0] (Rs_l1Cur_pick r7) (Ns_l1Cur_pick r7), hC 10 true [0] (Rs_l1Cur_pick r8) (Ns_l1Cur_pick r8), hT 13, hC 16 true [0] (Rs_l1Cur_one r10) (Ns_l1Cur_one r10)], r0, .canon [0, 1, 2, 3, 5, 4] [0, 2, 4, 5, 6, 7, 94, 95]] (by kernel_rfl) (P1 h4 <| P1 (int_lt_of_at h4 hx5) <| P1 (at_map D.str hx5) <| PI (1 : Nat) <| P1 (cs_l1Cur_pick hr6) <| PI (1 : Nat) <| P1 (cs_l1Cur_pick hr7) <| PI (1 : Nat) <| P1 (cs_l1Cur_pick hr8) <| P2 ((decide (t0 > 0)) = true) (decide_eq_true h9) <| PI (1 : Nat) <| P1 (cs_l1Cur_one hr10) <| P0) hn)
        (fun h9 H =>
          eN H fun r hn => gO [rg [hE 3 (D.str x5), hC 5 true [0] (Rs_l1Cur_pick r6) (Ns_l1Cur_pick r6), hC 8 true [0] (Rs_l1Cur_pick r7) (Ns_l1Cur_pick r7), hC 10 true [0] (Rs_l1Cur_pick r8) (Ns_l1Cur_pick r8), hF 13], r0, .canon [0, 1, 2, 3, 5, 4] [0, 2, 4, 5, 6, 7, 94, 95]] (by kernel_rfl) (P1 h4 <| P1 (int_lt_of_at h4 hx5) <| P1 (at_map D.str hx5) <| PI (1 : Nat) <| P1 (cs_l1Cur_pick hr6) <| PI (1 : Nat) <| P1 (cs_l1Cur_pick hr7) <| PI (1 : Nat) <| P1 (cs_l1Cur_pick hr8) <| P2 ((decide (t0 > 0)) = false) (decide_eq_false h9) <| P0) hn)))
    (fun h2 H =>
      eN H <| gE func159 [rg [hC 2 true [0] (Rs_l1Cur_pick r1) (Ns_l1Cur_pick r1), hF 4], r0] (by kernel_rfl) (PI (1 : Nat) <| P1 (cs_l1Cur_pick hr1) <| P2 ((decide (t0 < (IntKind.wrap .i64 (2 + r1.1)))) = false) (decide_eq_false h2) <| P0))
  | .h2 t0 t1 t2 b3 b4 b5 b6 b7 b8 b9 b10 b11 b12 b13 l14 b15 b16 b17 b18 l19, o, H =>
    eIf H (fun h1 H =>
      gN [rg [hT 0], r0] (by kernel_rfl) (P2 ((decide (t2 < t1)) = true) (decide_eq_true h1) <| P0) <|
      eIf H (fun h2 H =>
        eBind H fun r3 hr3 H =>
        eCk H fun h4 H =>
        eN H fun r hn => gO [rg [hT 1], rg [hC 1 true [0] (Rs_l1Cur_pick r3) (Ns_l1Cur_pick r3)], rg [hA 4 ([r3.1].length) (List.map I [r3.1])], r0, .canon [0, 1, 2, 3, 4, 5, 7] [0, 2, 4, 5, 6, 7, 94, 95]] (by kernel_rfl) (P2 ((decide (t0 > 0)) = true) (decide_eq_true h2) <| PI (1 : Nat) <| P1 (cs_l1Cur_pick hr3) <| P2 ([r3.1].length = 0 + [r3.1].length) (by simp <;> omega) <| P2 ((0 + [r3.1].length) * 8 ≤ 70368744177664) (by have := h4; simp at this ⊢ <;> omega) <| P2 (([] : List D) ++ List.map I [r3.1] = List.map I [r3.1]) (by simp) <| P0) hn)
      (fun h2 H =>
        eCk H fun h3 H =>
        eN H fun r hn => gO [rg [hF 1], rg [hA 4 ([1].length) (List.map I [1])], r0, .canon [0, 1, 2, 3, 4, 5, 7] [0, 2, 4, 5, 6, 7, 94, 95]] (by kernel_rfl) (P2 ((decide (t0 > 0)) = false) (decide_eq_false h2) <| P2 ([1].length = 0 + [1].length) (by simp <;> omega) <| P2 ((0 + [1].length) * 8 ≤ 70368744177664) (by have := h3; simp at this ⊢ <;> omega) <| P2 (([] : List D) ++ List.map I [1] = List.map I [1]) (by simp) <| P0) hn))
    (fun h1 H =>
      eCk H fun h2 H =>
      eN H fun r hn => gO [rg [hF 0], rg [{ i := 3, post := [.nil 6 0 1 1 (List.map goi_Terrain [(Gi_Terrain.mk b15 ([] : List Int) b16 b17 b18)])] }, hA 4 ([(Gi_Terrain.mk b15 ([] : List Int) b16 b17 b18)].length) (List.map goi_Terrain [(Gi_Terrain.mk b15 ([] : List Int) b16 b17 b18)])], r0, .canon [0, 1, 2, 3, 7, 5] [0, 2, 4, 5, 6]] (by kernel_rfl) (P2 ((decide (t2 < t1)) = false) (decide_eq_false h1) <| P2 (getCells [.agg [.str b15, .nil, I b16, I b17, .bool b18]] 0 1 1 = some [.nil]) rfl <| P2 (setCells [.agg [.str b15, .nil, I b16, I b17, .bool b18]] 0 1 [ow 1 I ([] : List Int)] = List.map goi_Terrain [(Gi_Terrain.mk b15 ([] : List Int) b16 b17 b18)]) rfl <| P2 ([(Gi_Terrain.mk b15 ([] : List Int) b16 b17 b18)].length = 0 + [(Gi_Terrain.mk b15 ([] : List Int) b16 b17 b18)].length) (by simp <;> omega) <| P2 ((0 + [(Gi_Terrain.mk b15 ([] : List Int) b16 b17 b18)].length) * 64 ≤ 70368744177664) (by have := h2; simp at this ⊢ <;> omega) <| P2 (([] : List D) ++ List.map goi_Terrain [(Gi_Terrain.mk b15 ([] : List Int) b16 b17 b18)] = List.map goi_Terrain [(Gi_Terrain.mk b15 ([] : List Int) b16 b17 b18)]) (by simp) <| P0) hn)
  | .h3 t0 t1 t2 b3 b4 b5 b6 b7 b8 b9 b10 b11 b12 b13 l14 b15 b16 b17 b18 l19 l20, o, H =>
    eIf H (fun h1 H =>
      gN [rg [hT 0], r0] (by kernel_rfl) (P2 ((decide (t2 < t1)) = true) (decide_eq_true h1) <| P0) <|
      eIf H (fun h2 H =>
        eBind H fun r3 hr3 H =>
        eCk H fun h4 H =>
        eN H fun r hn => gO [rg [hT 1], rg [hC 1 true [0] (Rs_l1Cur_pick r3) (Ns_l1Cur_pick r3)], rg [hA 4 ((l20 ++ [r3.1]).length) (List.map I (l20 ++ [r3.1]))], r0, .canon [0, 1, 2, 3, 4, 5, 8] [0, 2, 4, 5, 6, 7, 94, 95]] (by kernel_rfl) (P2 ((decide (t0 > 0)) = true) (decide_eq_true h2) <| PI (1 : Nat) <| P1 (cs_l1Cur_pick hr3) <| P1 (apL l20 [r3.1]) <| P1 (apB h4) <| P1 (apM I l20 [r3.1]) <| P0) hn)
      (fun h2 H =>
        eCk H fun h3 H =>
        eN H fun r hn => gO [rg [hF 1], rg [hA 4 ((l20 ++ [1]).length) (List.map I (l20 ++ [1]))], r0, .canon [0, 1, 2, 3, 4, 5, 8] [0, 2, 4, 5, 6, 7, 94, 95]] (by kernel_rfl) (P2 ((decide (t0 > 0)) = false) (decide_eq_false h2) <| P1 (apL l20 [1]) <| P1 (apB h3) <| P1 (apM I l20 [1]) <| P0) hn))
    (fun h1 H =>
      eCk H fun h2 H =>
      eN H fun r hn => gO [rg [hF 0], rg [{ i := 3, post := [.put 7 0 1 6 (List.map goi_Terrain [(Gi_Terrain.mk b15 l20 b16 b17 b18)]), .own 7 1] }, hA 4 ([(Gi_Terrain.mk b15 l20 b16 b17 b18)].length) (List.map goi_Terrain [(Gi_Terrain.mk b15 l20 b16 b17 b18)])], r0, .canon [0, 1, 2, 3, 8, 5] [0, 2, 4, 5, 6]] (by kernel_rfl) (P2 ((decide (t2 < t1)) = false) (decide_eq_false h1) <| P2 (getCells [.agg [.str b15, .ref 6 1 none, I b16, I b17, .bool b18]] 0 1 1 = some [.ref 6 1 none]) rfl <| P2 (setCells [.agg [.str b15, .ref 6 1 none, I b16, I b17, .bool b18]] 0 1 [ow 1 I l20] = List.map goi_Terrain [(Gi_Terrain.mk b15 l20 b16 b17 b18)]) rfl <| P1 (allOw_127 [(Gi_Terrain.mk b15 l20 b16 b17 b18)]) <| P2 ((1 : Nat) = 1) rfl <| P2 ([(Gi_Terrain.mk b15 l20 b16 b17 b18)].length = 0 + [(Gi_Terrain.mk b15 l20 b16 b17 b18)].length) (by simp <;> omega) <| P2 ((0 + [(Gi_Terrain.mk b15 l20 b16 b17 b18)].length) * 64 ≤ 70368744177664) (by have := h2; simp at this ⊢ <;> omega) <| P2 (([] : List D) ++ List.map goi_Terrain [(Gi_Terrain.mk b15 l20 b16 b17 b18)] = List.map goi_Terrain [(Gi_Terrain.mk b15 l20 b16 b17 b18)]) (by simp) <| P0) hn)
  | .h4 t0 b1 b2 b3 b4 b5 b6 b7 b8 b9 b10 b11 l12 l13 l14, o, H =>
    eBind H fun r1 hr1 H =>
    eIf H (fun h2 H =>
      gN [rg [hC 2 true [0] (Rs_l1Cur_pick r1) (Ns_l1Cur_pick r1), hT 4]] (by kernel_rfl) (PI (1 : Nat) <| P1 (cs_l1Cur_pick hr1) <| P2 ((decide (t0 < (IntKind.wrap .i64 (2 + r1.1)))) = true) (decide_eq_true h2) <| P0) <|
      eIf H (fun h3 H =>
        eN H <| gE func159 [rg [hT 3], r0] (by kernel_rfl) (P2 (((t0 : Int) == ((l12.length : Nat) : Int)) = true) (beqT h3) <| P0))
      (fun h3 H =>
        eCk H fun h4 H =>
        eBind H fun x5 hx5 H =>
        eBind H fun r6 hr6 H =>
        eBind H fun r7 hr7 H =>
        eBind H fun r8 hr8 H =>
        gN [rg [hF 3]] (by kernel_rfl) (P2 (((t0 : Int) == ((l12.length : Nat) : Int)) = false) (beqF h3) <| P0) <|
        eIf H (fun h9 H =>
          eBind H fun r10 hr10 H =>
          eN H fun r hn => gO [rg [hE 3 (D.str x5), hC 5 true [0] (Rs_l1Cur_pick r6) (Ns_l1Cur_pick r6), hC 8 true [0] (Rs_l1Cur_pick r7) (Ns_l1Cur_pick r7), hC 10 true [0] (Rs_l1Cur_pick r8) (Ns_l1Cur_pick r8), hT 13, hC 16 true [0] (Rs_l1Cur_one r10) (Ns_l1Cur_one r10)], r0, .canon [0, 1, 2, 3, 6, 4, 5] [0, 2, 4, 5, 6, 7, 94, 95]] (by kernel_rfl) (P1 h4 <| P1 (int_lt_of_at h4 hx5) <| P1 (at_map D.str hx5) <| PI (1 : Nat) <| P1 (cs_l1Cur_pick hr6) <| PI (1 : Nat) <| P1 (cs_l1Cur_pick hr7) <| PI (1 : Nat) <| P1 (cs_l1Cur_pick hr8) <| P2 ((decide (t0 > 0)) = true) (decide_eq_true h9) <| PI (1 : Nat) <| P1 (cs_l1Cur_one hr10) <| P0) hn)
        (fun h9 H =>
          eN H fun r hn => gO [rg [hE 3 (D.str x5), hC 5 true [0] (Rs_l1Cur_pick r6) (Ns_l1Cur_pick r6), hC 8 true [0] (Rs_l1Cur_pick r7) (Ns_l1Cur_pick r7), hC 10 true [0] (Rs_l1Cur_pick r8) (Ns_l1Cur_pick r8), hF 13], r0, .canon [0, 1, 2, 3, 6, 4, 5] [0, 2, 4, 5, 6, 7, 94, 95]] (by kernel_rfl) (P1 h4 <| P1 (int_lt_of_at h4 hx5) <| P1 (at_map D.str hx5) <| PI (1 : Nat) <| P1 (cs_l1Cur_pick hr6) <| PI (1 : Nat) <| P1 (cs_l1Cur_pick hr7) <| PI (1 : Nat) <| P1 (cs_l1Cur_pick hr8) <| P2 ((decide (t0 > 0)) = false) (decide_eq_false h9) <| P0) hn)))
    (fun h2 H =>
      eN H <| gE func159 [rg [hC 2 true [0] (Rs_l1Cur_pick r1) (Ns_l1Cur_pick r1), hF 4], r0] (by kernel_rfl) (PI (1 : Nat) <| P1 (cs_l1Cur_pick hr1) <| P2 ((decide (t0 < (IntKind.wrap .i64 (2 + r1.1)))) = false) (decide_eq_false h2) <| P0))
  | .h5 t0 t1 t2 b3 b4 b5 b6 b7 b8 b9 b10 b11 b12 b13 l14 b15 b16 b17 b18 l19 l20, o, H =>
    eIf H (fun h1 H =>
      gN [rg [hT 0], r0] (by kernel_rfl) (P2 ((decide (t2 < t1)) = true) (decide_eq_true h1) <| P0) <|
      eIf H (fun h2 H =>
        eBind H fun r3 hr3 H =>
        eCk H fun h4 H =>
        eN H fun r hn => gO [rg [hT 1], rg [hC 1 true [0] (Rs_l1Cur_pick r3) (Ns_l1Cur_pick r3)], rg [hA 4 ([r3.1].length) (List.map I [r3.1])], r0, .canon [0, 1, 2, 3, 4, 5, 6, 8] [0, 2, 4, 5, 6, 7, 94, 95]] (by kernel_rfl) (P2 ((decide (t0 > 0)) = true) (decide_eq_true h2) <| PI (1 : Nat) <| P1 (cs_l1Cur_pick hr3) <| P2 ([r3.1].length = 0 + [r3.1].length) (by simp <;> omega) <| P2 ((0 + [r3.1].length) * 8 ≤ 70368744177664) (by have := h4; simp at this ⊢ <;> omega) <| P2 (([] : List D) ++ List.map I [r3.1] = List.map I [r3.1]) (by simp) <| P0) hn)
      (fun h2 H =>
        eCk H fun h3 H =>
        eN H fun r hn => gO [rg [hF 1], rg [hA 4 ([1].length) (List.map I [1])], r0, .canon [0, 1, 2, 3, 4, 5, 6, 8] [0, 2, 4, 5, 6, 7, 94, 95]] (by kernel_rfl) (P2 ((decide (t0 > 0)) = false) (decide_eq_false h2) <| P2 ([1].length = 0 + [1].length) (by simp <;> omega) <| P2 ((0 + [1].length) * 8 ≤ 70368744177664) (by have := h3; simp at this ⊢ <;> omega) <| P2 (([] : List D) ++ List.map I [1] = List.map I [1]) (by simp) <| P0) hn))
    (fun h1 H =>
      eCk H fun h2 H =>
      eN H fun r hn => gO [rg [hF 0], rg [{ i := 3, post := [.nil 7 0 1 1 (List.map goi_Terrain [(Gi_Terrain.mk b15 ([] : List Int) b16 b17 b18)])] }, hA 4 ((l19 ++ [(Gi_Terrain.mk b15 ([] : List Int) b16 b17 b18)]).length) (List.map goi_Terrain (l19 ++ [(Gi_Terrain.mk b15 ([] : List Int) b16 b17 b18)]))], r0, .canon [0, 1, 2, 3, 8, 6] [0, 2, 4, 5, 6]] (by kernel_rfl) (P2 ((decide (t2 < t1)) = false) (decide_eq_false h1) <| P2 (getCells [.agg [.str b15, .nil, I b16, I b17, .bool b18]] 0 1 1 = some [.nil]) rfl <| P2 (setCells [.agg [.str b15, .nil, I b16, I b17, .bool b18]] 0 1 [ow 1 I ([] : List Int)] = List.map goi_Terrain [(Gi_Terrain.mk b15 ([] : List Int) b16 b17 b18)]) rfl <| P1 (apL l19 [(Gi_Terrain.mk b15 ([] : List Int) b16 b17 b18)]) <| P1 (apB h2) <| P1 (apM goi_Terrain l19 [(Gi_Terrain.mk b15 ([] : List Int) b16 b17 b18)]) <| P0) hn)
  | .h6 t0 t1 t2 b3 b4 b5 b6 b7 b8 b9 b10 b11 b12 b13 l14 b15 b16 b17 b18 l19 l20 l21, o, H =>
    eIf H (fun h1 H =>
      gN [rg [hT 0], r0] (by kernel_rfl) (P2 ((decide (t2 < t1)) = true) (decide_eq_true h1) <| P0) <|
      eIf H (fun h2 H =>
        eBind H fun r3 hr3 H =>
        eCk H fun h4 H =>
        eN H fun r hn => gO [rg [hT 1], rg [hC 1 true [0] (Rs_l1Cur_pick r3) (Ns_l1Cur_pick r3)], rg [hA 4 ((l21 ++ [r3.1]).length) (List.map I (l21 ++ [r3.1]))], r0, .canon [0, 1, 2, 3, 4, 5, 6, 9] [0, 2, 4, 5, 6, 7, 94, 95]] (by kernel_rfl) (P2 ((decide (t0 > 0)) = true) (decide_eq_true h2) <| PI (1 : Nat) <| P1 (cs_l1Cur_pick hr3) <| P1 (apL l21 [r3.1]) <| P1 (apB h4) <| P1 (apM I l21 [r3.1]) <| P0) hn)
      (fun h2 H =>
        eCk H fun h3 H =>
        eN H fun r hn => gO [rg [hF 1], rg [hA 4 ((l21 ++ [1]).length) (List.map I (l21 ++ [1]))], r0, .canon [0, 1, 2, 3, 4, 5, 6, 9] [0, 2, 4, 5, 6, 7, 94, 95]] (by kernel_rfl) (P2 ((decide (t0 > 0)) = false) (decide_eq_false h2) <| P1 (apL l21 [1]) <| P1 (apB h3) <| P1 (apM I l21 [1]) <| P0) hn))
    (fun h1 H =>
      eCk H fun h2 H =>
      eN H fun r hn => gO [rg [hF 0], rg [{ i := 3, post := [.put 8 0 1 7 (List.map goi_Terrain [(Gi_Terrain.mk b15 l21 b16 b17 b18)]), .own 8 1] }, hA 4 ((l19 ++ [(Gi_Terrain.mk b15 l21 b16 b17 b18)]).length) (List.map goi_Terrain (l19 ++ [(Gi_Terrain.mk b15 l21 b16 b17 b18)]))], r0, .canon [0, 1, 2, 3, 9, 6] [0, 2, 4, 5, 6]] (by kernel_rfl) (P2 ((decide (t2 < t1)) = false) (decide_eq_false h1) <| P2 (getCells [.agg [.str b15, .ref 7 1 none, I b16, I b17, .bool b18]] 0 1 1 = some [.ref 7 1 none]) rfl <| P2 (setCells [.agg [.str b15, .ref 7 1 none, I b16, I b17, .bool b18]] 0 1 [ow 1 I l21] = List.map goi_Terrain [(Gi_Terrain.mk b15 l21 b16 b17 b18)]) rfl <| P1 (allOw_127 [(Gi_Terrain.mk b15 l21 b16 b17 b18)]) <| P2 ((1 : Nat) = 1) rfl <| P1 (apL l19 [(Gi_Terrain.mk b15 l21 b16 b17 b18)]) <| P1 (apB h2) <| P1 (apM goi_Terrain l19 [(Gi_Terrain.mk b15 l21 b16 b17 b18)]) <| P0) hn)
theorem ws_l1Cur_rules : ∀ s r, loop Bs_l1Cur_rules s = some r → Wc X 159 1 (Ks_l1Cur_rules s) (Zs_l1Cur_rules s) (Rs_l1Cur_rules r) (Ns_l1Cur_rules r) := Nx.all ns_l1Cur_rules
theorem cs_l1Cur_rules {a0 : Gs_l1Cur} {r : Gi_Rules × Gs_l1Cur} (H : Ds_l1Cur_rules a0 = some r) : Ct X.P X.gl 159 [.ptr 0 3 0 0] [⟨false, true, 3, 1, [.agg [sl 1 (D.int .u8) a0.code, I a0.at_, .int .u64 a0.seed]]⟩] (Rs_l1Cur_rules r) (Ns_l1Cur_rules r) :=
  Ct.of func159 (c := bdy f159) (by kernel_rfl) (by kernel_rfl) <|
  eBind H fun r1 hr1 H =>
  eBind H fun r2 hr2 H =>
  eBind H fun r3 hr3 H =>
  eBind H fun r4 hr4 H =>
  eBind H fun r5 hr5 H =>
  eBind H fun r6 hr6 H =>
  eBind H fun r7 hr7 H =>
  eBind H fun r8 hr8 H =>
  eBind H fun r9 hr9 H =>
  eBind H fun r10 hr10 H =>
  eBind H fun r11 hr11 H =>
  eBind H fun r12 hr12 H =>
  eCk H fun h13 H =>
  eCk H fun h14 H =>
  eBind H fun r15 hr15 H =>
  eBind H fun r16 hr16 H =>
  eBind H fun r17 hr17 H =>
  eBind H fun r18 hr18 H =>
  gO [r0, rg [hC 1 true [0] (Rs_l1Cur_pick r1) (Ns_l1Cur_pick r1), hC 4 true [0] (Rs_l1Cur_pick r2) (Ns_l1Cur_pick r2), hC 7 true [0] (Rs_l1Cur_pick r3) (Ns_l1Cur_pick r3), hC 10 true [0] (Rs_l1Cur_pick r4) (Ns_l1Cur_pick r4), hC 14 true [0] (Rs_l1Cur_pick r5) (Ns_l1Cur_pick r5), hC 17 true [0] (Rs_l1Cur_pick r6) (Ns_l1Cur_pick r6), hC 20 true [0] (Rs_l1Cur_pick r7) (Ns_l1Cur_pick r7), hC 23 true [0] (Rs_l1Cur_one r8) (Ns_l1Cur_one r8), hC 26 true [0] (Rs_l1Cur_pick r9) (Ns_l1Cur_pick r9), hC 29 true [0] (Rs_l1Cur_pick r10) (Ns_l1Cur_pick r10), hC 32 true [0] (Rs_l1Cur_pick r11) (Ns_l1Cur_pick r11)], rg [hC 2 true [0] (Rs_l1Cur_pick r12) (Ns_l1Cur_pick r12), hC 6 true [0] (Rs_l1Cur_pick r15) (Ns_l1Cur_pick r15), hC 9 true [0] (Rs_l1Cur_pick r16) (Ns_l1Cur_pick r16), hC 11 true [0] (Rs_l1Cur_pick r17) (Ns_l1Cur_pick r17), hC 14 true [0] (Rs_l1Cur_pick r18) (Ns_l1Cur_pick r18)], r0, r0, .viewb 3 1 (List.take ((Int.toNat (IntKind.wrap .i64 (1 + r12.1))) - 0) (List.drop 0 [(Gi_Kind.mk ⟨#[102, 111, 111, 116]⟩ (IntKind.wrap .i64 (2 + r1.1)) (IntKind.wrap .i64 (2 + r2.1)) (IntKind.wrap .i64 (1 + r3.1)) true (IntKind.wrap .i64 (1 + r4.1))), (Gi_Kind.mk ⟨#[104, 111, 114, 115, 101]⟩ (IntKind.wrap .i64 (1 + r5.1)) (IntKind.wrap .i64 (3 + r6.1)) (IntKind.wrap .i64 (1 + r7.1)) r8.1 2), (Gi_Kind.mk ⟨#[103, 117, 110]⟩ (IntKind.wrap .i64 (3 + r9.1)) (IntKind.wrap .i64 (1 + r10.1)) 1 false r11.1)])).length (List.map gi_Kind (List.take ((Int.toNat (IntKind.wrap .i64 (1 + r12.1))) - 0) (List.drop 0 [(Gi_Kind.mk ⟨#[102, 111, 111, 116]⟩ (IntKind.wrap .i64 (2 + r1.1)) (IntKind.wrap .i64 (2 + r2.1)) (IntKind.wrap .i64 (1 + r3.1)) true (IntKind.wrap .i64 (1 + r4.1))), (Gi_Kind.mk ⟨#[104, 111, 114, 115, 101]⟩ (IntKind.wrap .i64 (1 + r5.1)) (IntKind.wrap .i64 (3 + r6.1)) (IntKind.wrap .i64 (1 + r7.1)) r8.1 2), (Gi_Kind.mk ⟨#[103, 117, 110]⟩ (IntKind.wrap .i64 (3 + r9.1)) (IntKind.wrap .i64 (1 + r10.1)) 1 false r11.1)]))), .canon [0, 1, 3, 4, 5] [0, 2, 4, 5, 6]] (by kernel_rfl) (PI (1 : Nat) <| P1 (cs_l1Cur_pick hr1) <| PI (1 : Nat) <| P1 (cs_l1Cur_pick hr2) <| PI (1 : Nat) <| P1 (cs_l1Cur_pick hr3) <| PI (1 : Nat) <| P1 (cs_l1Cur_pick hr4) <| PI (1 : Nat) <| P1 (cs_l1Cur_pick hr5) <| PI (1 : Nat) <| P1 (cs_l1Cur_pick hr6) <| PI (1 : Nat) <| P1 (cs_l1Cur_pick hr7) <| PI (1 : Nat) <| P1 (cs_l1Cur_one hr8) <| PI (1 : Nat) <| P1 (cs_l1Cur_pick hr9) <| PI (1 : Nat) <| P1 (cs_l1Cur_pick hr10) <| PI (1 : Nat) <| P1 (cs_l1Cur_pick hr11) <| PI (1 : Nat) <| P1 (cs_l1Cur_pick hr12) <| P2 ((0 : Int) ≤ (IntKind.wrap .i64 (1 + r12.1))) h13 <| P2 (((IntKind.wrap .i64 (1 + r12.1)) : Int) ≤ (([(Gi_Kind.mk ⟨#[102, 111, 111, 116]⟩ (IntKind.wrap .i64 (2 + r1.1)) (IntKind.wrap .i64 (2 + r2.1)) (IntKind.wrap .i64 (1 + r3.1)) true (IntKind.wrap .i64 (1 + r4.1))), (Gi_Kind.mk ⟨#[104, 111, 114, 115, 101]⟩ (IntKind.wrap .i64 (1 + r5.1)) (IntKind.wrap .i64 (3 + r6.1)) (IntKind.wrap .i64 (1 + r7.1)) r8.1 2), (Gi_Kind.mk ⟨#[103, 117, 110]⟩ (IntKind.wrap .i64 (3 + r9.1)) (IntKind.wrap .i64 (1 + r10.1)) 1 false r11.1)].length : Nat) : Int)) h14 <| PI (1 : Nat) <| P1 (cs_l1Cur_pick hr15) <| PI (1 : Nat) <| P1 (cs_l1Cur_pick hr16) <| PI (1 : Nat) <| P1 (cs_l1Cur_pick hr17) <| PI (1 : Nat) <| P1 (cs_l1Cur_pick hr18) <| P2 (((Int.toNat (IntKind.wrap .i64 (1 + r12.1))) - 0) = (List.take ((Int.toNat (IntKind.wrap .i64 (1 + r12.1))) - 0) (List.drop 0 [(Gi_Kind.mk ⟨#[102, 111, 111, 116]⟩ (IntKind.wrap .i64 (2 + r1.1)) (IntKind.wrap .i64 (2 + r2.1)) (IntKind.wrap .i64 (1 + r3.1)) true (IntKind.wrap .i64 (1 + r4.1))), (Gi_Kind.mk ⟨#[104, 111, 114, 115, 101]⟩ (IntKind.wrap .i64 (1 + r5.1)) (IntKind.wrap .i64 (3 + r6.1)) (IntKind.wrap .i64 (1 + r7.1)) r8.1 2), (Gi_Kind.mk ⟨#[103, 117, 110]⟩ (IntKind.wrap .i64 (3 + r9.1)) (IntKind.wrap .i64 (1 + r10.1)) 1 false r11.1)])).length) (by first | (simp <;> omega) | (simp only [List.length_take, List.length_drop, List.length_nil] <;> omega)) <| P2 (List.take ((Int.toNat (IntKind.wrap .i64 (1 + r12.1))) - 0) (List.drop 0 (List.map gi_Kind [(Gi_Kind.mk ⟨#[102, 111, 111, 116]⟩ (IntKind.wrap .i64 (2 + r1.1)) (IntKind.wrap .i64 (2 + r2.1)) (IntKind.wrap .i64 (1 + r3.1)) true (IntKind.wrap .i64 (1 + r4.1))), (Gi_Kind.mk ⟨#[104, 111, 114, 115, 101]⟩ (IntKind.wrap .i64 (1 + r5.1)) (IntKind.wrap .i64 (3 + r6.1)) (IntKind.wrap .i64 (1 + r7.1)) r8.1 2), (Gi_Kind.mk ⟨#[103, 117, 110]⟩ (IntKind.wrap .i64 (3 + r9.1)) (IntKind.wrap .i64 (1 + r10.1)) 1 false r11.1)])) = List.map gi_Kind (List.take ((Int.toNat (IntKind.wrap .i64 (1 + r12.1))) - 0) (List.drop 0 [(Gi_Kind.mk ⟨#[102, 111, 111, 116]⟩ (IntKind.wrap .i64 (2 + r1.1)) (IntKind.wrap .i64 (2 + r2.1)) (IntKind.wrap .i64 (1 + r3.1)) true (IntKind.wrap .i64 (1 + r4.1))), (Gi_Kind.mk ⟨#[104, 111, 114, 115, 101]⟩ (IntKind.wrap .i64 (1 + r5.1)) (IntKind.wrap .i64 (3 + r6.1)) (IntKind.wrap .i64 (1 + r7.1)) r8.1 2), (Gi_Kind.mk ⟨#[103, 117, 110]⟩ (IntKind.wrap .i64 (3 + r9.1)) (IntKind.wrap .i64 (1 + r10.1)) 1 false r11.1)]))) (by rw [List.map_take, List.map_drop]) <| P0) (ws_l1Cur_rules _ _ H)
/-! loop example/g00886/spec mSize -/
theorem cs_mSize {a0 : Gi_Map} {r : Int} (H : Ds_mSize a0 = some r) : Ct X.P X.gl 98 [.agg [I a0.Width, I a0.Height, sl 1 I a0.Terrain, sl 1 I a0.Rivers, sl 1 I a0.Roads]] [] (RI r) [] :=
  Ct.of func98 (c := bdy f98) (by kernel_rfl) (by kernel_rfl) <|
  eW RI (fun _ => []) H <| gE func98 [r0, r0] (by kernel_rfl) P0
/-! loop example/g00886/spec mHex -/
def Rs_mHex (r : Gi_Hex) : List D := [.agg [I r.Q, I r.R]]
theorem cs_mHex {a0 : Gi_Map} {a1 : Int} {r : Gi_Hex} (H : Ds_mHex a0 a1 = some r) : Ct X.P X.gl 118 [.agg [I a0.Width, I a0.Height, sl 1 I a0.Terrain, sl 1 I a0.Rivers, sl 1 I a0.Roads], I a1] [] (Rs_mHex r) [] :=
  Ct.of func118 (c := bdy f118) (by kernel_rfl) (by kernel_rfl) <|
  eCk H fun h1 H =>
  eCk H fun h2 H =>
  eW Rs_mHex (fun _ => []) H <| gE func118 [r0, r0] (by kernel_rfl) (P2 (¬ (a0.Width : Int) = 0) h1 <| P2 (¬ (a0.Width : Int) = 0) h2 <| P0)
/-! loop example/g00886/spec hStep -/
def Rs_hStep (r : Gi_Hex) : List D := [.agg [I r.Q, I r.R]]
theorem cs_hStep {a0 : Gi_Hex} {a1 : Int} {r : Gi_Hex} (H : Ds_hStep a0 a1 = some r) : Ct X.P X.gl 117 [.agg [I a0.Q, I a0.R], I a1] [] (Rs_hStep r) [] :=
  Ct.of func117 (c := bdy f117) (by kernel_rfl) (by kernel_rfl) <|
  eCk H fun h1 H =>
  eBind H fun x2 hx2 H =>
  eCk H fun h3 H =>
  eBind H fun x4 hx4 H =>
  eW Rs_hStep (fun _ => []) H <| gE func117 [r0, rg [hE 5 (I x2), hE 12 (I x4)]] (by kernel_rfl) (P1 h1 <| P1 (int_lt_of_at h1 hx2) <| P1 (at_map I hx2) <| P1 h3 <| P1 (int_lt_of_at h3 hx4) <| P1 (at_map I hx4) <| P0)
/-! loop example/g00886/spec l1In -/
theorem cs_l1In {a0 : Int} {a1 : Int} {a2 : Int} {r : Bool} (H : Ds_l1In a0 a1 a2 = some r) : Ct X.P X.gl 63 [I a0, I a1, I a2] [] (RB r) [] :=
  Ct.of func63 (c := bdy f63) (by kernel_rfl) (by kernel_rfl) <|
  gS [r0] (by kernel_rfl) P0 <|
  eIf H (fun h1 H =>
    eW RB (fun _ => []) H <| gE func63 [rg [hT 2]] (by kernel_rfl) (P2 ((decide (a0 ≥ a1)) = true) (decide_eq_true h1) <| P0))
  (fun h1 H =>
    eW RB (fun _ => []) H <| gE func63 [rg [hF 2]] (by kernel_rfl) (P2 ((decide (a0 ≥ a1)) = false) (decide_eq_false h1) <| P0))
/-! loop example/g00886/spec mIndex -/
theorem cs_mIndex {a0 : Gi_Map} {a1 : Gi_Hex} {r : Int} (H : Ds_mIndex a0 a1 = some r) : Ct X.P X.gl 116 [.agg [I a0.Width, I a0.Height, sl 1 I a0.Terrain, sl 1 I a0.Rivers, sl 1 I a0.Roads], .agg [I a1.Q, I a1.R]] [] (RI r) [] :=
  Ct.of func116 (c := bdy f116) (by kernel_rfl) (by kernel_rfl) <|
  eBind H fun r1 hr1 H =>
  gS [r0] (by kernel_rfl) P0 <|
  eIf H (fun h2 H =>
    eBind H fun r3 hr3 H =>
    eIf H (fun h4 H =>
      eW RI (fun _ => []) H <| gE func116 [rg [{ i := 5, call := some { cl := true, auto := true, ins := [], res := (RB r1), G' := [] }, dec := some true }, { i := 13, call := some { cl := true, auto := true, ins := [], res := (RB r3), G' := [] }, dec := some true }], r0] (by kernel_rfl) (P1 (cs_l1In hr1) <| P2 (r1 = true) (h2) <| P1 (cs_l1In hr3) <| P2 (r3 = true) (h4) <| P0))
    (fun h4 H =>
      eW RI (fun _ => []) H <| gE func116 [rg [{ i := 5, call := some { cl := true, auto := true, ins := [], res := (RB r1), G' := [] }, dec := some true }, { i := 13, call := some { cl := true, auto := true, ins := [], res := (RB r3), G' := [] }, dec := some false }], r0] (by kernel_rfl) (P1 (cs_l1In hr1) <| P2 (r1 = true) (h2) <| P1 (cs_l1In hr3) <| P2 (r3 = false) (eqF h4) <| P0)))
  (fun h2 H =>
    eW RI (fun _ => []) H <| gE func116 [rg [{ i := 5, call := some { cl := true, auto := true, ins := [], res := (RB r1), G' := [] }, dec := some false }], r0] (by kernel_rfl) (P1 (cs_l1In hr1) <| P2 (r1 = false) (eqF h2) <| P0))
/-! loop example/g00886/spec mNext -/
theorem cs_mNext {a0 : Gi_Map} {a1 : Int} {a2 : Int} {r : Int} (H : Ds_mNext a0 a1 a2 = some r) : Ct X.P X.gl 80 [.agg [I a0.Width, I a0.Height, sl 1 I a0.Terrain, sl 1 I a0.Rivers, sl 1 I a0.Roads], I a1, I a2] [] (RI r) [] :=
  Ct.of func80 (c := bdy f80) (by kernel_rfl) (by kernel_rfl) <|
  eBind H fun r1 hr1 H =>
  eBind H fun r2 hr2 H =>
  eBind H fun r3 hr3 H =>
  eW RI (fun _ => []) H <| gE func80 [r0, rg [hC 3 true [] (Rs_mHex r1) [], hC 5 true [] (Rs_hStep r2) [], hC 6 true [] (RI r3) []]] (by kernel_rfl) (P1 (cs_mHex hr1) <| P1 (cs_hStep hr2) <| P1 (cs_mIndex hr3) <| P0)
/-! loop example/g00886/spec mEdge -/
theorem cs_mEdge {a0 : Gi_Map} {a1 : Int} {a2 : Int} {r : Int} (H : Ds_mEdge a0 a1 a2 = some r) : Ct X.P X.gl 158 [.agg [I a0.Width, I a0.Height, sl 1 I a0.Terrain, sl 1 I a0.Rivers, sl 1 I a0.Roads], I a1, I a2] [] (RI r) [] :=
  Ct.of func158 (c := bdy f158) (by kernel_rfl) (by kernel_rfl) <|
  gS [r0] (by kernel_rfl) P0 <|
  eIf H (fun h1 H =>
    eW RI (fun _ => []) H <| gE func158 [rg [hT 1], r0] (by kernel_rfl) (P2 ((decide (a2 < 3)) = true) (decide_eq_true h1) <| P0))
  (fun h1 H =>
    eBind H fun r2 hr2 H =>
    eW RI (fun _ => []) H <| gE func158 [rg [hF 1], rg [hC 3 true [] (RI r2) []]] (by kernel_rfl) (P2 ((decide (a2 < 3)) = false) (decide_eq_false h1) <| P1 (cs_mNext hr2) <| P0))
/-! loop example/g00886/spec l1Put -/
def Rs_l1Put_c0 (r : (List Int)) : List D := [ow 1 I r]
def Ns_l1Put_c0 (r : (List Int)) : List Root := [deadR]
noncomputable def Ks_l1Put_c0 : Ss_l1Put_c0 → List Item
  | .h1 .. => nav 300 2 [] [.code (bdy f126)]
def Zs_l1Put_c0 : Ss_l1Put_c0 → St
  | .h1 n0 k1 l2 => ⟨sts 48 [(0, .ref 1 1 none), (1, I n0), (5, I k1)], [none, some ⟨false, false, 1, l2.length, List.map I l2⟩]⟩
abbrev Qs_l1Put_c0 := Nx X 126 1 Ks_l1Put_c0 Zs_l1Put_c0 Rs_l1Put_c0 Ns_l1Put_c0
theorem ns_l1Put_c0 : ∀ s o, Bs_l1Put_c0 s = some o → Qs_l1Put_c0 (Ks_l1Put_c0 s) (Zs_l1Put_c0 s) o
  | .h1 n0 k1 l2, o, H =>
    eIf H (fun h1 H =>
      eCk H fun h2 H =>
      eBind H fun x3 hx3 H =>
      eIf H (fun h4 H =>
        eN H fun r hn => gO [rg [hT 3, hE 8 (I x3), hT 10], r0, .canon [0, 1] [0, 1, 5]] (by kernel_rfl) (P2 ((decide (k1 < ((l2.length : Nat) : Int))) = true) (decide_eq_true h1) <| P1 h2 <| P1 (int_lt_of_at h2 hx3) <| P1 (at_map I hx3) <| P2 ((decide (x3 < n0)) = true) (decide_eq_true h4) <| P0) hn)
      (fun h4 H =>
        gN [rg [hT 3, hE 8 (I x3), hF 10]] (by kernel_rfl) (P2 ((decide (k1 < ((l2.length : Nat) : Int))) = true) (decide_eq_true h1) <| P1 h2 <| P1 (int_lt_of_at h2 hx3) <| P1 (at_map I hx3) <| P2 ((decide (x3 < n0)) = false) (decide_eq_false h4) <| P0) <|
        eIf H (fun h5 H =>
          eCk H fun h6 H =>
          eBind H fun x7 hx7 H =>
          eIf H (fun h8 H =>
            eN H <| gE func126 [rg [hT 3, hE 8 (I x7), hT 10], r0] (by kernel_rfl) (P2 ((decide (k1 < ((l2.length : Nat) : Int))) = true) (decide_eq_true h5) <| P1 h6 <| P1 (int_lt_of_at h6 hx7) <| P1 (at_map I hx7) <| P2 (((x7 : Int) == n0) = true) (beqT h8) <| P0))
          (fun h8 H =>
            eCk H fun h9 H =>
            eCk H fun h10 H =>
            eCk H fun h11 H =>
            eCk H fun h12 H =>
            eCk H fun h13 H =>
            eCk H fun h14 H =>
            eCk H fun h15 H =>
            eN H <| gE func126 [rg [hT 3, hE 8 (I x7), hF 10], rg [{ i := 4, keep := true, n := (List.take ((Int.toNat k1) - 0) (List.drop 0 l2)).length, xs := List.map I (List.take ((Int.toNat k1) - 0) (List.drop 0 l2)) }], rg [hA 3 (((List.take ((Int.toNat k1) - 0) (List.drop 0 l2)) ++ [n0]).length) (List.map I ((List.take ((Int.toNat k1) - 0) (List.drop 0 l2)) ++ [n0]))], rg [{ i := 4, keep := true, n := (((List.take ((Int.toNat k1) - 0) (List.drop 0 l2)) ++ [n0]) ++ (List.take (l2.length - (Int.toNat k1)) (List.drop (Int.toNat k1) l2))).length, xs := List.map I (((List.take ((Int.toNat k1) - 0) (List.drop 0 l2)) ++ [n0]) ++ (List.take (l2.length - (Int.toNat k1)) (List.drop (Int.toNat k1) l2))) }]] (by kernel_rfl) (P2 ((decide (k1 < ((l2.length : Nat) : Int))) = true) (decide_eq_true h5) <| P1 h6 <| P1 (int_lt_of_at h6 hx7) <| P1 (at_map I hx7) <| P2 (((x7 : Int) == n0) = false) (beqF h8) <| P2 ((0 : Int) ≤ k1) h9 <| P2 ((k1 : Int) ≤ ((l2.length : Nat) : Int)) h10 <| P2 (AllFl (List.map I l2)) (allFl_3 _) <| P2 ((List.take ((Int.toNat k1) - 0) (List.drop 0 l2)).length = ([] : List Int).length + ((Int.toNat k1) - 0)) (by first | (simp <;> omega) | (simp only [List.length_append, List.length_take, List.length_drop, List.length_nil] <;> omega)) <| P2 ((([] : List Int).length + ((Int.toNat k1) - 0)) * 8 ≤ 70368744177664) (by have := h11; first | (simp at this ⊢ <;> omega) | (simp only [List.length_append, List.length_take, List.length_drop, List.length_nil] at this ⊢ <;> omega)) <| P2 (List.map I ([] : List Int) ++ List.take ((Int.toNat k1) - 0) (List.drop 0 (List.map I l2)) = List.map I (List.take ((Int.toNat k1) - 0) (List.drop 0 l2))) (by simp [List.map_take, List.map_drop]) <| P1 (apL (List.take ((Int.toNat k1) - 0) (List.drop 0 l2)) [n0]) <| P1 (apB h12) <| P1 (apM I (List.take ((Int.toNat k1) - 0) (List.drop 0 l2)) [n0]) <| P2 ((0 : Int) ≤ k1) h13 <| P2 ((k1 : Int) ≤ ((l2.length : Nat) : Int)) h14 <| P2 (AllFl (List.map I l2)) (allFl_3 _) <| P2 ((((List.take ((Int.toNat k1) - 0) (List.drop 0 l2)) ++ [n0]) ++ (List.take (l2.length - (Int.toNat k1)) (List.drop (Int.toNat k1) l2))).length = ((List.take ((Int.toNat k1) - 0) (List.drop 0 l2)) ++ [n0]).length + (l2.length - (Int.toNat k1))) (by first | (simp <;> omega) | (simp only [List.length_append, List.length_take, List.length_drop, List.length_nil] <;> omega)) <| P2 ((((List.take ((Int.toNat k1) - 0) (List.drop 0 l2)) ++ [n0]).length + (l2.length - (Int.toNat k1))) * 8 ≤ 70368744177664) (by have := h15; first | (simp at this ⊢ <;> omega) | (simp only [List.length_append, List.length_take, List.length_drop, List.length_nil] at this ⊢ <;> omega)) <| P2 (List.map I ((List.take ((Int.toNat k1) - 0) (List.drop 0 l2)) ++ [n0]) ++ List.take (l2.length - (Int.toNat k1)) (List.drop (Int.toNat k1) (List.map I l2)) = List.map I (((List.take ((Int.toNat k1) - 0) (List.drop 0 l2)) ++ [n0]) ++ (List.take (l2.length - (Int.toNat k1)) (List.drop (Int.toNat k1) l2)))) (by simp [List.map_take, List.map_drop]) <| P0)))
        (fun h5 H =>
          eCk H fun h6 H =>
          eCk H fun h7 H =>
          eCk H fun h8 H =>
          eCk H fun h9 H =>
          eCk H fun h10 H =>
          eCk H fun h11 H =>
          eCk H fun h12 H =>
          eN H <| gE func126 [rg [hF 3], rg [{ i := 4, keep := true, n := (List.take ((Int.toNat k1) - 0) (List.drop 0 l2)).length, xs := List.map I (List.take ((Int.toNat k1) - 0) (List.drop 0 l2)) }], rg [hA 3 (((List.take ((Int.toNat k1) - 0) (List.drop 0 l2)) ++ [n0]).length) (List.map I ((List.take ((Int.toNat k1) - 0) (List.drop 0 l2)) ++ [n0]))], rg [{ i := 4, keep := true, n := (((List.take ((Int.toNat k1) - 0) (List.drop 0 l2)) ++ [n0]) ++ (List.take (l2.length - (Int.toNat k1)) (List.drop (Int.toNat k1) l2))).length, xs := List.map I (((List.take ((Int.toNat k1) - 0) (List.drop 0 l2)) ++ [n0]) ++ (List.take (l2.length - (Int.toNat k1)) (List.drop (Int.toNat k1) l2))) }]] (by kernel_rfl) (P2 ((decide (k1 < ((l2.length : Nat) : Int))) = false) (decide_eq_false h5) <| P2 ((0 : Int) ≤ k1) h6 <| P2 ((k1 : Int) ≤ ((l2.length : Nat) : Int)) h7 <| P2 (AllFl (List.map I l2)) (allFl_3 _) <| P2 ((List.take ((Int.toNat k1) - 0) (List.drop 0 l2)).length = ([] : List Int).length + ((Int.toNat k1) - 0)) (by first | (simp <;> omega) | (simp only [List.length_append, List.length_take, List.length_drop, List.length_nil] <;> omega)) <| P2 ((([] : List Int).length + ((Int.toNat k1) - 0)) * 8 ≤ 70368744177664) (by have := h8; first | (simp at this ⊢ <;> omega) | (simp only [List.length_append, List.length_take, List.length_drop, List.length_nil] at this ⊢ <;> omega)) <| P2 (List.map I ([] : List Int) ++ List.take ((Int.toNat k1) - 0) (List.drop 0 (List.map I l2)) = List.map I (List.take ((Int.toNat k1) - 0) (List.drop 0 l2))) (by simp [List.map_take, List.map_drop]) <| P1 (apL (List.take ((Int.toNat k1) - 0) (List.drop 0 l2)) [n0]) <| P1 (apB h9) <| P1 (apM I (List.take ((Int.toNat k1) - 0) (List.drop 0 l2)) [n0]) <| P2 ((0 : Int) ≤ k1) h10 <| P2 ((k1 : Int) ≤ ((l2.length : Nat) : Int)) h11 <| P2 (AllFl (List.map I l2)) (allFl_3 _) <| P2 ((((List.take ((Int.toNat k1) - 0) (List.drop 0 l2)) ++ [n0]) ++ (List.take (l2.length - (Int.toNat k1)) (List.drop (Int.toNat k1) l2))).length = ((List.take ((Int.toNat k1) - 0) (List.drop 0 l2)) ++ [n0]).length + (l2.length - (Int.toNat k1))) (by first | (simp <;> omega) | (simp only [List.length_append, List.length_take, List.length_drop, List.length_nil] <;> omega)) <| P2 ((((List.take ((Int.toNat k1) - 0) (List.drop 0 l2)) ++ [n0]).length + (l2.length - (Int.toNat k1))) * 8 ≤ 70368744177664) (by have := h12; first | (simp at this ⊢ <;> omega) | (simp only [List.length_append, List.length_take, List.length_drop, List.length_nil] at this ⊢ <;> omega)) <| P2 (List.map I ((List.take ((Int.toNat k1) - 0) (List.drop 0 l2)) ++ [n0]) ++ List.take (l2.length - (Int.toNat k1)) (List.drop (Int.toNat k1) (List.map I l2)) = List.map I (((List.take ((Int.toNat k1) - 0) (List.drop 0 l2)) ++ [n0]) ++ (List.take (l2.length - (Int.toNat k1)) (List.drop (Int.toNat k1) l2)))) (by simp [List.map_take, List.map_drop]) <| P0))))
    (fun h1 H =>
      gN [rg [hF 3]] (by kernel_rfl) (P2 ((decide (k1 < ((l2.length : Nat) : Int))) = false) (decide_eq_false h1) <| P0) <|
      eIf H (fun h2 H =>
        eCk H fun h3 H =>
        eBind H fun x4 hx4 H =>
        eIf H (fun h5 H =>
          eN H <| gE func126 [rg [hT 3, hE 8 (I x4), hT 10], r0] (by kernel_rfl) (P2 ((decide (k1 < ((l2.length : Nat) : Int))) = true) (decide_eq_true h2) <| P1 h3 <| P1 (int_lt_of_at h3 hx4) <| P1 (at_map I hx4) <| P2 (((x4 : Int) == n0) = true) (beqT h5) <| P0))
        (fun h5 H =>
          eCk H fun h6 H =>
          eCk H fun h7 H =>
          eCk H fun h8 H =>
          eCk H fun h9 H =>
          eCk H fun h10 H =>
          eCk H fun h11 H =>
          eCk H fun h12 H =>
          eN H <| gE func126 [rg [hT 3, hE 8 (I x4), hF 10], rg [{ i := 4, keep := true, n := (List.take ((Int.toNat k1) - 0) (List.drop 0 l2)).length, xs := List.map I (List.take ((Int.toNat k1) - 0) (List.drop 0 l2)) }], rg [hA 3 (((List.take ((Int.toNat k1) - 0) (List.drop 0 l2)) ++ [n0]).length) (List.map I ((List.take ((Int.toNat k1) - 0) (List.drop 0 l2)) ++ [n0]))], rg [{ i := 4, keep := true, n := (((List.take ((Int.toNat k1) - 0) (List.drop 0 l2)) ++ [n0]) ++ (List.take (l2.length - (Int.toNat k1)) (List.drop (Int.toNat k1) l2))).length, xs := List.map I (((List.take ((Int.toNat k1) - 0) (List.drop 0 l2)) ++ [n0]) ++ (List.take (l2.length - (Int.toNat k1)) (List.drop (Int.toNat k1) l2))) }]] (by kernel_rfl) (P2 ((decide (k1 < ((l2.length : Nat) : Int))) = true) (decide_eq_true h2) <| P1 h3 <| P1 (int_lt_of_at h3 hx4) <| P1 (at_map I hx4) <| P2 (((x4 : Int) == n0) = false) (beqF h5) <| P2 ((0 : Int) ≤ k1) h6 <| P2 ((k1 : Int) ≤ ((l2.length : Nat) : Int)) h7 <| P2 (AllFl (List.map I l2)) (allFl_3 _) <| P2 ((List.take ((Int.toNat k1) - 0) (List.drop 0 l2)).length = ([] : List Int).length + ((Int.toNat k1) - 0)) (by first | (simp <;> omega) | (simp only [List.length_append, List.length_take, List.length_drop, List.length_nil] <;> omega)) <| P2 ((([] : List Int).length + ((Int.toNat k1) - 0)) * 8 ≤ 70368744177664) (by have := h8; first | (simp at this ⊢ <;> omega) | (simp only [List.length_append, List.length_take, List.length_drop, List.length_nil] at this ⊢ <;> omega)) <| P2 (List.map I ([] : List Int) ++ List.take ((Int.toNat k1) - 0) (List.drop 0 (List.map I l2)) = List.map I (List.take ((Int.toNat k1) - 0) (List.drop 0 l2))) (by simp [List.map_take, List.map_drop]) <| P1 (apL (List.take ((Int.toNat k1) - 0) (List.drop 0 l2)) [n0]) <| P1 (apB h9) <| P1 (apM I (List.take ((Int.toNat k1) - 0) (List.drop 0 l2)) [n0]) <| P2 ((0 : Int) ≤ k1) h10 <| P2 ((k1 : Int) ≤ ((l2.length : Nat) : Int)) h11 <| P2 (AllFl (List.map I l2)) (allFl_3 _) <| P2 ((((List.take ((Int.toNat k1) - 0) (List.drop 0 l2)) ++ [n0]) ++ (List.take (l2.length - (Int.toNat k1)) (List.drop (Int.toNat k1) l2))).length = ((List.take ((Int.toNat k1) - 0) (List.drop 0 l2)) ++ [n0]).length + (l2.length - (Int.toNat k1))) (by first | (simp <;> omega) | (simp only [List.length_append, List.length_take, List.length_drop, List.length_nil] <;> omega)) <| P2 ((((List.take ((Int.toNat k1) - 0) (List.drop 0 l2)) ++ [n0]).length + (l2.length - (Int.toNat k1))) * 8 ≤ 70368744177664) (by have := h12; first | (simp at this ⊢ <;> omega) | (simp only [List.length_append, List.length_take, List.length_drop, List.length_nil] at this ⊢ <;> omega)) <| P2 (List.map I ((List.take ((Int.toNat k1) - 0) (List.drop 0 l2)) ++ [n0]) ++ List.take (l2.length - (Int.toNat k1)) (List.drop (Int.toNat k1) (List.map I l2)) = List.map I (((List.take ((Int.toNat k1) - 0) (List.drop 0 l2)) ++ [n0]) ++ (List.take (l2.length - (Int.toNat k1)) (List.drop (Int.toNat k1) l2)))) (by simp [List.map_take, List.map_drop]) <| P0)))
      (fun h2 H =>
        eCk H fun h3 H =>
        eCk H fun h4 H =>
        eCk H fun h5 H =>
        eCk H fun h6 H =>
        eCk H fun h7 H =>
        eCk H fun h8 H =>
        eCk H fun h9 H =>
        eN H <| gE func126 [rg [hF 3], rg [{ i := 4, keep := true, n := (List.take ((Int.toNat k1) - 0) (List.drop 0 l2)).length, xs := List.map I (List.take ((Int.toNat k1) - 0) (List.drop 0 l2)) }], rg [hA 3 (((List.take ((Int.toNat k1) - 0) (List.drop 0 l2)) ++ [n0]).length) (List.map I ((List.take ((Int.toNat k1) - 0) (List.drop 0 l2)) ++ [n0]))], rg [{ i := 4, keep := true, n := (((List.take ((Int.toNat k1) - 0) (List.drop 0 l2)) ++ [n0]) ++ (List.take (l2.length - (Int.toNat k1)) (List.drop (Int.toNat k1) l2))).length, xs := List.map I (((List.take ((Int.toNat k1) - 0) (List.drop 0 l2)) ++ [n0]) ++ (List.take (l2.length - (Int.toNat k1)) (List.drop (Int.toNat k1) l2))) }]] (by kernel_rfl) (P2 ((decide (k1 < ((l2.length : Nat) : Int))) = false) (decide_eq_false h2) <| P2 ((0 : Int) ≤ k1) h3 <| P2 ((k1 : Int) ≤ ((l2.length : Nat) : Int)) h4 <| P2 (AllFl (List.map I l2)) (allFl_3 _) <| P2 ((List.take ((Int.toNat k1) - 0) (List.drop 0 l2)).length = ([] : List Int).length + ((Int.toNat k1) - 0)) (by first | (simp <;> omega) | (simp only [List.length_append, List.length_take, List.length_drop, List.length_nil] <;> omega)) <| P2 ((([] : List Int).length + ((Int.toNat k1) - 0)) * 8 ≤ 70368744177664) (by have := h5; first | (simp at this ⊢ <;> omega) | (simp only [List.length_append, List.length_take, List.length_drop, List.length_nil] at this ⊢ <;> omega)) <| P2 (List.map I ([] : List Int) ++ List.take ((Int.toNat k1) - 0) (List.drop 0 (List.map I l2)) = List.map I (List.take ((Int.toNat k1) - 0) (List.drop 0 l2))) (by simp [List.map_take, List.map_drop]) <| P1 (apL (List.take ((Int.toNat k1) - 0) (List.drop 0 l2)) [n0]) <| P1 (apB h6) <| P1 (apM I (List.take ((Int.toNat k1) - 0) (List.drop 0 l2)) [n0]) <| P2 ((0 : Int) ≤ k1) h7 <| P2 ((k1 : Int) ≤ ((l2.length : Nat) : Int)) h8 <| P2 (AllFl (List.map I l2)) (allFl_3 _) <| P2 ((((List.take ((Int.toNat k1) - 0) (List.drop 0 l2)) ++ [n0]) ++ (List.take (l2.length - (Int.toNat k1)) (List.drop (Int.toNat k1) l2))).length = ((List.take ((Int.toNat k1) - 0) (List.drop 0 l2)) ++ [n0]).length + (l2.length - (Int.toNat k1))) (by first | (simp <;> omega) | (simp only [List.length_append, List.length_take, List.length_drop, List.length_nil] <;> omega)) <| P2 ((((List.take ((Int.toNat k1) - 0) (List.drop 0 l2)) ++ [n0]).length + (l2.length - (Int.toNat k1))) * 8 ≤ 70368744177664) (by have := h9; first | (simp at this ⊢ <;> omega) | (simp only [List.length_append, List.length_take, List.length_drop, List.length_nil] at this ⊢ <;> omega)) <| P2 (List.map I ((List.take ((Int.toNat k1) - 0) (List.drop 0 l2)) ++ [n0]) ++ List.take (l2.length - (Int.toNat k1)) (List.drop (Int.toNat k1) (List.map I l2)) = List.map I (((List.take ((Int.toNat k1) - 0) (List.drop 0 l2)) ++ [n0]) ++ (List.take (l2.length - (Int.toNat k1)) (List.drop (Int.toNat k1) l2)))) (by simp [List.map_take, List.map_drop]) <| P0)))
theorem ws_l1Put_c0 : ∀ s r, loop Bs_l1Put_c0 s = some r → Wc X 126 1 (Ks_l1Put_c0 s) (Zs_l1Put_c0 s) (Rs_l1Put_c0 r) (Ns_l1Put_c0 r) := Nx.all ns_l1Put_c0
theorem cs_l1Put_c0 {a0 : (List Int)} {a1 : Int} {r : (List Int)} (H : Ds_l1Put_c0 a0 a1 = some r) : Ct X.P X.gl 126 [.ref 0 1 none, I a1] [⟨false, false, 1, a0.length, List.map I a0⟩] (Rs_l1Put_c0 r) (Ns_l1Put_c0 r) :=
  Ct.of func126 (c := bdy f126) (by kernel_rfl) (by kernel_rfl) <|
  gO [.whole 0, r0, r0, .canon [0, 1] [0, 1, 5]] (by kernel_rfl) P0 (ws_l1Put_c0 _ _ H)
/-!   loop example/g00886/spec l1Cur  edges -/
def Rs_l1Cur_edges (r : (List Int) × Gs_l1Cur) : List D := [ow 1 I r.1]
def Ns_l1Cur_edges (r : (List Int) × Gs_l1Cur) : List Root := [⟨false, true, 3, 1, [.agg [sl 1 (D.int .u8) r.2.code, I r.2.at_, .int .u64 r.2.seed]]⟩]
noncomputable def Ks_l1Cur_edges : Ss_l1Cur_edges → List Item
  | .h1 .. => nav 300 3 [] [.code (bdy f179)]
def Zs_l1Cur_edges : Ss_l1Cur_edges → St
  | .h1 k0 b1 b2 l3 => ⟨sts 33 [(0, .ptr 0 3 0 0), (3, .ptr 1 5 0 0), (5, .ref 2 1 none), (6, I k0)], [some ⟨false, true, 3, 1, [.agg [sl 1 (D.int .u8) b1.code, I b1.at_, .int .u64 b1.seed]]⟩, some ⟨false, true, 5, 1, [.agg [I b2.Width, I b2.Height, sl 1 I b2.Terrain, sl 1 I b2.Rivers, sl 1 I b2.Roads]]⟩, some ⟨false, false, 1, l3.length, List.map I l3⟩]⟩
abbrev Qs_l1Cur_edges := Nx X 179 1 Ks_l1Cur_edges Zs_l1Cur_edges Rs_l1Cur_edges Ns_l1Cur_edges
theorem ns_l1Cur_edges : ∀ s o, Bs_l1Cur_edges s = some o → Qs_l1Cur_edges (Ks_l1Cur_edges s) (Zs_l1Cur_edges s) o
  | .h1 k0 b1 b2 l3, o, H =>
    eIf H (fun h1 H =>
      eBind H fun r2 hr2 H =>
      eBind H fun r3 hr3 H =>
      eBind H fun r4 hr4 H =>
      eBind H fun r5 hr5 H =>
      gN [rg [hT 1], rg [hC 2 true [] (RI r2) [], hC 3 true [0] (Rs_l1Cur_pick r3) (Ns_l1Cur_pick r3), hC 5 true [0] (Rs_l1Cur_pick r4) (Ns_l1Cur_pick r4)]] (by kernel_rfl) (P2 ((decide (k0 > 0)) = true) (decide_eq_true h1) <| P1 (cs_mSize hr2) <| PI (1 : Nat) <| P1 (cs_l1Cur_pick hr3) <| PI (1 : Nat) <| P1 (cs_l1Cur_pick hr4) <| P0) <|
      eIf H (fun h6 H =>
        eBind H fun r7 hr7 H =>
        eBind H fun r8 hr8 H =>
        eN H fun r hn => gO [rg [hC 3 true [] (RI r5) [], hT 4], rg [hC 4 true [] (RI r7) [], hC 5 true [2] (Rs_l1Put_c0 r8) (Ns_l1Put_c0 r8)], r0, .canon [0, 1, 3] [0, 3, 5, 6]] (by kernel_rfl) (P1 (cs_mNext hr5) <| P2 ((decide (r5 ≥ 0)) = true) (decide_eq_true h6) <| P1 (cs_mEdge hr7) <| P1 (cs_l1Put_c0 hr8) <| P0) hn)
      (fun h6 H =>
        eN H fun r hn => gO [rg [hC 3 true [] (RI r5) [], hF 4], r0, .canon [0, 1, 2] [0, 3, 5, 6]] (by kernel_rfl) (P1 (cs_mNext hr5) <| P2 ((decide (r5 ≥ 0)) = false) (decide_eq_false h6) <| P0) hn))
    (fun h1 H =>
      eN H <| gE func179 [rg [hF 1], r0] (by kernel_rfl) (P2 ((decide (k0 > 0)) = false) (decide_eq_false h1) <| P0))
theorem ws_l1Cur_edges : ∀ s r, loop Bs_l1Cur_edges s = some r → Wc X 179 1 (Ks_l1Cur_edges s) (Zs_l1Cur_edges s) (Rs_l1Cur_edges r) (Ns_l1Cur_edges r) := Nx.all ns_l1Cur_edges
theorem cs_l1Cur_edges {a0 : Gs_l1Cur} {a1 : Gi_Map} {r : (List Int) × Gs_l1Cur} (H : Ds_l1Cur_edges a0 a1 = some r) : Ct X.P X.gl 179 [.ptr 0 3 0 0, .agg [I a1.Width, I a1.Height, sl 1 I a1.Terrain, sl 1 I a1.Rivers, sl 1 I a1.Roads]] [⟨false, true, 3, 1, [.agg [sl 1 (D.int .u8) a0.code, I a0.at_, .int .u64 a0.seed]]⟩] (Rs_l1Cur_edges r) (Ns_l1Cur_edges r) :=
  Ct.of func179 (c := bdy f179) (by kernel_rfl) (by kernel_rfl) <|
  eBind H fun r1 hr1 H =>
  gO [r0, r0, rg [hC 1 true [0] (Rs_l1Cur_pick r1) (Ns_l1Cur_pick r1)], .own 5 1, .canon [0, 1, 2] [0, 3, 5, 6]] (by kernel_rfl) (PI (1 : Nat) <| P1 (cs_l1Cur_pick hr1) <| P0) (ws_l1Cur_edges _ _ H)
/-! loop example/g00886/spec mSize -/
theorem cs_mSize_u0_2_3_4 {a0 : Gi_Map} {r : Int} (H : Ds_mSize a0 = some r) : Ct X.P X.gl 98 [.agg [I a0.Width, I a0.Height, .hid, .hid, .hid]] [] (RI r) [] :=
  Ct.of func98 (c := bdy f98) (by kernel_rfl) (by kernel_rfl) <|
  eW RI (fun _ => []) H <| gE func98 [r0, r0] (by kernel_rfl) P0
/-! loop example/g00886/spec mHex -/
def Rs_mHex_u0_2_3_4 (r : Gi_Hex) : List D := [.agg [I r.Q, I r.R]]
theorem cs_mHex_u0_2_3_4 {a0 : Gi_Map} {a1 : Int} {r : Gi_Hex} (H : Ds_mHex a0 a1 = some r) : Ct X.P X.gl 118 [.agg [I a0.Width, I a0.Height, .hid, .hid, .hid], I a1] [] (Rs_mHex_u0_2_3_4 r) [] :=
  Ct.of func118 (c := bdy f118) (by kernel_rfl) (by kernel_rfl) <|
  eCk H fun h1 H =>
  eCk H fun h2 H =>
  eW Rs_mHex_u0_2_3_4 (fun _ => []) H <| gE func118 [r0, r0] (by kernel_rfl) (P2 (¬ (a0.Width : Int) = 0) h1 <| P2 (¬ (a0.Width : Int) = 0) h2 <| P0)
/-! loop example/g00886/spec mIndex -/
theorem cs_mIndex_u0_2_3_4 {a0 : Gi_Map} {a1 : Gi_Hex} {r : Int} (H : Ds_mIndex a0 a1 = some r) : Ct X.P X.gl 116 [.agg [I a0.Width, I a0.Height, .hid, .hid, .hid], .agg [I a1.Q, I a1.R]] [] (RI r) [] :=
  Ct.of func116 (c := bdy f116) (by kernel_rfl) (by kernel_rfl) <|
  eBind H fun r1 hr1 H =>
  gS [r0] (by kernel_rfl) P0 <|
  eIf H (fun h2 H =>
    eBind H fun r3 hr3 H =>
    eIf H (fun h4 H =>
      eW RI (fun _ => []) H <| gE func116 [rg [{ i := 5, call := some { cl := true, auto := true, ins := [], res := (RB r1), G' := [] }, dec := some true }, { i := 13, call := some { cl := true, auto := true, ins := [], res := (RB r3), G' := [] }, dec := some true }], r0] (by kernel_rfl) (P1 (cs_l1In hr1) <| P2 (r1 = true) (h2) <| P1 (cs_l1In hr3) <| P2 (r3 = true) (h4) <| P0))
    (fun h4 H =>
      eW RI (fun _ => []) H <| gE func116 [rg [{ i := 5, call := some { cl := true, auto := true, ins := [], res := (RB r1), G' := [] }, dec := some true }, { i := 13, call := some { cl := true, auto := true, ins := [], res := (RB r3), G' := [] }, dec := some false }], r0] (by kernel_rfl) (P1 (cs_l1In hr1) <| P2 (r1 = true) (h2) <| P1 (cs_l1In hr3) <| P2 (r3 = false) (eqF h4) <| P0)))
  (fun h2 H =>
    eW RI (fun _ => []) H <| gE func116 [rg [{ i := 5, call := some { cl := true, auto := true, ins := [], res := (RB r1), G' := [] }, dec := some false }], r0] (by kernel_rfl) (P1 (cs_l1In hr1) <| P2 (r1 = false) (eqF h2) <| P0))
/-! loop example/g00886/spec mNext -/
theorem cs_mNext_u0_2_3_4 {a0 : Gi_Map} {a1 : Int} {a2 : Int} {r : Int} (H : Ds_mNext a0 a1 a2 = some r) : Ct X.P X.gl 80 [.agg [I a0.Width, I a0.Height, .hid, .hid, .hid], I a1, I a2] [] (RI r) [] :=
  Ct.of func80 (c := bdy f80) (by kernel_rfl) (by kernel_rfl) <|
  eBind H fun r1 hr1 H =>
  eBind H fun r2 hr2 H =>
  eBind H fun r3 hr3 H =>
  eW RI (fun _ => []) H <| gE func80 [r0, rg [{ i := 3, call := some { cl := true, ins := [], args := [.agg [I a0.Width, I a0.Height, .hid, .hid, .hid], I a1], res := Rs_mHex_u0_2_3_4 r1, G' := [] } }, hC 5 true [] (Rs_hStep r2) [], { i := 6, call := some { cl := true, ins := [], args := [.agg [I a0.Width, I a0.Height, .hid, .hid, .hid], .agg [I r2.Q, I r2.R]], res := RI r3, G' := [] } }]] (by kernel_rfl) (PI (a0.Width : Int) <| PI (a0.Height : Int) <| PI (a1 : Int) <| P1 (cs_mHex_u0_2_3_4 hr1) <| P1 (cs_hStep hr2) <| PI (a0.Width : Int) <| PI (a0.Height : Int) <| PI (r2.Q : Int) <| PI (r2.R : Int) <| P1 (cs_mIndex_u0_2_3_4 hr3) <| P0)
/-! loop example/g00886/spec mEdge -/
theorem cs_mEdge_u0_2_3_4 {a0 : Gi_Map} {a1 : Int} {a2 : Int} {r : Int} (H : Ds_mEdge a0 a1 a2 = some r) : Ct X.P X.gl 158 [.agg [I a0.Width, I a0.Height, .hid, .hid, .hid], I a1, I a2] [] (RI r) [] :=
  Ct.of func158 (c := bdy f158) (by kernel_rfl) (by kernel_rfl) <|
  gS [r0] (by kernel_rfl) P0 <|
  eIf H (fun h1 H =>
    eW RI (fun _ => []) H <| gE func158 [rg [hT 1], r0] (by kernel_rfl) (P2 ((decide (a2 < 3)) = true) (decide_eq_true h1) <| P0))
  (fun h1 H =>
    eBind H fun r2 hr2 H =>
    eW RI (fun _ => []) H <| gE func158 [rg [hF 1], rg [{ i := 3, call := some { cl := true, ins := [], args := [.agg [I a0.Width, I a0.Height, .hid, .hid, .hid], I a1, I a2], res := RI r2, G' := [] } }]] (by kernel_rfl) (P2 ((decide (a2 < 3)) = false) (decide_eq_false h1) <| PI (a0.Width : Int) <| PI (a0.Height : Int) <| PI (a1 : Int) <| PI (a2 : Int) <| P1 (cs_mNext_u0_2_3_4 hr2) <| P0))
/-!   loop example/g00886/spec l1Cur  edges -/
def Rs_l1Cur_edges_u1_2_3_4 (r : (List Int) × Gs_l1Cur) : List D := [ow 1 I r.1]
def Ns_l1Cur_edges_u1_2_3_4 (r : (List Int) × Gs_l1Cur) : List Root := [⟨false, true, 3, 1, [.agg [sl 1 (D.int .u8) r.2.code, I r.2.at_, .int .u64 r.2.seed]]⟩]
noncomputable def Ks_l1Cur_edges_u1_2_3_4 : Ss_l1Cur_edges → List Item
  | .h1 .. => nav 300 3 [] [.code (bdy f179)]
def Zs_l1Cur_edges_u1_2_3_4 : Ss_l1Cur_edges → St
  | .h1 k0 b1 b2 l3 => ⟨sts 33 [(0, .ptr 0 3 0 0), (3, .ptr 1 5 0 0), (5, .ref 2 1 none), (6, I k0)], [some ⟨false, true, 3, 1, [.agg [sl 1 (D.int .u8) b1.code, I b1.at_, .int .u64 b1.seed]]⟩, some ⟨false, true, 5, 1, [.agg [I b2.Width, I b2.Height, .hid, .hid, .hid]]⟩, some ⟨false, false, 1, l3.length, List.map I l3⟩]⟩
abbrev Qs_l1Cur_edges_u1_2_3_4 := Nx X 179 1 Ks_l1Cur_edges_u1_2_3_4 Zs_l1Cur_edges_u1_2_3_4 Rs_l1Cur_edges_u1_2_3_4 Ns_l1Cur_edges_u1_2_3_4
theorem ns_l1Cur_edges_u1_2_3_4 : ∀ s o, Bs_l1Cur_edges s = some o → Qs_l1Cur_edges_u1_2_3_4 (Ks_l1Cur_edges_u1_2_3_4 s) (Zs_l1Cur_edges_u1_2_3_4 s) o
  | .h1 k0 b1 b2 l3, o, H =>
    eIf H (fun h1 H =>
      eBind H fun r2 hr2 H =>
      eBind H fun r3 hr3 H =>
      eBind H fun r4 hr4 H =>
      eBind H fun r5 hr5 H =>
      gN [rg [hT 1], rg [{ i := 2, call := some { cl := true, ins := [], args := [.agg [I b2.Width, I b2.Height, .hid, .hid, .hid]], res := RI r2, G' := [] } }, hC 3 true [0] (Rs_l1Cur_pick r3) (Ns_l1Cur_pick r3), hC 5 true [0] (Rs_l1Cur_pick r4) (Ns_l1Cur_pick r4)]] (by kernel_rfl) (P2 ((decide (k0 > 0)) = true) (decide_eq_true h1) <| PI (b2.Width : Int) <| PI (b2.Height : Int) <| P1 (cs_mSize_u0_2_3_4 hr2) <| PI (1 : Nat) <| P1 (cs_l1Cur_pick hr3) <| PI (1 : Nat) <| P1 (cs_l1Cur_pick hr4) <| P0) <|
      eIf H (fun h6 H =>
        eBind H fun r7 hr7 H =>
        eBind H fun r8 hr8 H =>
        eN H fun r hn => gO [rg [{ i := 3, call := some { cl := true, ins := [], args := [.agg [I b2.Width, I b2.Height, .hid, .hid, .hid], I r3.1, I r4.1], res := RI r5, G' := [] } }, hT 4], rg [{ i := 4, call := some { cl := true, ins := [], args := [.agg [I b2.Width, I b2.Height, .hid, .hid, .hid], I r3.1, I r4.1], res := RI r7, G' := [] } }, hC 5 true [2] (Rs_l1Put_c0 r8) (Ns_l1Put_c0 r8)], r0, .canon [0, 1, 3] [0, 3, 5, 6]] (by kernel_rfl) (PI (b2.Width : Int) <| PI (b2.Height : Int) <| PI (r3.1 : Int) <| PI (r4.1 : Int) <| P1 (cs_mNext_u0_2_3_4 hr5) <| P2 ((decide (r5 ≥ 0)) = true) (decide_eq_true h6) <| PI (b2.Width : Int) <| PI (b2.Height : Int) <| PI (r3.1 : Int) <| PI (r4.1 : Int) <| P1 (cs_mEdge_u0_2_3_4 hr7) <| P1 (cs_l1Put_c0 hr8) <| P0) hn)
      (fun h6 H =>
        eN H fun r hn => gO [rg [{ i := 3, call := some { cl := true, ins := [], args := [.agg [I b2.Width, I b2.Height, .hid, .hid, .hid], I r3.1, I r4.1], res := RI r5, G' := [] } }, hF 4], r0, .canon [0, 1, 2] [0, 3, 5, 6]] (by kernel_rfl) (PI (b2.Width : Int) <| PI (b2.Height : Int) <| PI (r3.1 : Int) <| PI (r4.1 : Int) <| P1 (cs_mNext_u0_2_3_4 hr5) <| P2 ((decide (r5 ≥ 0)) = false) (decide_eq_false h6) <| P0) hn))
    (fun h1 H =>
      eN H <| gE func179 [rg [hF 1], r0] (by kernel_rfl) (P2 ((decide (k0 > 0)) = false) (decide_eq_false h1) <| P0))
theorem ws_l1Cur_edges_u1_2_3_4 : ∀ s r, loop Bs_l1Cur_edges s = some r → Wc X 179 1 (Ks_l1Cur_edges_u1_2_3_4 s) (Zs_l1Cur_edges_u1_2_3_4 s) (Rs_l1Cur_edges_u1_2_3_4 r) (Ns_l1Cur_edges_u1_2_3_4 r) := Nx.all ns_l1Cur_edges_u1_2_3_4
theorem cs_l1Cur_edges_u1_2_3_4 {a0 : Gs_l1Cur} {a1 : Gi_Map} {r : (List Int) × Gs_l1Cur} (H : Ds_l1Cur_edges a0 a1 = some r) : Ct X.P X.gl 179 [.ptr 0 3 0 0, .agg [I a1.Width, I a1.Height, .hid, .hid, .hid]] [⟨false, true, 3, 1, [.agg [sl 1 (D.int .u8) a0.code, I a0.at_, .int .u64 a0.seed]]⟩] (Rs_l1Cur_edges_u1_2_3_4 r) (Ns_l1Cur_edges_u1_2_3_4 r) :=
  Ct.of func179 (c := bdy f179) (by kernel_rfl) (by kernel_rfl) <|
  eBind H fun r1 hr1 H =>
  gO [r0, r0, rg [hC 1 true [0] (Rs_l1Cur_pick r1) (Ns_l1Cur_pick r1)], .own 5 1, .canon [0, 1, 2] [0, 3, 5, 6]] (by kernel_rfl) (PI (1 : Nat) <| P1 (cs_l1Cur_pick hr1) <| P0) (ws_l1Cur_edges_u1_2_3_4 _ _ H)
/-!   loop example/g00886/spec l1Cur  mapOf -/
def Rs_l1Cur_mapOf (r : Gi_Map × Gs_l1Cur) : List D := [.agg [I r.1.Width, I r.1.Height, ow 1 I r.1.Terrain, ow 1 I r.1.Rivers, ow 1 I r.1.Roads]]
def Ns_l1Cur_mapOf (r : Gi_Map × Gs_l1Cur) : List Root := [⟨false, true, 3, 1, [.agg [sl 1 (D.int .u8) r.2.code, I r.2.at_, .int .u64 r.2.seed]]⟩]
noncomputable def Ks_l1Cur_mapOf : Ss_l1Cur_mapOf → List Item
  | .h1 .. => nav 300 3 [] [.code (bdy f160)]
  | .h2 .. => nav 300 9 [true, true] [.code (bdy f160)]
def Zs_l1Cur_mapOf : Ss_l1Cur_mapOf → St
  | .h1 terrains0 i1 b2 b3 b4 b5 b6 => ⟨sts 41 [(0, .ptr 0 3 0 0), (1, I terrains0), (4, .ptr 1 5 0 0), (5, .ptr 2 5 0 0), (6, I i1)], [some ⟨false, true, 3, 1, [.agg [sl 1 (D.int .u8) b2.code, I b2.at_, .int .u64 b2.seed]]⟩, some ⟨false, true, 5, 1, [.agg [I b3, I b4, .nil, .nil, .nil]]⟩, some ⟨false, true, 5, 1, [.agg [I b5, I b6, .nil, .nil, .nil]]⟩]⟩
  | .h2 terrains0 i1 b2 b3 b4 b5 b6 l7 => ⟨sts 41 [(0, .ptr 0 3 0 0), (1, I terrains0), (4, .ptr 1 5 0 0), (5, .ptr 2 5 0 0), (6, I i1)], [some ⟨false, true, 3, 1, [.agg [sl 1 (D.int .u8) b2.code, I b2.at_, .int .u64 b2.seed]]⟩, some ⟨false, true, 5, 1, [.agg [I b3, I b4, .nil, .nil, .nil]]⟩, some ⟨false, true, 5, 1, [.agg [I b5, I b6, .ref 3 1 none, .nil, .nil]]⟩, some ⟨false, false, 1, l7.length, List.map I l7⟩]⟩
abbrev Qs_l1Cur_mapOf := Nx X 160 1 Ks_l1Cur_mapOf Zs_l1Cur_mapOf Rs_l1Cur_mapOf Ns_l1Cur_mapOf
theorem ns_l1Cur_mapOf : ∀ s o, Bs_l1Cur_mapOf s = some o → Qs_l1Cur_mapOf (Ks_l1Cur_mapOf s) (Zs_l1Cur_mapOf s) o
  | .h1 terrains0 i1 b2 b3 b4 b5 b6, o, H =>
    have H := (Bs_l1Cur_mapOf.eq_1 ..).symm.trans H
    eBind H fun r1 hr1 H =>
    eIf H (fun h2 H =>
      eBind H fun r3 hr3 H =>
      gN [rg [{ i := 2, call := some { cl := true, ins := [], args := [.agg [I b5, I b6, sl 1 I [], sl 1 I [], sl 1 I []]], res := RI r1, G' := [] } }, hT 3], r0] (by kernel_rfl) (PI (b5 : Int) <| PI (b6 : Int) <| PI (0 : Nat) <| PI ([] : List D) <| PI (0 : Nat) <| PI ([] : List D) <| PI (0 : Nat) <| PI ([] : List D) <| P1 (cs_mSize hr1) <| P2 ((decide (i1 < r1)) = true) (decide_eq_true h2) <| P0) <|
      eIf H (fun h4 H =>
        eBind H fun r5 hr5 H =>
        eCk H fun h6 H =>
        eN H fun r hn => gO [rg [{ i := 1, call := some { cl := true, auto := true, ins := [0], res := (Rs_l1Cur_one r3), G' := (Ns_l1Cur_one r3) }, dec := some true }], rg [hC 2 true [0] (Rs_l1Cur_pick r5) (Ns_l1Cur_pick r5)], rg [hA 4 ([r5.1].length) (List.map I [r5.1])], r0, .canon [0, 1, 2, 4] [0, 1, 4, 5, 6]] (by kernel_rfl) (PI (1 : Nat) <| P1 (cs_l1Cur_one hr3) <| P2 (r3.1 = true) (h4) <| PI (1 : Nat) <| P1 (cs_l1Cur_pick hr5) <| P2 ([r5.1].length = 0 + [r5.1].length) (by simp <;> omega) <| P2 ((0 + [r5.1].length) * 8 ≤ 70368744177664) (by have := h6; simp at this ⊢ <;> omega) <| P2 (([] : List D) ++ List.map I [r5.1] = List.map I [r5.1]) (by simp) <| P0) hn)
      (fun h4 H =>
        eCk H fun h5 H =>
        eN H fun r hn => gO [rg [{ i := 1, call := some { cl := true, auto := true, ins := [0], res := (Rs_l1Cur_one r3), G' := (Ns_l1Cur_one r3) }, dec := some false }], rg [hA 4 ([0].length) (List.map I [0])], r0, .canon [0, 1, 2, 4] [0, 1, 4, 5, 6]] (by kernel_rfl) (PI (1 : Nat) <| P1 (cs_l1Cur_one hr3) <| P2 (r3.1 = false) (eqF h4) <| P2 ([0].length = 0 + [0].length) (by simp <;> omega) <| P2 ((0 + [0].length) * 8 ≤ 70368744177664) (by have := h5; simp at this ⊢ <;> omega) <| P2 (([] : List D) ++ List.map I [0] = List.map I [0]) (by simp) <| P0) hn))
    (fun h2 H =>
      eBind H fun r3 hr3 H =>
      eBind H fun r4 hr4 H =>
      eN H <| gE func160 [rg [{ i := 2, call := some { cl := true, ins := [], args := [.agg [I b5, I b6, sl 1 I [], sl 1 I [], sl 1 I []]], res := RI r1, G' := [] } }, hF 3], rg [{ i := 2, call := some { cl := true, ins := [0], args := [.ptr 0 3 0 0, .agg [I b5, I b6, sl 1 I [], sl 1 I [], sl 1 I []]], res := Rs_l1Cur_edges r3, G' := Ns_l1Cur_edges r3 } }], rg [{ i := 2, call := some { cl := true, ins := [0], args := [.ptr 0 3 0 0, .agg [I b5, I b6, .hid, .hid, .hid]], res := Rs_l1Cur_edges_u1_2_3_4 r4, G' := Ns_l1Cur_edges_u1_2_3_4 r4 } }], r0] (by kernel_rfl) (PI (b5 : Int) <| PI (b6 : Int) <| PI (0 : Nat) <| PI ([] : List D) <| PI (0 : Nat) <| PI ([] : List D) <| PI (0 : Nat) <| PI ([] : List D) <| P1 (cs_mSize hr1) <| P2 ((decide (i1 < r1)) = false) (decide_eq_false h2) <| PI (0 : Nat) <| PI (0 : Nat) <| PI (b5 : Int) <| PI (b6 : Int) <| PI (0 : Nat) <| PI ([] : List D) <| PI (0 : Nat) <| PI ([] : List D) <| PI (0 : Nat) <| PI ([] : List D) <| PI (1 : Nat) <| P1 (cs_l1Cur_edges hr3) <| PI (0 : Nat) <| PI (0 : Nat) <| PI (b5 : Int) <| PI (b6 : Int) <| PI (1 : Nat) <| P1 (cs_l1Cur_edges_u1_2_3_4 hr4) <| P0))
  | .h2 terrains0 i1 b2 b3 b4 b5 b6 l7, o, H =>
    have H := (Bs_l1Cur_mapOf.eq_2 ..).symm.trans H
    eBind H fun r1 hr1 H =>
    eIf H (fun h2 H =>
      eBind H fun r3 hr3 H =>
      gN [rg [{ i := 2, call := some { cl := false, ins := [], args := [.agg [I b5, I b6, sl 1 I l7, sl 1 I [], sl 1 I []]], res := RI r1, G' := [] } }, hT 3], r0] (by kernel_rfl) (PI (b5 : Int) <| PI (b6 : Int) <| PL I l7 <| PI (0 : Nat) <| PI ([] : List D) <| PI (0 : Nat) <| PI ([] : List D) <| P1 (cs_mSize hr1) <| P2 ((decide (i1 < r1)) = true) (decide_eq_true h2) <| P0) <|
      eIf H (fun h4 H =>
        eBind H fun r5 hr5 H =>
        eCk H fun h6 H =>
        eN H fun r hn => gO [rg [{ i := 1, call := some { cl := true, auto := true, ins := [0], res := (Rs_l1Cur_one r3), G' := (Ns_l1Cur_one r3) }, dec := some true }], rg [hC 2 true [0] (Rs_l1Cur_pick r5) (Ns_l1Cur_pick r5)], rg [hA 4 ((l7 ++ [r5.1]).length) (List.map I (l7 ++ [r5.1]))], r0, .canon [0, 1, 2, 5] [0, 1, 4, 5, 6]] (by kernel_rfl) (PI (1 : Nat) <| P1 (cs_l1Cur_one hr3) <| P2 (r3.1 = true) (h4) <| PI (1 : Nat) <| P1 (cs_l1Cur_pick hr5) <| P1 (apL l7 [r5.1]) <| P1 (apB h6) <| P1 (apM I l7 [r5.1]) <| P0) hn)
      (fun h4 H =>
        eCk H fun h5 H =>
        eN H fun r hn => gO [rg [{ i := 1, call := some { cl := true, auto := true, ins := [0], res := (Rs_l1Cur_one r3), G' := (Ns_l1Cur_one r3) }, dec := some false }], rg [hA 4 ((l7 ++ [0]).length) (List.map I (l7 ++ [0]))], r0, .canon [0, 1, 2, 5] [0, 1, 4, 5, 6]] (by kernel_rfl) (PI (1 : Nat) <| P1 (cs_l1Cur_one hr3) <| P2 (r3.1 = false) (eqF h4) <| P1 (apL l7 [0]) <| P1 (apB h5) <| P1 (apM I l7 [0]) <| P0) hn))
    (fun h2 H =>
      eBind H fun r3 hr3 H =>
      eBind H fun r4 hr4 H =>
      eN H <| gE func160 [rg [{ i := 2, call := some { cl := false, ins := [], args := [.agg [I b5, I b6, sl 1 I l7, sl 1 I [], sl 1 I []]], res := RI r1, G' := [] } }, hF 3], rg [{ i := 2, call := some { cl := true, ins := [0], args := [.ptr 0 3 0 0, .agg [I b5, I b6, .hid, .hid, .hid]], res := Rs_l1Cur_edges_u1_2_3_4 r3, G' := Ns_l1Cur_edges_u1_2_3_4 r3 } }], rg [{ i := 2, call := some { cl := true, ins := [0], args := [.ptr 0 3 0 0, .agg [I b5, I b6, .hid, .hid, .hid]], res := Rs_l1Cur_edges_u1_2_3_4 r4, G' := Ns_l1Cur_edges_u1_2_3_4 r4 } }], r0] (by kernel_rfl) (PI (b5 : Int) <| PI (b6 : Int) <| PL I l7 <| PI (0 : Nat) <| PI ([] : List D) <| PI (0 : Nat) <| PI ([] : List D) <| P1 (cs_mSize hr1) <| P2 ((decide (i1 < r1)) = false) (decide_eq_false h2) <| PI (0 : Nat) <| PI (0 : Nat) <| PI (b5 : Int) <| PI (b6 : Int) <| PI (1 : Nat) <| P1 (cs_l1Cur_edges_u1_2_3_4 hr3) <| PI (0 : Nat) <| PI (0 : Nat) <| PI (b5 : Int) <| PI (b6 : Int) <| PI (1 : Nat) <| P1 (cs_l1Cur_edges_u1_2_3_4 hr4) <| P0))
theorem ws_l1Cur_mapOf : ∀ s r, loop Bs_l1Cur_mapOf s = some r → Wc X 160 1 (Ks_l1Cur_mapOf s) (Zs_l1Cur_mapOf s) (Rs_l1Cur_mapOf r) (Ns_l1Cur_mapOf r) := Nx.all ns_l1Cur_mapOf
theorem cs_l1Cur_mapOf {a0 : Gs_l1Cur} {a1 : Int} {r : Gi_Map × Gs_l1Cur} (H : Ds_l1Cur_mapOf a0 a1 = some r) : Ct X.P X.gl 160 [.ptr 0 3 0 0, I a1] [⟨false, true, 3, 1, [.agg [sl 1 (D.int .u8) a0.code, I a0.at_, .int .u64 a0.seed]]⟩] (Rs_l1Cur_mapOf r) (Ns_l1Cur_mapOf r) :=
  Ct.of func160 (c := bdy f160) (by kernel_rfl) (by kernel_rfl) <|
  eBind H fun r1 hr1 H =>
  eBind H fun r2 hr2 H =>
  gO [r0, rg [hC 1 true [0] (Rs_l1Cur_pick r1) (Ns_l1Cur_pick r1), hC 4 true [0] (Rs_l1Cur_pick r2) (Ns_l1Cur_pick r2)], r0, .canon [0, 1, 2] [0, 1, 4, 5, 6]] (by kernel_rfl) (PI (1 : Nat) <| P1 (cs_l1Cur_pick hr1) <| PI (1 : Nat) <| P1 (cs_l1Cur_pick hr2) <| P0) (ws_l1Cur_mapOf _ _ H)
/-!   loop example/g00886/spec l1Cur  board -/
def Rs_l1Cur_board (r : Gi_Board × Gs_l1Cur) : List D := [.agg [ow 5 goi_Terrain r.1.Rules.Terrains, ow 6 gi_Kind r.1.Rules.Kinds, I r.1.Rules.Stack, I r.1.Rules.River, I r.1.Rules.Road, I r.1.Rules.Supply, I r.1.Rules.Turns, I r.1.Map.Width, I r.1.Map.Height, ow 1 I r.1.Map.Terrain, ow 1 I r.1.Map.Rivers, ow 1 I r.1.Map.Roads]]
def Ns_l1Cur_board (r : Gi_Board × Gs_l1Cur) : List Root := [⟨false, true, 3, 1, [.agg [sl 1 (D.int .u8) r.2.code, I r.2.at_, .int .u64 r.2.seed]]⟩]
theorem cs_l1Cur_board {a0 : Gs_l1Cur} {r : Gi_Board × Gs_l1Cur} (H : Ds_l1Cur_board a0 = some r) : Ct X.P X.gl 139 [.ptr 0 3 0 0] [⟨false, true, 3, 1, [.agg [sl 1 (D.int .u8) a0.code, I a0.at_, .int .u64 a0.seed]]⟩] (Rs_l1Cur_board r) (Ns_l1Cur_board r) :=
  Ct.of func139 (c := bdy f139) (by kernel_rfl) (by kernel_rfl) <|
  eBind H fun r1 hr1 H =>
  eBind H fun r2 hr2 H =>
  eW Rs_l1Cur_board Ns_l1Cur_board H <| gE func139 [r0, rg [hC 1 true [0] (Rs_l1Cur_rules r1) (Ns_l1Cur_rules r1)], rg [hC 5 true [0] (Rs_l1Cur_mapOf r2) (Ns_l1Cur_mapOf r2)]] (by kernel_rfl) (PI (1 : Nat) <| P1 (cs_l1Cur_rules hr1) <| PI (1 : Nat) <| P1 (cs_l1Cur_mapOf hr2) <| P0)
/-!   loop example/g00886/spec l1Cur  among -/
def Rs_l1Cur_among (r : Int × Gs_l1Cur) : List D := [I r.1]
def Ns_l1Cur_among (r : Int × Gs_l1Cur) : List Root := [⟨false, true, 3, 1, [.agg [sl 1 (D.int .u8) r.2.code, I r.2.at_, .int .u64 r.2.seed]]⟩]
theorem cs_l1Cur_among {a0 : Gs_l1Cur} {a1 : (List Int)} {r : Int × Gs_l1Cur} (H : Ds_l1Cur_among a0 a1 = some r) : Ct X.P X.gl 104 [.ptr 0 3 0 0, sl 1 I a1] [⟨false, true, 3, 1, [.agg [sl 1 (D.int .u8) a0.code, I a0.at_, .int .u64 a0.seed]]⟩] (Rs_l1Cur_among r) (Ns_l1Cur_among r) :=
  Ct.of func104 (c := bdy f104) (by kernel_rfl) (by kernel_rfl) <|
  eBind H fun r1 hr1 H =>
  eCk H fun h2 H =>
  eBind H fun x3 hx3 H =>
  eW Rs_l1Cur_among Ns_l1Cur_among H <| gE func104 [r0, rg [hC 4 true [0] (Rs_l1Cur_pick r1) (Ns_l1Cur_pick r1), hE 6 (I x3)]] (by kernel_rfl) (PI (1 : Nat) <| P1 (cs_l1Cur_pick hr1) <| P1 h2 <| P1 (int_lt_of_at h2 hx3) <| P1 (at_map I hx3) <| P0)
/-!   loop example/g00886/spec l1Cur  of -/
def Rs_l1Cur_of (r : ByteArray × Gs_l1Cur) : List D := [.str r.1]
def Ns_l1Cur_of (r : ByteArray × Gs_l1Cur) : List Root := [⟨false, true, 3, 1, [.agg [sl 1 (D.int .u8) r.2.code, I r.2.at_, .int .u64 r.2.seed]]⟩]
theorem cs_l1Cur_of {a0 : Gs_l1Cur} {a1 : (List ByteArray)} {r : ByteArray × Gs_l1Cur} (H : Ds_l1Cur_of a0 a1 = some r) : Ct X.P X.gl 161 [.ptr 0 3 0 0, sl 1 D.str a1] [⟨false, true, 3, 1, [.agg [sl 1 (D.int .u8) a0.code, I a0.at_, .int .u64 a0.seed]]⟩] (Rs_l1Cur_of r) (Ns_l1Cur_of r) :=
  Ct.of func161 (c := bdy f161) (by kernel_rfl) (by kernel_rfl) <|
  eBind H fun r1 hr1 H =>
  eCk H fun h2 H =>
  eBind H fun x3 hx3 H =>
  eW Rs_l1Cur_of Ns_l1Cur_of H <| gE func161 [r0, rg [hC 4 true [0] (Rs_l1Cur_pick r1) (Ns_l1Cur_pick r1), hE 6 (D.str x3)]] (by kernel_rfl) (PI (1 : Nat) <| P1 (cs_l1Cur_pick hr1) <| P1 h2 <| P1 (int_lt_of_at h2 hx3) <| P1 (at_map D.str hx3) <| P0)
/-!   loop example/g00886/spec l1Cur  anyRules -/
def Rs_l1Cur_anyRules (r : Gi_Rules × Gs_l1Cur) : List D := [.agg [ow 5 goi_Terrain r.1.Terrains, ow 6 gi_Kind r.1.Kinds, I r.1.Stack, I r.1.River, I r.1.Road, I r.1.Supply, I r.1.Turns]]
def Ns_l1Cur_anyRules (r : Gi_Rules × Gs_l1Cur) : List Root := [⟨false, true, 3, 1, [.agg [sl 1 (D.int .u8) r.2.code, I r.2.at_, .int .u64 r.2.seed]]⟩]
theorem cs_l1Cur_anyRules {a0 : Gs_l1Cur} {r : Gi_Rules × Gs_l1Cur} (H : Ds_l1Cur_anyRules a0 = some r) : Ct X.P X.gl 140 [.ptr 0 3 0 0] [⟨false, true, 3, 1, [.agg [sl 1 (D.int .u8) a0.code, I a0.at_, .int .u64 a0.seed]]⟩] (Rs_l1Cur_anyRules r) (Ns_l1Cur_anyRules r) :=
  Ct.of func140 (c := bdy f140) (by kernel_rfl) (by kernel_rfl) <|
  eBind H fun r1 hr1 H =>
  eBind H fun r2 hr2 H =>
  gS [r0, rg [hC 1 true [0] (Rs_l1Cur_rules r1) (Ns_l1Cur_rules r1)], rg [hC 1 true [0] (Rs_l1Cur_pick r2) (Ns_l1Cur_pick r2)]] (by kernel_rfl) (PI (1 : Nat) <| P1 (cs_l1Cur_rules hr1) <| PI (1 : Nat) <| P1 (cs_l1Cur_pick hr2) <| P0) <|
  eIf H (fun h3 H =>
    eBind H fun x4 hx4 H =>
    eBind H fun r5 hr5 H =>
    eBind H fun x6 hx6 H =>
    eW Rs_l1Cur_anyRules Ns_l1Cur_anyRules H <| gE func140 [rg [hT 0], rg [{ i := 4, pre := [.take 2 (Int.toNat 0) 1 1 x4.Cost.length (List.map I x4.Cost) (List.set (List.map goi_Terrain r1.1.Terrains) (Int.toNat 0) (.agg [.str x4.Name, .ref 5 1 none, I x4.Shift, I x4.Height, .bool x4.Blocks]))], el := some (.agg [.str x4.Name, .ref 5 1 none, I x4.Shift, I x4.Height, .bool x4.Blocks]) }, { i := 7, frz := [6], call := some { cl := true, auto := true, ins := [0], res := (Rs_l1Cur_among r5), G' := (Ns_l1Cur_among r5) } }, { i := 9, xs := List.map I (List.set x4.Cost (Int.toNat 0) r5.1), n := (List.set x4.Cost (Int.toNat 0) r5.1).length, post := [.put 2 (Int.toNat 0) 1 5 (List.map goi_Terrain (List.set r1.1.Terrains (Int.toNat 0) (Gi_Terrain.mk x4.Name (List.set x4.Cost (Int.toNat 0) r5.1) x4.Shift x4.Height x4.Blocks))), .own 2 (List.set r1.1.Terrains (Int.toNat 0) (Gi_Terrain.mk x4.Name (List.set x4.Cost (Int.toNat 0) r5.1) x4.Shift x4.Height x4.Blocks)).length], xtra := [2] }], r0] (by kernel_rfl) (P2 (((r2.1 : Int) == 0) = true) (beqT h3) <| P2 ((0 : Int) ≤ 0) (by decide) <| P1 (int_lt_of_at (by decide : (0 : Int) ≤ 0) hx4) <| P2 (getCells (List.map goi_Terrain r1.1.Terrains) (Int.toNat 0) 1 1 = some [ow 1 I x4.Cost]) (getCells_at hx4 rfl) <| P2 (setCells (List.map goi_Terrain r1.1.Terrains) (Int.toNat 0) 1 [.ref 5 1 none] = List.set (List.map goi_Terrain r1.1.Terrains) (Int.toNat 0) (.agg [.str x4.Name, .ref 5 1 none, I x4.Shift, I x4.Height, .bool x4.Blocks])) (setCells_mapD hx4 rfl) <| P1 (at_set (f := goi_Terrain) (.agg [.str x4.Name, .ref 5 1 none, I x4.Shift, I x4.Height, .bool x4.Blocks]) hx4) <| PI (1 : Nat) <| P1 (cs_l1Cur_among hr5) <| P2 ((0 : Int) ≤ 0) (by decide) <| P1 (int_lt_of_at (by decide : (0 : Int) ≤ 0) hx6) <| P1 (lt_of_at hx6) <| P2 (setCells (List.map I x4.Cost) (Int.toNat 0) 0 [I r5.1] = List.map I (List.set x4.Cost (Int.toNat 0) r5.1)) (setCells_map hx6 rfl) <| P1 (setLen x4.Cost (Int.toNat 0) r5.1) <| P2 (getCells (List.set (List.map goi_Terrain r1.1.Terrains) (Int.toNat 0) (.agg [.str x4.Name, .ref 5 1 none, I x4.Shift, I x4.Height, .bool x4.Blocks])) (Int.toNat 0) 1 1 = some [.ref 5 1 none]) (getCells_set hx4 rfl) <| P2 (setCells (List.set (List.map goi_Terrain r1.1.Terrains) (Int.toNat 0) (.agg [.str x4.Name, .ref 5 1 none, I x4.Shift, I x4.Height, .bool x4.Blocks])) (Int.toNat 0) 1 [ow 1 I (List.set x4.Cost (Int.toNat 0) r5.1)] = List.map goi_Terrain (List.set r1.1.Terrains (Int.toNat 0) (Gi_Terrain.mk x4.Name (List.set x4.Cost (Int.toNat 0) r5.1) x4.Shift x4.Height x4.Blocks))) (setCells_set hx4 rfl) <| P1 (allOw_127 (List.set r1.1.Terrains (Int.toNat 0) (Gi_Terrain.mk x4.Name (List.set x4.Cost (Int.toNat 0) r5.1) x4.Shift x4.Height x4.Blocks))) <| P1 (setLen r1.1.Terrains (Int.toNat 0) (Gi_Terrain.mk x4.Name (List.set x4.Cost (Int.toNat 0) r5.1) x4.Shift x4.Height x4.Blocks)) <| P0))
  (fun h3 H =>
    gS [rg [hF 0]] (by kernel_rfl) (P2 (((r2.1 : Int) == 0) = false) (beqF h3) <| P0) <|
    eIf H (fun h4 H =>
      eBind H fun r5 hr5 H =>
      eBind H fun x6 hx6 H =>
      eW Rs_l1Cur_anyRules Ns_l1Cur_anyRules H <| gE func140 [rg [hT 0], rg [{ i := 4, frz := [5], call := some { cl := true, auto := true, ins := [0], res := (Rs_l1Cur_of r5), G' := (Ns_l1Cur_of r5) } }, hA 7 ((List.set r1.1.Terrains (Int.toNat 0) (Gi_Terrain.mk r5.1 x6.Cost x6.Shift x6.Height x6.Blocks)).length) (List.map goi_Terrain (List.set r1.1.Terrains (Int.toNat 0) (Gi_Terrain.mk r5.1 x6.Cost x6.Shift x6.Height x6.Blocks)))], r0] (by kernel_rfl) (P2 (((r2.1 : Int) == 1) = true) (beqT h4) <| PI (1 : Nat) <| P1 (cs_l1Cur_of hr5) <| P2 ((0 : Int) ≤ 0) (by decide) <| P1 (int_lt_of_at (by decide : (0 : Int) ≤ 0) hx6) <| P1 (lt_of_at hx6) <| P2 (setCells (List.map goi_Terrain r1.1.Terrains) (Int.toNat 0) 0 [.str r5.1] = List.map goi_Terrain (List.set r1.1.Terrains (Int.toNat 0) (Gi_Terrain.mk r5.1 x6.Cost x6.Shift x6.Height x6.Blocks))) (setCells_map hx6 rfl) <| P1 (setLen r1.1.Terrains (Int.toNat 0) (Gi_Terrain.mk r5.1 x6.Cost x6.Shift x6.Height x6.Blocks)) <| P0))
    (fun h4 H =>
      gS [rg [hF 0]] (by kernel_rfl) (P2 (((r2.1 : Int) == 1) = false) (beqF h4) <| P0) <|
      eIf H (fun h5 H =>
        eBind H fun r6 hr6 H =>
        eBind H fun x7 hx7 H =>
        eW Rs_l1Cur_anyRules Ns_l1Cur_anyRules H <| gE func140 [rg [hT 0], rg [{ i := 4, frz := [5], call := some { cl := true, auto := true, ins := [0], res := (Rs_l1Cur_among r6), G' := (Ns_l1Cur_among r6) } }, hA 7 ((List.set r1.1.Kinds (Int.toNat 0) (Gi_Kind.mk x7.Name x7.Strength r6.1 x7.Steps x7.Zone x7.View)).length) (List.map gi_Kind (List.set r1.1.Kinds (Int.toNat 0) (Gi_Kind.mk x7.Name x7.Strength r6.1 x7.Steps x7.Zone x7.View)))], r0] (by kernel_rfl) (P2 (((r2.1 : Int) == 2) = true) (beqT h5) <| PI (1 : Nat) <| P1 (cs_l1Cur_among hr6) <| P2 ((0 : Int) ≤ 0) (by decide) <| P1 (int_lt_of_at (by decide : (0 : Int) ≤ 0) hx7) <| P1 (lt_of_at hx7) <| P2 (setCells (List.map gi_Kind r1.1.Kinds) (Int.toNat 0) 2 [I r6.1] = List.map gi_Kind (List.set r1.1.Kinds (Int.toNat 0) (Gi_Kind.mk x7.Name x7.Strength r6.1 x7.Steps x7.Zone x7.View))) (setCells_map hx7 rfl) <| P1 (setLen r1.1.Kinds (Int.toNat 0) (Gi_Kind.mk x7.Name x7.Strength r6.1 x7.Steps x7.Zone x7.View)) <| P0))
      (fun h5 H =>
        gS [rg [hF 0]] (by kernel_rfl) (P2 (((r2.1 : Int) == 2) = false) (beqF h5) <| P0) <|
        eIf H (fun h6 H =>
          eBind H fun x7 hx7 H =>
          eCk H fun h8 H =>
          eW Rs_l1Cur_anyRules Ns_l1Cur_anyRules H <| gE func140 [rg [hT 0], rg [hE 5 (gi_Kind x7), hA 7 ((r1.1.Kinds ++ [x7]).length) (List.map gi_Kind (r1.1.Kinds ++ [x7]))], r0] (by kernel_rfl) (P2 (((r2.1 : Int) == 3) = true) (beqT h6) <| P2 ((0 : Int) ≤ 0) (by decide) <| P1 (int_lt_of_at (by decide : (0 : Int) ≤ 0) hx7) <| P1 (at_map gi_Kind hx7) <| P1 (apL r1.1.Kinds [x7]) <| P1 (apB h8) <| P1 (apM gi_Kind r1.1.Kinds [x7]) <| P0))
        (fun h6 H =>
          gS [rg [hF 0]] (by kernel_rfl) (P2 (((r2.1 : Int) == 3) = false) (beqF h6) <| P0) <|
          eIf H (fun h7 H =>
            eBind H fun r8 hr8 H =>
            eW Rs_l1Cur_anyRules Ns_l1Cur_anyRules H <| gE func140 [rg [hT 0], rg [{ i := 2, frz := [5], call := some { cl := true, auto := true, ins := [0], res := (Rs_l1Cur_among r8), G' := (Ns_l1Cur_among r8) } }], r0] (by kernel_rfl) (P2 (((r2.1 : Int) == 4) = true) (beqT h7) <| PI (1 : Nat) <| P1 (cs_l1Cur_among hr8) <| P0))
          (fun h7 H =>
            gS [rg [hF 0]] (by kernel_rfl) (P2 (((r2.1 : Int) == 4) = false) (beqF h7) <| P0) <|
            eIf H (fun h8 H =>
              eBind H fun r9 hr9 H =>
              eW Rs_l1Cur_anyRules Ns_l1Cur_anyRules H <| gE func140 [rg [hT 0], rg [{ i := 2, frz := [5], call := some { cl := true, auto := true, ins := [0], res := (Rs_l1Cur_among r9), G' := (Ns_l1Cur_among r9) } }], r0] (by kernel_rfl) (P2 (((r2.1 : Int) == 5) = true) (beqT h8) <| PI (1 : Nat) <| P1 (cs_l1Cur_among hr9) <| P0))
            (fun h8 H =>
              gS [rg [hF 0]] (by kernel_rfl) (P2 (((r2.1 : Int) == 5) = false) (beqF h8) <| P0) <|
              eIf H (fun h9 H =>
                eBind H fun r10 hr10 H =>
                eBind H fun x11 hx11 H =>
                eW Rs_l1Cur_anyRules Ns_l1Cur_anyRules H <| gE func140 [rg [hT 0], rg [{ i := 4, frz := [5], call := some { cl := true, auto := true, ins := [0], res := (Rs_l1Cur_among r10), G' := (Ns_l1Cur_among r10) } }, hA 7 ((List.set r1.1.Terrains (Int.toNat 0) (Gi_Terrain.mk x11.Name x11.Cost r10.1 x11.Height x11.Blocks)).length) (List.map goi_Terrain (List.set r1.1.Terrains (Int.toNat 0) (Gi_Terrain.mk x11.Name x11.Cost r10.1 x11.Height x11.Blocks)))], r0] (by kernel_rfl) (P2 (((r2.1 : Int) == 6) = true) (beqT h9) <| PI (1 : Nat) <| P1 (cs_l1Cur_among hr10) <| P2 ((0 : Int) ≤ 0) (by decide) <| P1 (int_lt_of_at (by decide : (0 : Int) ≤ 0) hx11) <| P1 (lt_of_at hx11) <| P2 (setCells (List.map goi_Terrain r1.1.Terrains) (Int.toNat 0) 2 [I r10.1] = List.map goi_Terrain (List.set r1.1.Terrains (Int.toNat 0) (Gi_Terrain.mk x11.Name x11.Cost r10.1 x11.Height x11.Blocks))) (setCells_map hx11 rfl) <| P1 (setLen r1.1.Terrains (Int.toNat 0) (Gi_Terrain.mk x11.Name x11.Cost r10.1 x11.Height x11.Blocks)) <| P0))
              (fun h9 H =>
                eW Rs_l1Cur_anyRules Ns_l1Cur_anyRules H <| gE func140 [rg [hF 0], r0] (by kernel_rfl) (P2 (((r2.1 : Int) == 6) = false) (beqF h9) <| P0))))))))
/-!   loop example/g00886/spec l1Cur  anyMap -/
def Rs_l1Cur_anyMap (r : Gi_Map × Gs_l1Cur) : List D := [.agg [I r.1.Width, I r.1.Height, ow 1 I r.1.Terrain, ow 1 I r.1.Rivers, ow 1 I r.1.Roads]]
def Ns_l1Cur_anyMap (r : Gi_Map × Gs_l1Cur) : List Root := [⟨false, true, 3, 1, [.agg [sl 1 (D.int .u8) r.2.code, I r.2.at_, .int .u64 r.2.seed]]⟩]
theorem cs_l1Cur_anyMap {a0 : Gs_l1Cur} {r : Gi_Map × Gs_l1Cur} (H : Ds_l1Cur_anyMap a0 = some r) : Ct X.P X.gl 141 [.ptr 0 3 0 0] [⟨false, true, 3, 1, [.agg [sl 1 (D.int .u8) a0.code, I a0.at_, .int .u64 a0.seed]]⟩] (Rs_l1Cur_anyMap r) (Ns_l1Cur_anyMap r) :=
  Ct.of func141 (c := bdy f141) (by kernel_rfl) (by kernel_rfl) <|
  eBind H fun r1 hr1 H =>
  eBind H fun r2 hr2 H =>
  gS [r0, rg [hC 1 true [0] (Rs_l1Cur_mapOf r1) (Ns_l1Cur_mapOf r1)], rg [hC 1 true [0] (Rs_l1Cur_pick r2) (Ns_l1Cur_pick r2)]] (by kernel_rfl) (PI (1 : Nat) <| P1 (cs_l1Cur_mapOf hr1) <| PI (1 : Nat) <| P1 (cs_l1Cur_pick hr2) <| P0) <|
  eIf H (fun h3 H =>
    eBind H fun r4 hr4 H =>
    eW Rs_l1Cur_anyMap Ns_l1Cur_anyMap H <| gE func141 [rg [hT 0], rg [{ i := 5, frz := [8], call := some { cl := true, auto := true, ins := [0], res := (Rs_l1Cur_among r4), G' := (Ns_l1Cur_among r4) } }], r0] (by kernel_rfl) (P2 (((r2.1 : Int) == 0) = true) (beqT h3) <| PI (1 : Nat) <| P1 (cs_l1Cur_among hr4) <| P0))
  (fun h3 H =>
    gS [rg [hF 0]] (by kernel_rfl) (P2 (((r2.1 : Int) == 0) = false) (beqF h3) <| P0) <|
    eIf H (fun h4 H =>
      eBind H fun r5 hr5 H =>
      eBind H fun x6 hx6 H =>
      eW Rs_l1Cur_anyMap Ns_l1Cur_anyMap H <| gE func141 [rg [hT 0], rg [{ i := 4, frz := [8], call := some { cl := true, auto := true, ins := [0], res := (Rs_l1Cur_among r5), G' := (Ns_l1Cur_among r5) } }, hA 6 ((List.set r1.1.Terrain (Int.toNat 0) r5.1).length) (List.map I (List.set r1.1.Terrain (Int.toNat 0) r5.1))], r0] (by kernel_rfl) (P2 (((r2.1 : Int) == 1) = true) (beqT h4) <| PI (1 : Nat) <| P1 (cs_l1Cur_among hr5) <| P2 ((0 : Int) ≤ 0) (by decide) <| P1 (int_lt_of_at (by decide : (0 : Int) ≤ 0) hx6) <| P1 (lt_of_at hx6) <| P2 (setCells (List.map I r1.1.Terrain) (Int.toNat 0) 0 [I r5.1] = List.map I (List.set r1.1.Terrain (Int.toNat 0) r5.1)) (setCells_map hx6 rfl) <| P1 (setLen r1.1.Terrain (Int.toNat 0) r5.1) <| P0))
    (fun h4 H =>
      gS [rg [hF 0]] (by kernel_rfl) (P2 (((r2.1 : Int) == 1) = false) (beqF h4) <| P0) <|
      eIf H (fun h5 H =>
        eBind H fun r6 hr6 H =>
        eBind H fun r7 hr7 H =>
        eBind H fun r8 hr8 H =>
        eCk H fun h9 H =>
        eW Rs_l1Cur_anyMap Ns_l1Cur_anyMap H <| gE func141 [rg [hT 0], rg [hC 4 false [] (RI r6) [], hC 7 false [] (RI r7) [], { i := 11, frz := [8], call := some { cl := true, auto := true, ins := [0], res := (Rs_l1Cur_among r8), G' := (Ns_l1Cur_among r8) } }, hA 13 ((r1.1.Rivers ++ [r8.1]).length) (List.map I (r1.1.Rivers ++ [r8.1]))], r0] (by kernel_rfl) (P2 (((r2.1 : Int) == 2) = true) (beqT h5) <| P1 (cs_mSize hr6) <| P1 (cs_mSize hr7) <| PI (1 : Nat) <| P1 (cs_l1Cur_among hr8) <| P1 (apL r1.1.Rivers [r8.1]) <| P1 (apB h9) <| P1 (apM I r1.1.Rivers [r8.1]) <| P0))
      (fun h5 H =>
        gS [rg [hF 0]] (by kernel_rfl) (P2 (((r2.1 : Int) == 2) = false) (beqF h5) <| P0) <|
        eIf H (fun h6 H =>
          eCk H fun h7 H =>
          eW Rs_l1Cur_anyMap Ns_l1Cur_anyMap H <| gE func141 [rg [hT 0], rg [{ i := 3, keep := true, n := ([2] ++ r1.1.Roads).length, xs := List.map I ([2] ++ r1.1.Roads) }], r0] (by kernel_rfl) (P2 (((r2.1 : Int) == 3) = true) (beqT h6) <| P2 (AllFl (List.map I r1.1.Roads)) (allFl_3 _) <| P1 (apL [2] r1.1.Roads) <| P1 (apB h7) <| P1 (apM I [2] r1.1.Roads) <| P0))
        (fun h6 H =>
          eW Rs_l1Cur_anyMap Ns_l1Cur_anyMap H <| gE func141 [rg [hF 0], r0] (by kernel_rfl) (P2 (((r2.1 : Int) == 3) = false) (beqF h6) <| P0)))))
/-!   loop example/g00886/spec l1Cur  anyBoard -/
def Rs_l1Cur_anyBoard (r : Gi_Board × Gs_l1Cur) : List D := [.agg [ow 5 goi_Terrain r.1.Rules.Terrains, ow 6 gi_Kind r.1.Rules.Kinds, I r.1.Rules.Stack, I r.1.Rules.River, I r.1.Rules.Road, I r.1.Rules.Supply, I r.1.Rules.Turns, I r.1.Map.Width, I r.1.Map.Height, ow 1 I r.1.Map.Terrain, ow 1 I r.1.Map.Rivers, ow 1 I r.1.Map.Roads]]
def Ns_l1Cur_anyBoard (r : Gi_Board × Gs_l1Cur) : List Root := [⟨false, true, 3, 1, [.agg [sl 1 (D.int .u8) r.2.code, I r.2.at_, .int .u64 r.2.seed]]⟩]
theorem cs_l1Cur_anyBoard {a0 : Gs_l1Cur} {r : Gi_Board × Gs_l1Cur} (H : Ds_l1Cur_anyBoard a0 = some r) : Ct X.P X.gl 93 [.ptr 0 3 0 0] [⟨false, true, 3, 1, [.agg [sl 1 (D.int .u8) a0.code, I a0.at_, .int .u64 a0.seed]]⟩] (Rs_l1Cur_anyBoard r) (Ns_l1Cur_anyBoard r) :=
  Ct.of func93 (c := bdy f93) (by kernel_rfl) (by kernel_rfl) <|
  eBind H fun r1 hr1 H =>
  eBind H fun r2 hr2 H =>
  gS [r0, rg [hC 1 true [0] (Rs_l1Cur_board r1) (Ns_l1Cur_board r1)], rg [hC 1 true [0] (Rs_l1Cur_pick r2) (Ns_l1Cur_pick r2)]] (by kernel_rfl) (PI (1 : Nat) <| P1 (cs_l1Cur_board hr1) <| PI (1 : Nat) <| P1 (cs_l1Cur_pick hr2) <| P0) <|
  eIf H (fun h3 H =>
    eBind H fun r4 hr4 H =>
    eW Rs_l1Cur_anyBoard Ns_l1Cur_anyBoard H <| gE func93 [rg [hT 0], rg [hC 1 true [0] (Rs_l1Cur_anyRules r4) (Ns_l1Cur_anyRules r4)], r0] (by kernel_rfl) (P2 (((r2.1 : Int) == 0) = true) (beqT h3) <| PI (1 : Nat) <| P1 (cs_l1Cur_anyRules hr4) <| P0))
  (fun h3 H =>
    gS [rg [hF 0]] (by kernel_rfl) (P2 (((r2.1 : Int) == 0) = false) (beqF h3) <| P0) <|
    eIf H (fun h4 H =>
      eBind H fun r5 hr5 H =>
      eW Rs_l1Cur_anyBoard Ns_l1Cur_anyBoard H <| gE func93 [rg [hT 0], rg [hC 1 true [0] (Rs_l1Cur_anyMap r5) (Ns_l1Cur_anyMap r5)], r0] (by kernel_rfl) (P2 (((r2.1 : Int) == 1) = true) (beqT h4) <| PI (1 : Nat) <| P1 (cs_l1Cur_anyMap hr5) <| P0))
    (fun h4 H =>
      eW Rs_l1Cur_anyBoard Ns_l1Cur_anyBoard H <| gE func93 [rg [hF 0], r0] (by kernel_rfl) (P2 (((r2.1 : Int) == 1) = false) (beqF h4) <| P0)))
/-! loop example/g00886/spec rName -/
noncomputable def Ks_rName : Ss_rName → List Item
  | .h1 .. => nav 300 2 [] [.code (bdy f170)]
def Zs_rName : Ss_rName → St
  | .h1 s0 i1 => ⟨sts 23 [(0, .str s0), (3, I i1)], []⟩
abbrev Qs_rName := Nx X 170 0 Ks_rName Zs_rName RB (fun _ => [])
theorem ns_rName : ∀ s o, Bs_rName s = some o → Qs_rName (Ks_rName s) (Zs_rName s) o
  | .h1 s0 i1, o, H =>
    eIf H (fun h1 H =>
      eCk H fun h2 H =>
      eCk H fun h3 H =>
      gN [rg [hT 3]] (by kernel_rfl) (P2 ((decide (i1 < ((ByteArray.size s0 : Nat) : Int))) = true) (decide_eq_true h1) <| P0) <|
      eIf H (fun h4 H =>
        eN H <| gE func170 [rg [{ i := 2, n := byteAt s0 (Int.toNat i1) }, hT 3], r0] (by kernel_rfl) (P2 ((0 : Int) ≤ i1) h2 <| P2 (i1 < (ByteArray.size s0 : Int)) h3 <| P2 ((s0.data.toList[(Int.toNat i1)]?.map fun b => (b.toNat : Int)) = some ((byteAt s0 (Int.toNat i1) : Nat) : Int)) (byteAt_ok (by omega)) <| P2 ((decide (((byteAt s0 (Int.toNat i1) : Nat) : Int) < 97)) = true) (decide_eq_true h4) <| P0))
      (fun h4 H =>
        eCk H fun h5 H =>
        eCk H fun h6 H =>
        eIf H (fun h7 H =>
          eN H <| gE func170 [rg [{ i := 2, n := byteAt s0 (Int.toNat i1) }, hF 3, { i := 7, n := byteAt s0 (Int.toNat i1) }, hT 8], r0] (by kernel_rfl) (P2 ((0 : Int) ≤ i1) h2 <| P2 (i1 < (ByteArray.size s0 : Int)) h3 <| P2 ((s0.data.toList[(Int.toNat i1)]?.map fun b => (b.toNat : Int)) = some ((byteAt s0 (Int.toNat i1) : Nat) : Int)) (byteAt_ok (by omega)) <| P2 ((decide (((byteAt s0 (Int.toNat i1) : Nat) : Int) < 97)) = false) (decide_eq_false h4) <| P2 ((0 : Int) ≤ i1) h5 <| P2 (i1 < (ByteArray.size s0 : Int)) h6 <| P2 ((s0.data.toList[(Int.toNat i1)]?.map fun b => (b.toNat : Int)) = some ((byteAt s0 (Int.toNat i1) : Nat) : Int)) (byteAt_ok (by omega)) <| P2 ((decide (((byteAt s0 (Int.toNat i1) : Nat) : Int) > 122)) = true) (decide_eq_true h7) <| P0))
        (fun h7 H =>
          eN H fun r hn => gO [rg [{ i := 2, n := byteAt s0 (Int.toNat i1) }, hF 3, { i := 7, n := byteAt s0 (Int.toNat i1) }, hF 8], r0, .canon [] [0, 3]] (by kernel_rfl) (P2 ((0 : Int) ≤ i1) h2 <| P2 (i1 < (ByteArray.size s0 : Int)) h3 <| P2 ((s0.data.toList[(Int.toNat i1)]?.map fun b => (b.toNat : Int)) = some ((byteAt s0 (Int.toNat i1) : Nat) : Int)) (byteAt_ok (by omega)) <| P2 ((decide (((byteAt s0 (Int.toNat i1) : Nat) : Int) < 97)) = false) (decide_eq_false h4) <| P2 ((0 : Int) ≤ i1) h5 <| P2 (i1 < (ByteArray.size s0 : Int)) h6 <| P2 ((s0.data.toList[(Int.toNat i1)]?.map fun b => (b.toNat : Int)) = some ((byteAt s0 (Int.toNat i1) : Nat) : Int)) (byteAt_ok (by omega)) <| P2 ((decide (((byteAt s0 (Int.toNat i1) : Nat) : Int) > 122)) = false) (decide_eq_false h7) <| P0) hn)))
    (fun h1 H =>
      eBind H fun r2 hr2 H =>
      eN H <| gE func170 [rg [hF 3], rg [hC 2 true [] (RB r2) []]] (by kernel_rfl) (P2 ((decide (i1 < ((ByteArray.size s0 : Nat) : Int))) = false) (decide_eq_false h1) <| P1 (cs_l1In hr2) <| P0))
theorem ws_rName : ∀ s r, loop Bs_rName s = some r → Wc X 170 0 (Ks_rName s) (Zs_rName s) (RB r) ((fun _ => []) r) := Nx.all ns_rName
theorem cs_rName {a0 : ByteArray} {r : Bool} (H : Ds_rName a0 = some r) : Ct X.P X.gl 170 [.str a0] [] (RB r) [] :=
  Ct.of func170 (c := bdy f170) (by kernel_rfl) (by kernel_rfl) <|
  gO [r0, r0, .canon [] [0, 3]] (by kernel_rfl) P0 (ws_rName _ _ H)
/-! loop example/g00886/spec rTerrain -/
noncomputable def Ks_rTerrain : Ss_rTerrain → List Item
  | .h1 .. => nav 300 2 [] [.code (bdy f171)]
def Zs_rTerrain : Ss_rTerrain → St
  | .h1 name0 t1 t2 t3 => ⟨sts 20 [(1, .str name0), (7, sl 5 gi_Terrain t1), (8, I t2), (9, I t3)], []⟩
abbrev Qs_rTerrain := Nx X 171 0 Ks_rTerrain Zs_rTerrain RI (fun _ => [])
theorem ns_rTerrain : ∀ s o, Bs_rTerrain s = some o → Qs_rTerrain (Ks_rTerrain s) (Zs_rTerrain s) o
  | .h1 name0 t1 t2 t3, o, H =>
    eIf H (fun h1 H =>
      eCk H fun h2 H =>
      eBind H fun x3 hx3 H =>
      gN [rg [hT 0], rg [hE 2 (gi_Terrain x3)]] (by kernel_rfl) (P2 ((decide (t3 < t2)) = true) (decide_eq_true h1) <| P1 h2 <| P1 (int_lt_of_at h2 hx3) <| P1 (at_map gi_Terrain hx3) <| P0) <|
      eIf H (fun h4 H =>
        eN H <| gE func171 [rg [hT 3], r0] (by kernel_rfl) (P2 ((x3.Name == name0) = true) (beqT h4) <| P0))
      (fun h4 H =>
        eN H fun r hn => gO [rg [hF 3], r0, .canon [] [1, 7, 8, 9]] (by kernel_rfl) (P2 ((x3.Name == name0) = false) (beqF h4) <| P0) hn))
    (fun h1 H =>
      eN H <| gE func171 [rg [hF 0], r0] (by kernel_rfl) (P2 ((decide (t3 < t2)) = false) (decide_eq_false h1) <| P0))
theorem ws_rTerrain : ∀ s r, loop Bs_rTerrain s = some r → Wc X 171 0 (Ks_rTerrain s) (Zs_rTerrain s) (RI r) ((fun _ => []) r) := Nx.all ns_rTerrain
theorem cs_rTerrain {a0 : (List Gi_Terrain)} {a1 : ByteArray} {r : Int} (H : Ds_rTerrain a0 a1 = some r) : Ct X.P X.gl 171 [sl 5 gi_Terrain a0, .str a1] [] (RI r) [] :=
  Ct.of func171 (c := bdy f171) (by kernel_rfl) (by kernel_rfl) <|
  gO [r0, r0, .canon [] [1, 7, 8, 9]] (by kernel_rfl) P0 (ws_rTerrain _ _ H)
/-! loop example/g00886/spec l1All -/
noncomputable def Ks_l1All : Ss_l1All → List Item
  | .h1 .. => nav 300 2 [] [.code (bdy f149)]
def Zs_l1All : Ss_l1All → St
  | .h1 lo0 vhi1 t2 t3 t4 => ⟨sts 21 [(1, I lo0), (2, I vhi1), (9, sl 1 I t2), (10, I t3), (11, I t4)], []⟩
abbrev Qs_l1All := Nx X 149 0 Ks_l1All Zs_l1All RB (fun _ => [])
theorem ns_l1All : ∀ s o, Bs_l1All s = some o → Qs_l1All (Ks_l1All s) (Zs_l1All s) o
  | .h1 lo0 vhi1 t2 t3 t4, o, H =>
    eIf H (fun h1 H =>
      eCk H fun h2 H =>
      eBind H fun x3 hx3 H =>
      eBind H fun r4 hr4 H =>
      gN [rg [hT 0], rg [hE 1 (I x3)]] (by kernel_rfl) (P2 ((decide (t4 < t3)) = true) (decide_eq_true h1) <| P1 h2 <| P1 (int_lt_of_at h2 hx3) <| P1 (at_map I hx3) <| P0) <|
      eIf H (fun h5 H =>
        eN H fun r hn => gO [rg [{ i := 3, call := some { cl := true, auto := true, ins := [], res := (RB r4), G' := [] }, dec := some true }], r0, .canon [] [1, 2, 9, 10, 11]] (by kernel_rfl) (P1 (cs_l1In hr4) <| P2 (r4 = true) (h5) <| P0) hn)
      (fun h5 H =>
        eN H <| gE func149 [rg [{ i := 3, call := some { cl := true, auto := true, ins := [], res := (RB r4), G' := [] }, dec := some false }], r0] (by kernel_rfl) (P1 (cs_l1In hr4) <| P2 (r4 = false) (eqF h5) <| P0)))
    (fun h1 H =>
      eN H <| gE func149 [rg [hF 0], r0] (by kernel_rfl) (P2 ((decide (t4 < t3)) = false) (decide_eq_false h1) <| P0))
theorem ws_l1All : ∀ s r, loop Bs_l1All s = some r → Wc X 149 0 (Ks_l1All s) (Zs_l1All s) (RB r) ((fun _ => []) r) := Nx.all ns_l1All
theorem cs_l1All {a0 : (List Int)} {a1 : Int} {a2 : Int} {r : Bool} (H : Ds_l1All a0 a1 a2 = some r) : Ct X.P X.gl 149 [sl 1 I a0, I a1, I a2] [] (RB r) [] :=
  Ct.of func149 (c := bdy f149) (by kernel_rfl) (by kernel_rfl) <|
  gO [r0, r0, .canon [] [1, 2, 9, 10, 11]] (by kernel_rfl) P0 (ws_l1All _ _ H)
/-! loop example/g00886/spec rKind -/
noncomputable def Ks_rKind : Ss_rKind → List Item
  | .h1 .. => nav 300 2 [] [.code (bdy f172)]
def Zs_rKind : Ss_rKind → St
  | .h1 name0 t1 t2 t3 => ⟨sts 20 [(1, .str name0), (7, sl 6 gi_Kind t1), (8, I t2), (9, I t3)], []⟩
abbrev Qs_rKind := Nx X 172 0 Ks_rKind Zs_rKind RI (fun _ => [])
theorem ns_rKind : ∀ s o, Bs_rKind s = some o → Qs_rKind (Ks_rKind s) (Zs_rKind s) o
  | .h1 name0 t1 t2 t3, o, H =>
    eIf H (fun h1 H =>
      eCk H fun h2 H =>
      eBind H fun x3 hx3 H =>
      gN [rg [hT 0], rg [hE 2 (gi_Kind x3)]] (by kernel_rfl) (P2 ((decide (t3 < t2)) = true) (decide_eq_true h1) <| P1 h2 <| P1 (int_lt_of_at h2 hx3) <| P1 (at_map gi_Kind hx3) <| P0) <|
      eIf H (fun h4 H =>
        eN H <| gE func172 [rg [hT 3], r0] (by kernel_rfl) (P2 ((x3.Name == name0) = true) (beqT h4) <| P0))
      (fun h4 H =>
        eN H fun r hn => gO [rg [hF 3], r0, .canon [] [1, 7, 8, 9]] (by kernel_rfl) (P2 ((x3.Name == name0) = false) (beqF h4) <| P0) hn))
    (fun h1 H =>
      eN H <| gE func172 [rg [hF 0], r0] (by kernel_rfl) (P2 ((decide (t3 < t2)) = false) (decide_eq_false h1) <| P0))
theorem ws_rKind : ∀ s r, loop Bs_rKind s = some r → Wc X 172 0 (Ks_rKind s) (Zs_rKind s) (RI r) ((fun _ => []) r) := Nx.all ns_rKind
theorem cs_rKind {a0 : (List Gi_Kind)} {a1 : ByteArray} {r : Int} (H : Ds_rKind a0 a1 = some r) : Ct X.P X.gl 172 [sl 6 gi_Kind a0, .str a1] [] (RI r) [] :=
  Ct.of func172 (c := bdy f172) (by kernel_rfl) (by kernel_rfl) <|
  gO [r0, r0, .canon [] [1, 7, 8, 9]] (by kernel_rfl) P0 (ws_rKind _ _ H)
/-! loop example/g00886/spec rGood -/
noncomputable def Ks_rGood : Ss_rGood → List Item
  | .h1 .. => nav 300 3 [false] [.code (bdy f147)]
  | .h2 .. => nav 300 5 [false, false] [.code (bdy f147)]
def Zs_rGood : Ss_rGood → St
  | .h1 t0 t1 t2 b3 => ⟨sts 137 [(1, .ptr 0 7 0 0), (20, sl 5 gi_Terrain t0), (21, I t1), (22, I t2)], [some ⟨false, true, 7, 1, [.agg [sl 5 gi_Terrain b3.Terrains, sl 6 gi_Kind b3.Kinds, I b3.Stack, I b3.River, I b3.Road, I b3.Supply, I b3.Turns]]⟩]⟩
  | .h2 t0 t1 t2 b3 => ⟨sts 137 [(1, .ptr 0 7 0 0), (69, sl 6 gi_Kind t0), (70, I t1), (71, I t2)], [some ⟨false, true, 7, 1, [.agg [sl 5 gi_Terrain b3.Terrains, sl 6 gi_Kind b3.Kinds, I b3.Stack, I b3.River, I b3.Road, I b3.Supply, I b3.Turns]]⟩]⟩
abbrev Qs_rGood := Nx X 147 0 Ks_rGood Zs_rGood RB (fun _ => [])
theorem ns_rGood : ∀ s o, Bs_rGood s = some o → Qs_rGood (Ks_rGood s) (Zs_rGood s) o
  | .h1 t0 t1 t2 b3, o, H =>
    eIf H (fun h1 H =>
      eCk H fun h2 H =>
      eBind H fun x3 hx3 H =>
      eBind H fun r4 hr4 H =>
      gN [rg [hT 0], rg [hE 2 (gi_Terrain x3)]] (by kernel_rfl) (P2 ((decide (t2 < t1)) = true) (decide_eq_true h1) <| P1 h2 <| P1 (int_lt_of_at h2 hx3) <| P1 (at_map gi_Terrain hx3) <| P0) <|
      eIf H (fun h5 H =>
        eBind H fun r6 hr6 H =>
        eIf H (fun h7 H =>
          eIf H (fun h8 H =>
            eBind H fun r9 hr9 H =>
            eIf H (fun h10 H =>
              eBind H fun r11 hr11 H =>
              eIf H (fun h12 H =>
                eBind H fun r13 hr13 H =>
                eIf H (fun h14 H =>
                  eN H fun r hn => gO [rg [{ i := 2, call := some { cl := true, auto := true, ins := [], res := (RB r4), G' := [] }, dec := some true }, hC 9 true [] (RI r6) [], hF 11, hF 20, { i := 25, call := some { cl := true, auto := true, ins := [], res := (RB r9), G' := [] }, dec := some true }, { i := 31, call := some { cl := true, auto := true, ins := [], res := (RB r11), G' := [] }, dec := some true }, { i := 37, call := some { cl := true, auto := true, ins := [], res := (RB r13), G' := [] }, dec := some true }], r0, .canon [0] [1, 20, 21, 22]] (by kernel_rfl) (P1 (cs_rName hr4) <| P2 (r4 = true) (h5) <| P1 (cs_rTerrain hr6) <| P2 (((r6 : Int) != t2) = false) (bneF h7) <| P2 (((((x3.Cost.length : Nat) : Int) : Int) != ((b3.Kinds.length : Nat) : Int)) = false) (bneF h8) <| P1 (cs_l1All hr9) <| P2 (r9 = true) (h10) <| P1 (cs_l1In hr11) <| P2 (r11 = true) (h12) <| P1 (cs_l1In hr13) <| P2 (r13 = true) (h14) <| P0) hn)
                (fun h14 H =>
                  eN H <| gE func147 [rg [{ i := 2, call := some { cl := true, auto := true, ins := [], res := (RB r4), G' := [] }, dec := some true }, hC 9 true [] (RI r6) [], hF 11, hF 20, { i := 25, call := some { cl := true, auto := true, ins := [], res := (RB r9), G' := [] }, dec := some true }, { i := 31, call := some { cl := true, auto := true, ins := [], res := (RB r11), G' := [] }, dec := some true }, { i := 37, call := some { cl := true, auto := true, ins := [], res := (RB r13), G' := [] }, dec := some false }], r0] (by kernel_rfl) (P1 (cs_rName hr4) <| P2 (r4 = true) (h5) <| P1 (cs_rTerrain hr6) <| P2 (((r6 : Int) != t2) = false) (bneF h7) <| P2 (((((x3.Cost.length : Nat) : Int) : Int) != ((b3.Kinds.length : Nat) : Int)) = false) (bneF h8) <| P1 (cs_l1All hr9) <| P2 (r9 = true) (h10) <| P1 (cs_l1In hr11) <| P2 (r11 = true) (h12) <| P1 (cs_l1In hr13) <| P2 (r13 = false) (eqF h14) <| P0)))
              (fun h12 H =>
                eN H <| gE func147 [rg [{ i := 2, call := some { cl := true, auto := true, ins := [], res := (RB r4), G' := [] }, dec := some true }, hC 9 true [] (RI r6) [], hF 11, hF 20, { i := 25, call := some { cl := true, auto := true, ins := [], res := (RB r9), G' := [] }, dec := some true }, { i := 31, call := some { cl := true, auto := true, ins := [], res := (RB r11), G' := [] }, dec := some false }], r0] (by kernel_rfl) (P1 (cs_rName hr4) <| P2 (r4 = true) (h5) <| P1 (cs_rTerrain hr6) <| P2 (((r6 : Int) != t2) = false) (bneF h7) <| P2 (((((x3.Cost.length : Nat) : Int) : Int) != ((b3.Kinds.length : Nat) : Int)) = false) (bneF h8) <| P1 (cs_l1All hr9) <| P2 (r9 = true) (h10) <| P1 (cs_l1In hr11) <| P2 (r11 = false) (eqF h12) <| P0)))
            (fun h10 H =>
              eN H <| gE func147 [rg [{ i := 2, call := some { cl := true, auto := true, ins := [], res := (RB r4), G' := [] }, dec := some true }, hC 9 true [] (RI r6) [], hF 11, hF 20, { i := 25, call := some { cl := true, auto := true, ins := [], res := (RB r9), G' := [] }, dec := some false }], r0] (by kernel_rfl) (P1 (cs_rName hr4) <| P2 (r4 = true) (h5) <| P1 (cs_rTerrain hr6) <| P2 (((r6 : Int) != t2) = false) (bneF h7) <| P2 (((((x3.Cost.length : Nat) : Int) : Int) != ((b3.Kinds.length : Nat) : Int)) = false) (bneF h8) <| P1 (cs_l1All hr9) <| P2 (r9 = false) (eqF h10) <| P0)))
          (fun h8 H =>
            eN H <| gE func147 [rg [{ i := 2, call := some { cl := true, auto := true, ins := [], res := (RB r4), G' := [] }, dec := some true }, hC 9 true [] (RI r6) [], hF 11, hT 20], r0] (by kernel_rfl) (P1 (cs_rName hr4) <| P2 (r4 = true) (h5) <| P1 (cs_rTerrain hr6) <| P2 (((r6 : Int) != t2) = false) (bneF h7) <| P2 (((((x3.Cost.length : Nat) : Int) : Int) != ((b3.Kinds.length : Nat) : Int)) = true) (bneT h8) <| P0)))
        (fun h7 H =>
          eN H <| gE func147 [rg [{ i := 2, call := some { cl := true, auto := true, ins := [], res := (RB r4), G' := [] }, dec := some true }, hC 9 true [] (RI r6) [], hT 11], r0] (by kernel_rfl) (P1 (cs_rName hr4) <| P2 (r4 = true) (h5) <| P1 (cs_rTerrain hr6) <| P2 (((r6 : Int) != t2) = true) (bneT h7) <| P0)))
      (fun h5 H =>
        eN H <| gE func147 [rg [{ i := 2, call := some { cl := true, auto := true, ins := [], res := (RB r4), G' := [] }, dec := some false }], r0] (by kernel_rfl) (P1 (cs_rName hr4) <| P2 (r4 = false) (eqF h5) <| P0)))
    (fun h1 H =>
      eN H fun r hn => gO [rg [hF 0], r0, .canon [0] [1, 69, 70, 71]] (by kernel_rfl) (P2 ((decide (t2 < t1)) = false) (decide_eq_false h1) <| P0) hn)
  | .h2 t0 t1 t2 b3, o, H =>
    eIf H (fun h1 H =>
      eCk H fun h2 H =>
      eBind H fun x3 hx3 H =>
      eBind H fun r4 hr4 H =>
      gN [rg [hT 0], rg [hE 2 (gi_Kind x3)]] (by kernel_rfl) (P2 ((decide (t2 < t1)) = true) (decide_eq_true h1) <| P1 h2 <| P1 (int_lt_of_at h2 hx3) <| P1 (at_map gi_Kind hx3) <| P0) <|
      eIf H (fun h5 H =>
        eBind H fun r6 hr6 H =>
        eIf H (fun h7 H =>
          eBind H fun r8 hr8 H =>
          eIf H (fun h9 H =>
            eBind H fun r10 hr10 H =>
            eIf H (fun h11 H =>
              eBind H fun r12 hr12 H =>
              eIf H (fun h13 H =>
                eBind H fun r14 hr14 H =>
                eIf H (fun h15 H =>
                  eN H fun r hn => gO [rg [{ i := 2, call := some { cl := true, auto := true, ins := [], res := (RB r4), G' := [] }, dec := some true }, hC 9 true [] (RI r6) [], hF 11, { i := 16, call := some { cl := true, auto := true, ins := [], res := (RB r8), G' := [] }, dec := some true }, { i := 22, call := some { cl := true, auto := true, ins := [], res := (RB r10), G' := [] }, dec := some true }, { i := 28, call := some { cl := true, auto := true, ins := [], res := (RB r12), G' := [] }, dec := some true }, { i := 34, call := some { cl := true, auto := true, ins := [], res := (RB r14), G' := [] }, dec := some true }], r0, .canon [0] [1, 69, 70, 71]] (by kernel_rfl) (P1 (cs_rName hr4) <| P2 (r4 = true) (h5) <| P1 (cs_rKind hr6) <| P2 (((r6 : Int) != t2) = false) (bneF h7) <| P1 (cs_l1In hr8) <| P2 (r8 = true) (h9) <| P1 (cs_l1In hr10) <| P2 (r10 = true) (h11) <| P1 (cs_l1In hr12) <| P2 (r12 = true) (h13) <| P1 (cs_l1In hr14) <| P2 (r14 = true) (h15) <| P0) hn)
                (fun h15 H =>
                  eN H <| gE func147 [rg [{ i := 2, call := some { cl := true, auto := true, ins := [], res := (RB r4), G' := [] }, dec := some true }, hC 9 true [] (RI r6) [], hF 11, { i := 16, call := some { cl := true, auto := true, ins := [], res := (RB r8), G' := [] }, dec := some true }, { i := 22, call := some { cl := true, auto := true, ins := [], res := (RB r10), G' := [] }, dec := some true }, { i := 28, call := some { cl := true, auto := true, ins := [], res := (RB r12), G' := [] }, dec := some true }, { i := 34, call := some { cl := true, auto := true, ins := [], res := (RB r14), G' := [] }, dec := some false }], r0] (by kernel_rfl) (P1 (cs_rName hr4) <| P2 (r4 = true) (h5) <| P1 (cs_rKind hr6) <| P2 (((r6 : Int) != t2) = false) (bneF h7) <| P1 (cs_l1In hr8) <| P2 (r8 = true) (h9) <| P1 (cs_l1In hr10) <| P2 (r10 = true) (h11) <| P1 (cs_l1In hr12) <| P2 (r12 = true) (h13) <| P1 (cs_l1In hr14) <| P2 (r14 = false) (eqF h15) <| P0)))
              (fun h13 H =>
                eN H <| gE func147 [rg [{ i := 2, call := some { cl := true, auto := true, ins := [], res := (RB r4), G' := [] }, dec := some true }, hC 9 true [] (RI r6) [], hF 11, { i := 16, call := some { cl := true, auto := true, ins := [], res := (RB r8), G' := [] }, dec := some true }, { i := 22, call := some { cl := true, auto := true, ins := [], res := (RB r10), G' := [] }, dec := some true }, { i := 28, call := some { cl := true, auto := true, ins := [], res := (RB r12), G' := [] }, dec := some false }], r0] (by kernel_rfl) (P1 (cs_rName hr4) <| P2 (r4 = true) (h5) <| P1 (cs_rKind hr6) <| P2 (((r6 : Int) != t2) = false) (bneF h7) <| P1 (cs_l1In hr8) <| P2 (r8 = true) (h9) <| P1 (cs_l1In hr10) <| P2 (r10 = true) (h11) <| P1 (cs_l1In hr12) <| P2 (r12 = false) (eqF h13) <| P0)))
            (fun h11 H =>
              eN H <| gE func147 [rg [{ i := 2, call := some { cl := true, auto := true, ins := [], res := (RB r4), G' := [] }, dec := some true }, hC 9 true [] (RI r6) [], hF 11, { i := 16, call := some { cl := true, auto := true, ins := [], res := (RB r8), G' := [] }, dec := some true }, { i := 22, call := some { cl := true, auto := true, ins := [], res := (RB r10), G' := [] }, dec := some false }], r0] (by kernel_rfl) (P1 (cs_rName hr4) <| P2 (r4 = true) (h5) <| P1 (cs_rKind hr6) <| P2 (((r6 : Int) != t2) = false) (bneF h7) <| P1 (cs_l1In hr8) <| P2 (r8 = true) (h9) <| P1 (cs_l1In hr10) <| P2 (r10 = false) (eqF h11) <| P0)))
          (fun h9 H =>
            eN H <| gE func147 [rg [{ i := 2, call := some { cl := true, auto := true, ins := [], res := (RB r4), G' := [] }, dec := some true }, hC 9 true [] (RI r6) [], hF 11, { i := 16, call := some { cl := true, auto := true, ins := [], res := (RB r8), G' := [] }, dec := some false }], r0] (by kernel_rfl) (P1 (cs_rName hr4) <| P2 (r4 = true) (h5) <| P1 (cs_rKind hr6) <| P2 (((r6 : Int) != t2) = false) (bneF h7) <| P1 (cs_l1In hr8) <| P2 (r8 = false) (eqF h9) <| P0)))
        (fun h7 H =>
          eN H <| gE func147 [rg [{ i := 2, call := some { cl := true, auto := true, ins := [], res := (RB r4), G' := [] }, dec := some true }, hC 9 true [] (RI r6) [], hT 11], r0] (by kernel_rfl) (P1 (cs_rName hr4) <| P2 (r4 = true) (h5) <| P1 (cs_rKind hr6) <| P2 (((r6 : Int) != t2) = true) (bneT h7) <| P0)))
      (fun h5 H =>
        eN H <| gE func147 [rg [{ i := 2, call := some { cl := true, auto := true, ins := [], res := (RB r4), G' := [] }, dec := some false }], r0] (by kernel_rfl) (P1 (cs_rName hr4) <| P2 (r4 = false) (eqF h5) <| P0)))
    (fun h1 H =>
      eBind H fun r2 hr2 H =>
      gN [rg [hF 0]] (by kernel_rfl) (P2 ((decide (t2 < t1)) = false) (decide_eq_false h1) <| P0) <|
      eIf H (fun h3 H =>
        eBind H fun r4 hr4 H =>
        eIf H (fun h5 H =>
          eBind H fun r6 hr6 H =>
          eIf H (fun h7 H =>
            eBind H fun r8 hr8 H =>
            eIf H (fun h9 H =>
              eBind H fun r10 hr10 H =>
              eN H <| gE func147 [rg [{ i := 2, call := some { cl := true, auto := true, ins := [], res := (RB r2), G' := [] }, dec := some true }, { i := 6, call := some { cl := true, auto := true, ins := [], res := (RB r4), G' := [] }, dec := some true }, { i := 11, call := some { cl := true, auto := true, ins := [], res := (RB r6), G' := [] }, dec := some true }, { i := 16, call := some { cl := true, auto := true, ins := [], res := (RB r8), G' := [] }, dec := some true }, hC 21 true [] (RB r10) []]] (by kernel_rfl) (P1 (cs_l1In hr2) <| P2 (r2 = true) (h3) <| P1 (cs_l1In hr4) <| P2 (r4 = true) (h5) <| P1 (cs_l1In hr6) <| P2 (r6 = true) (h7) <| P1 (cs_l1In hr8) <| P2 (r8 = true) (h9) <| P1 (cs_l1In hr10) <| P0))
            (fun h9 H =>
              eN H <| gE func147 [rg [{ i := 2, call := some { cl := true, auto := true, ins := [], res := (RB r2), G' := [] }, dec := some true }, { i := 6, call := some { cl := true, auto := true, ins := [], res := (RB r4), G' := [] }, dec := some true }, { i := 11, call := some { cl := true, auto := true, ins := [], res := (RB r6), G' := [] }, dec := some true }, { i := 16, call := some { cl := true, auto := true, ins := [], res := (RB r8), G' := [] }, dec := some false }]] (by kernel_rfl) (P1 (cs_l1In hr2) <| P2 (r2 = true) (h3) <| P1 (cs_l1In hr4) <| P2 (r4 = true) (h5) <| P1 (cs_l1In hr6) <| P2 (r6 = true) (h7) <| P1 (cs_l1In hr8) <| P2 (r8 = false) (eqF h9) <| P0)))
          (fun h7 H =>
            eN H <| gE func147 [rg [{ i := 2, call := some { cl := true, auto := true, ins := [], res := (RB r2), G' := [] }, dec := some true }, { i := 6, call := some { cl := true, auto := true, ins := [], res := (RB r4), G' := [] }, dec := some true }, { i := 11, call := some { cl := true, auto := true, ins := [], res := (RB r6), G' := [] }, dec := some false }]] (by kernel_rfl) (P1 (cs_l1In hr2) <| P2 (r2 = true) (h3) <| P1 (cs_l1In hr4) <| P2 (r4 = true) (h5) <| P1 (cs_l1In hr6) <| P2 (r6 = false) (eqF h7) <| P0)))
        (fun h5 H =>
          eN H <| gE func147 [rg [{ i := 2, call := some { cl := true, auto := true, ins := [], res := (RB r2), G' := [] }, dec := some true }, { i := 6, call := some { cl := true, auto := true, ins := [], res := (RB r4), G' := [] }, dec := some false }]] (by kernel_rfl) (P1 (cs_l1In hr2) <| P2 (r2 = true) (h3) <| P1 (cs_l1In hr4) <| P2 (r4 = false) (eqF h5) <| P0)))
      (fun h3 H =>
        eN H <| gE func147 [rg [{ i := 2, call := some { cl := true, auto := true, ins := [], res := (RB r2), G' := [] }, dec := some false }]] (by kernel_rfl) (P1 (cs_l1In hr2) <| P2 (r2 = false) (eqF h3) <| P0)))
theorem ws_rGood : ∀ s r, loop Bs_rGood s = some r → Wc X 147 0 (Ks_rGood s) (Zs_rGood s) (RB r) ((fun _ => []) r) := Nx.all ns_rGood
theorem cs_rGood {a0 : Gi_Rules} {r : Bool} (H : Ds_rGood a0 = some r) : Ct X.P X.gl 147 [.agg [sl 5 gi_Terrain a0.Terrains, sl 6 gi_Kind a0.Kinds, I a0.Stack, I a0.River, I a0.Road, I a0.Supply, I a0.Turns]] [] (RB r) [] :=
  Ct.of func147 (c := bdy f147) (by kernel_rfl) (by kernel_rfl) <|
  eBind H fun r1 hr1 H =>
  gS [r0] (by kernel_rfl) P0 <|
  eIf H (fun h2 H =>
    eBind H fun r3 hr3 H =>
    eIf H (fun h4 H =>
      gO [rg [{ i := 3, call := some { cl := true, auto := true, ins := [], res := (RB r1), G' := [] }, dec := some true }, { i := 9, call := some { cl := true, auto := true, ins := [], res := (RB r3), G' := [] }, dec := some true }], r0, .canon [0] [1, 20, 21, 22]] (by kernel_rfl) (P1 (cs_l1In hr1) <| P2 (r1 = true) (h2) <| P1 (cs_l1In hr3) <| P2 (r3 = true) (h4) <| P0) (ws_rGood _ _ H))
    (fun h4 H =>
      eW RB (fun _ => []) H <| gE func147 [rg [{ i := 3, call := some { cl := true, auto := true, ins := [], res := (RB r1), G' := [] }, dec := some true }, { i := 9, call := some { cl := true, auto := true, ins := [], res := (RB r3), G' := [] }, dec := some false }], r0] (by kernel_rfl) (P1 (cs_l1In hr1) <| P2 (r1 = true) (h2) <| P1 (cs_l1In hr3) <| P2 (r3 = false) (eqF h4) <| P0)))
  (fun h2 H =>
    eW RB (fun _ => []) H <| gE func147 [rg [{ i := 3, call := some { cl := true, auto := true, ins := [], res := (RB r1), G' := [] }, dec := some false }], r0] (by kernel_rfl) (P1 (cs_l1In hr1) <| P2 (r1 = false) (eqF h2) <| P0))
/-! loop example/g00886/spec l1Rising -/
noncomputable def Ks_l1Rising : Ss_l1Rising → List Item
  | .h1 .. => nav 300 2 [] [.code (bdy f132)]
def Zs_l1Rising : Ss_l1Rising → St
  | .h1 l0 lo1 vhi2 t3 t4 t5 => ⟨sts 35 [(0, sl 1 I l0), (1, I lo1), (2, I vhi2), (9, sl 1 I t3), (10, I t4), (11, I t5)], []⟩
abbrev Qs_l1Rising := Nx X 132 0 Ks_l1Rising Zs_l1Rising RB (fun _ => [])
theorem ns_l1Rising : ∀ s o, Bs_l1Rising s = some o → Qs_l1Rising (Ks_l1Rising s) (Zs_l1Rising s) o
  | .h1 l0 lo1 vhi2 t3 t4 t5, o, H =>
    eIf H (fun h1 H =>
      eCk H fun h2 H =>
      eBind H fun x3 hx3 H =>
      eBind H fun r4 hr4 H =>
      gN [rg [hT 0], rg [hE 2 (I x3)]] (by kernel_rfl) (P2 ((decide (t5 < t4)) = true) (decide_eq_true h1) <| P1 h2 <| P1 (int_lt_of_at h2 hx3) <| P1 (at_map I hx3) <| P0) <|
      eIf H (fun h5 H =>
        eIf H (fun h6 H =>
          eCk H fun h7 H =>
          eBind H fun x8 hx8 H =>
          eIf H (fun h9 H =>
            eN H <| gE func132 [rg [{ i := 3, call := some { cl := true, auto := true, ins := [], res := (RB r4), G' := [] }, dec := some true }, hT 7, hE 13 (I x8), hT 15], r0] (by kernel_rfl) (P1 (cs_l1In hr4) <| P2 (r4 = true) (h5) <| P2 ((decide (t5 > 0)) = true) (decide_eq_true h6) <| P1 h7 <| P1 (int_lt_of_at h7 hx8) <| P1 (at_map I hx8) <| P2 ((decide (x8 ≥ x3)) = true) (decide_eq_true h9) <| P0))
          (fun h9 H =>
            eN H fun r hn => gO [rg [{ i := 3, call := some { cl := true, auto := true, ins := [], res := (RB r4), G' := [] }, dec := some true }, hT 7, hE 13 (I x8), hF 15], r0, .canon [] [0, 1, 2, 9, 10, 11]] (by kernel_rfl) (P1 (cs_l1In hr4) <| P2 (r4 = true) (h5) <| P2 ((decide (t5 > 0)) = true) (decide_eq_true h6) <| P1 h7 <| P1 (int_lt_of_at h7 hx8) <| P1 (at_map I hx8) <| P2 ((decide (x8 ≥ x3)) = false) (decide_eq_false h9) <| P0) hn))
        (fun h6 H =>
          eN H fun r hn => gO [rg [{ i := 3, call := some { cl := true, auto := true, ins := [], res := (RB r4), G' := [] }, dec := some true }, hF 7], r0, .canon [] [0, 1, 2, 9, 10, 11]] (by kernel_rfl) (P1 (cs_l1In hr4) <| P2 (r4 = true) (h5) <| P2 ((decide (t5 > 0)) = false) (decide_eq_false h6) <| P0) hn))
      (fun h5 H =>
        eN H <| gE func132 [rg [{ i := 3, call := some { cl := true, auto := true, ins := [], res := (RB r4), G' := [] }, dec := some false }], r0] (by kernel_rfl) (P1 (cs_l1In hr4) <| P2 (r4 = false) (eqF h5) <| P0)))
    (fun h1 H =>
      eN H <| gE func132 [rg [hF 0], r0] (by kernel_rfl) (P2 ((decide (t5 < t4)) = false) (decide_eq_false h1) <| P0))
theorem ws_l1Rising : ∀ s r, loop Bs_l1Rising s = some r → Wc X 132 0 (Ks_l1Rising s) (Zs_l1Rising s) (RB r) ((fun _ => []) r) := Nx.all ns_l1Rising
theorem cs_l1Rising {a0 : (List Int)} {a1 : Int} {a2 : Int} {r : Bool} (H : Ds_l1Rising a0 a1 a2 = some r) : Ct X.P X.gl 132 [sl 1 I a0, I a1, I a2] [] (RB r) [] :=
  Ct.of func132 (c := bdy f132) (by kernel_rfl) (by kernel_rfl) <|
  gO [r0, r0, .canon [] [0, 1, 2, 9, 10, 11]] (by kernel_rfl) P0 (ws_l1Rising _ _ H)
/-! loop example/g00886/spec mEdges -/
noncomputable def Ks_mEdges : Ss_mEdges → List Item
  | .h1 .. => nav 300 2 [] [.code (bdy f173)]
def Zs_mEdges : Ss_mEdges → St
  | .h1 l0 t1 t2 t3 b4 => ⟨sts 36 [(1, sl 1 I l0), (2, .ptr 0 5 0 0), (7, sl 1 I t1), (8, I t2), (9, I t3)], [some ⟨false, true, 5, 1, [.agg [I b4.Width, I b4.Height, sl 1 I b4.Terrain, sl 1 I b4.Rivers, sl 1 I b4.Roads]]⟩]⟩
abbrev Qs_mEdges := Nx X 173 0 Ks_mEdges Zs_mEdges RB (fun _ => [])
theorem ns_mEdges : ∀ s o, Bs_mEdges s = some o → Qs_mEdges (Ks_mEdges s) (Zs_mEdges s) o
  | .h1 l0 t1 t2 t3 b4, o, H =>
    eIf H (fun h1 H =>
      eCk H fun h2 H =>
      eBind H fun x3 hx3 H =>
      eBind H fun r4 hr4 H =>
      eBind H fun r5 hr5 H =>
      gN [rg [hT 0], rg [hE 1 (I x3)]] (by kernel_rfl) (P2 ((decide (t3 < t2)) = true) (decide_eq_true h1) <| P1 h2 <| P1 (int_lt_of_at h2 hx3) <| P1 (at_map I hx3) <| P0) <|
      eIf H (fun h6 H =>
        eBind H fun r7 hr7 H =>
        eIf H (fun h8 H =>
          eN H <| gE func173 [rg [hC 2 true [] (RI r4) [], { i := 5, call := some { cl := true, auto := true, ins := [], res := (RB r5), G' := [] }, dec := some true }, hC 13 true [] (RI r7) [], hT 14], r0] (by kernel_rfl) (P1 (cs_mSize hr4) <| P1 (cs_l1In hr5) <| P2 (r5 = true) (h6) <| P2 (¬ (3 : Int) = 0) (by decide) <| P2 (¬ (3 : Int) = 0) (by decide) <| P1 (cs_mNext hr7) <| P2 ((decide (r7 < 0)) = true) (decide_eq_true h8) <| P0))
        (fun h8 H =>
          eN H fun r hn => gO [rg [hC 2 true [] (RI r4) [], { i := 5, call := some { cl := true, auto := true, ins := [], res := (RB r5), G' := [] }, dec := some true }, hC 13 true [] (RI r7) [], hF 14], r0, .canon [0] [1, 2, 7, 8, 9]] (by kernel_rfl) (P1 (cs_mSize hr4) <| P1 (cs_l1In hr5) <| P2 (r5 = true) (h6) <| P2 (¬ (3 : Int) = 0) (by decide) <| P2 (¬ (3 : Int) = 0) (by decide) <| P1 (cs_mNext hr7) <| P2 ((decide (r7 < 0)) = false) (decide_eq_false h8) <| P0) hn))
      (fun h6 H =>
        eN H <| gE func173 [rg [hC 2 true [] (RI r4) [], { i := 5, call := some { cl := true, auto := true, ins := [], res := (RB r5), G' := [] }, dec := some false }], r0] (by kernel_rfl) (P1 (cs_mSize hr4) <| P1 (cs_l1In hr5) <| P2 (r5 = false) (eqF h6) <| P0)))
    (fun h1 H =>
      eBind H fun r2 hr2 H =>
      eBind H fun r3 hr3 H =>
      eN H <| gE func173 [rg [hF 0], rg [hC 2 true [] (RI r2) [], hC 5 true [] (RB r3) []]] (by kernel_rfl) (P2 ((decide (t3 < t2)) = false) (decide_eq_false h1) <| P1 (cs_mSize hr2) <| P1 (cs_l1Rising hr3) <| P0))
theorem ws_mEdges : ∀ s r, loop Bs_mEdges s = some r → Wc X 173 0 (Ks_mEdges s) (Zs_mEdges s) (RB r) ((fun _ => []) r) := Nx.all ns_mEdges
theorem cs_mEdges {a0 : Gi_Map} {a1 : (List Int)} {r : Bool} (H : Ds_mEdges a0 a1 = some r) : Ct X.P X.gl 173 [.agg [I a0.Width, I a0.Height, sl 1 I a0.Terrain, sl 1 I a0.Rivers, sl 1 I a0.Roads], sl 1 I a1] [] (RB r) [] :=
  Ct.of func173 (c := bdy f173) (by kernel_rfl) (by kernel_rfl) <|
  gO [r0, r0, .canon [0] [1, 2, 7, 8, 9]] (by kernel_rfl) P0 (ws_mEdges _ _ H)
/-! loop example/g00886/spec mGood -/
theorem cs_mGood {a0 : Gi_Map} {r : Bool} (H : Ds_mGood a0 = some r) : Ct X.P X.gl 148 [.agg [I a0.Width, I a0.Height, sl 1 I a0.Terrain, sl 1 I a0.Rivers, sl 1 I a0.Roads]] [] (RB r) [] :=
  Ct.of func148 (c := bdy f148) (by kernel_rfl) (by kernel_rfl) <|
  eBind H fun r1 hr1 H =>
  gS [r0] (by kernel_rfl) P0 <|
  eIf H (fun h2 H =>
    eBind H fun r3 hr3 H =>
    eIf H (fun h4 H =>
      eBind H fun r5 hr5 H =>
      eIf H (fun h6 H =>
        eBind H fun r7 hr7 H =>
        eIf H (fun h8 H =>
          eBind H fun r9 hr9 H =>
          eIf H (fun h10 H =>
            eBind H fun r11 hr11 H =>
            eW RB (fun _ => []) H <| gE func148 [rg [{ i := 2, call := some { cl := true, auto := true, ins := [], res := (RB r1), G' := [] }, dec := some true }, { i := 6, call := some { cl := true, auto := true, ins := [], res := (RB r3), G' := [] }, dec := some true }, hC 13 true [] (RI r5) [], hT 14, { i := 19, call := some { cl := true, auto := true, ins := [], res := (RB r7), G' := [] }, dec := some true }, { i := 25, call := some { cl := true, auto := true, ins := [], res := (RB r9), G' := [] }, dec := some true }, hC 31 true [] (RB r11) []]] (by kernel_rfl) (P1 (cs_l1In hr1) <| P2 (r1 = true) (h2) <| P1 (cs_l1In hr3) <| P2 (r3 = true) (h4) <| P1 (cs_mSize hr5) <| P2 (((((a0.Terrain.length : Nat) : Int) : Int) == r5) = true) (beqT h6) <| P1 (cs_l1All hr7) <| P2 (r7 = true) (h8) <| P1 (cs_mEdges hr9) <| P2 (r9 = true) (h10) <| P1 (cs_mEdges hr11) <| P0))
          (fun h10 H =>
            eW RB (fun _ => []) H <| gE func148 [rg [{ i := 2, call := some { cl := true, auto := true, ins := [], res := (RB r1), G' := [] }, dec := some true }, { i := 6, call := some { cl := true, auto := true, ins := [], res := (RB r3), G' := [] }, dec := some true }, hC 13 true [] (RI r5) [], hT 14, { i := 19, call := some { cl := true, auto := true, ins := [], res := (RB r7), G' := [] }, dec := some true }, { i := 25, call := some { cl := true, auto := true, ins := [], res := (RB r9), G' := [] }, dec := some false }]] (by kernel_rfl) (P1 (cs_l1In hr1) <| P2 (r1 = true) (h2) <| P1 (cs_l1In hr3) <| P2 (r3 = true) (h4) <| P1 (cs_mSize hr5) <| P2 (((((a0.Terrain.length : Nat) : Int) : Int) == r5) = true) (beqT h6) <| P1 (cs_l1All hr7) <| P2 (r7 = true) (h8) <| P1 (cs_mEdges hr9) <| P2 (r9 = false) (eqF h10) <| P0)))
        (fun h8 H =>
          eW RB (fun _ => []) H <| gE func148 [rg [{ i := 2, call := some { cl := true, auto := true, ins := [], res := (RB r1), G' := [] }, dec := some true }, { i := 6, call := some { cl := true, auto := true, ins := [], res := (RB r3), G' := [] }, dec := some true }, hC 13 true [] (RI r5) [], hT 14, { i := 19, call := some { cl := true, auto := true, ins := [], res := (RB r7), G' := [] }, dec := some false }]] (by kernel_rfl) (P1 (cs_l1In hr1) <| P2 (r1 = true) (h2) <| P1 (cs_l1In hr3) <| P2 (r3 = true) (h4) <| P1 (cs_mSize hr5) <| P2 (((((a0.Terrain.length : Nat) : Int) : Int) == r5) = true) (beqT h6) <| P1 (cs_l1All hr7) <| P2 (r7 = false) (eqF h8) <| P0)))
      (fun h6 H =>
        eW RB (fun _ => []) H <| gE func148 [rg [{ i := 2, call := some { cl := true, auto := true, ins := [], res := (RB r1), G' := [] }, dec := some true }, { i := 6, call := some { cl := true, auto := true, ins := [], res := (RB r3), G' := [] }, dec := some true }, hC 13 true [] (RI r5) [], hF 14]] (by kernel_rfl) (P1 (cs_l1In hr1) <| P2 (r1 = true) (h2) <| P1 (cs_l1In hr3) <| P2 (r3 = true) (h4) <| P1 (cs_mSize hr5) <| P2 (((((a0.Terrain.length : Nat) : Int) : Int) == r5) = false) (beqF h6) <| P0)))
    (fun h4 H =>
      eW RB (fun _ => []) H <| gE func148 [rg [{ i := 2, call := some { cl := true, auto := true, ins := [], res := (RB r1), G' := [] }, dec := some true }, { i := 6, call := some { cl := true, auto := true, ins := [], res := (RB r3), G' := [] }, dec := some false }]] (by kernel_rfl) (P1 (cs_l1In hr1) <| P2 (r1 = true) (h2) <| P1 (cs_l1In hr3) <| P2 (r3 = false) (eqF h4) <| P0)))
  (fun h2 H =>
    eW RB (fun _ => []) H <| gE func148 [rg [{ i := 2, call := some { cl := true, auto := true, ins := [], res := (RB r1), G' := [] }, dec := some false }]] (by kernel_rfl) (P1 (cs_l1In hr1) <| P2 (r1 = false) (eqF h2) <| P0))
/-! loop example/g00886/spec bGood -/
theorem cs_bGood {a0 : Gi_Board} {r : Bool} (H : Ds_bGood a0 = some r) : Ct X.P X.gl 97 [.agg [sl 5 gi_Terrain a0.Rules.Terrains, sl 6 gi_Kind a0.Rules.Kinds, I a0.Rules.Stack, I a0.Rules.River, I a0.Rules.Road, I a0.Rules.Supply, I a0.Rules.Turns, I a0.Map.Width, I a0.Map.Height, sl 1 I a0.Map.Terrain, sl 1 I a0.Map.Rivers, sl 1 I a0.Map.Roads]] [] (RB r) [] :=
  Ct.of func97 (c := bdy f97) (by kernel_rfl) (by kernel_rfl) <|
  eBind H fun r1 hr1 H =>
  gS [r0] (by kernel_rfl) P0 <|
  eIf H (fun h2 H =>
    eBind H fun r3 hr3 H =>
    eIf H (fun h4 H =>
      eBind H fun r5 hr5 H =>
      eW RB (fun _ => []) H <| gE func97 [rg [{ i := 2, call := some { cl := true, auto := true, ins := [], res := (RB r1), G' := [] }, dec := some true }, { i := 6, call := some { cl := true, auto := true, ins := [], res := (RB r3), G' := [] }, dec := some true }, hC 17 true [] (RB r5) []]] (by kernel_rfl) (P1 (cs_rGood hr1) <| P2 (r1 = true) (h2) <| P1 (cs_mGood hr3) <| P2 (r3 = true) (h4) <| P1 (cs_l1All hr5) <| P0))
    (fun h4 H =>
      eW RB (fun _ => []) H <| gE func97 [rg [{ i := 2, call := some { cl := true, auto := true, ins := [], res := (RB r1), G' := [] }, dec := some true }, { i := 6, call := some { cl := true, auto := true, ins := [], res := (RB r3), G' := [] }, dec := some false }]] (by kernel_rfl) (P1 (cs_rGood hr1) <| P2 (r1 = true) (h2) <| P1 (cs_mGood hr3) <| P2 (r3 = false) (eqF h4) <| P0)))
  (fun h2 H =>
    eW RB (fun _ => []) H <| gE func97 [rg [{ i := 2, call := some { cl := true, auto := true, ins := [], res := (RB r1), G' := [] }, dec := some false }]] (by kernel_rfl) (P1 (cs_rGood hr1) <| P2 (r1 = false) (eqF h2) <| P0))
/-! loop example/g00886/spec bTerrain -/
def Rs_bTerrain (r : Gi_Terrain) : List D := [.agg [.str r.Name, sl 1 I r.Cost, I r.Shift, I r.Height, .bool r.Blocks]]
theorem cs_bTerrain {a0 : Gi_Board} {a1 : Int} {r : Gi_Terrain} (H : Ds_bTerrain a0 a1 = some r) : Ct X.P X.gl 119 [.agg [sl 5 gi_Terrain a0.Rules.Terrains, sl 6 gi_Kind a0.Rules.Kinds, I a0.Rules.Stack, I a0.Rules.River, I a0.Rules.Road, I a0.Rules.Supply, I a0.Rules.Turns, I a0.Map.Width, I a0.Map.Height, sl 1 I a0.Map.Terrain, sl 1 I a0.Map.Rivers, sl 1 I a0.Map.Roads], I a1] [] (Rs_bTerrain r) [] :=
  Ct.of func119 (c := bdy f119) (by kernel_rfl) (by kernel_rfl) <|
  eCk H fun h1 H =>
  eBind H fun x2 hx2 H =>
  eCk H fun h3 H =>
  eBind H fun x4 hx4 H =>
  eW Rs_bTerrain (fun _ => []) H <| gE func119 [r0, rg [hE 8 (I x2), hE 10 (gi_Terrain x4)]] (by kernel_rfl) (P1 h1 <| P1 (int_lt_of_at h1 hx2) <| P1 (at_map I hx2) <| P1 h3 <| P1 (int_lt_of_at h3 hx4) <| P1 (at_map gi_Terrain hx4) <| P0)
/-! loop example/g00886/spec bCost -/
theorem cs_bCost {a0 : Gi_Board} {a1 : Int} {a2 : Int} {r : Int} (H : Ds_bCost a0 a1 a2 = some r) : Ct X.P X.gl 81 [.agg [sl 5 gi_Terrain a0.Rules.Terrains, sl 6 gi_Kind a0.Rules.Kinds, I a0.Rules.Stack, I a0.Rules.River, I a0.Rules.Road, I a0.Rules.Supply, I a0.Rules.Turns, I a0.Map.Width, I a0.Map.Height, sl 1 I a0.Map.Terrain, sl 1 I a0.Map.Rivers, sl 1 I a0.Map.Roads], I a1, I a2] [] (RI r) [] :=
  Ct.of func81 (c := bdy f81) (by kernel_rfl) (by kernel_rfl) <|
  eBind H fun r1 hr1 H =>
  eCk H fun h2 H =>
  eBind H fun x3 hx3 H =>
  eW RI (fun _ => []) H <| gE func81 [r0, rg [hC 2 true [] (Rs_bTerrain r1) [], hE 6 (I x3)]] (by kernel_rfl) (P1 (cs_bTerrain hr1) <| P1 h2 <| P1 (int_lt_of_at h2 hx3) <| P1 (at_map I hx3) <| P0)
/-! loop example/g00886/spec sUnit -/
theorem cs_sUnit {a0 : Gi_Board} {a1 : Gi_Unit} {r : Bool} (H : Ds_sUnit a0 a1 = some r) : Ct X.P X.gl 113 [.agg [sl 5 gi_Terrain a0.Rules.Terrains, sl 6 gi_Kind a0.Rules.Kinds, I a0.Rules.Stack, I a0.Rules.River, I a0.Rules.Road, I a0.Rules.Supply, I a0.Rules.Turns, I a0.Map.Width, I a0.Map.Height, sl 1 I a0.Map.Terrain, sl 1 I a0.Map.Rivers, sl 1 I a0.Map.Roads], .agg [I a1.Side, I a1.Kind, I a1.At, I a1.Steps]] [] (RB r) [] :=
  Ct.of func113 (c := bdy f113) (by kernel_rfl) (by kernel_rfl) <|
  eBind H fun r1 hr1 H =>
  gS [r0] (by kernel_rfl) P0 <|
  eIf H (fun h2 H =>
    eBind H fun r3 hr3 H =>
    eIf H (fun h4 H =>
      eCk H fun h5 H =>
      eBind H fun x6 hx6 H =>
      eBind H fun r7 hr7 H =>
      eIf H (fun h8 H =>
        gS [rg [{ i := 2, call := some { cl := true, auto := true, ins := [], res := (RB r1), G' := [] }, dec := some true }, { i := 12, call := some { cl := true, auto := true, ins := [], res := (RB r3), G' := [] }, dec := some true }, hE 25 (gi_Kind x6), { i := 26, call := some { cl := true, auto := true, ins := [], res := (RB r7), G' := [] }, dec := some true }]] (by kernel_rfl) (P1 (cs_l1In hr1) <| P2 (r1 = true) (h2) <| P1 (cs_l1In hr3) <| P2 (r3 = true) (h4) <| P1 h5 <| P1 (int_lt_of_at h5 hx6) <| P1 (at_map gi_Kind hx6) <| P1 (cs_l1In hr7) <| P2 (r7 = true) (h8) <| P0) <|
        eIf H (fun h9 H =>
          eW RB (fun _ => []) H <| gE func113 [rg [hT 2]] (by kernel_rfl) (P2 (((a1.At : Int) == (-1)) = true) (beqT h9) <| P0))
        (fun h9 H =>
          eIf H (fun h10 H =>
            eBind H fun r11 hr11 H =>
            eBind H fun r12 hr12 H =>
            eIf H (fun h13 H =>
              eBind H fun r14 hr14 H =>
              eW RB (fun _ => []) H <| gE func113 [rg [hF 2, hT 6, hC 12 true [] (RI r11) [], { i := 14, call := some { cl := true, auto := true, ins := [], res := (RB r12), G' := [] }, dec := some true }, hC 22 true [] (RI r14) []]] (by kernel_rfl) (P2 (((a1.At : Int) == (-1)) = false) (beqF h9) <| P2 ((decide (a1.Steps > 0)) = true) (decide_eq_true h10) <| P1 (cs_mSize hr11) <| P1 (cs_l1In hr12) <| P2 (r12 = true) (h13) <| P1 (cs_bCost hr14) <| P0))
            (fun h13 H =>
              eW RB (fun _ => []) H <| gE func113 [rg [hF 2, hT 6, hC 12 true [] (RI r11) [], { i := 14, call := some { cl := true, auto := true, ins := [], res := (RB r12), G' := [] }, dec := some false }]] (by kernel_rfl) (P2 (((a1.At : Int) == (-1)) = false) (beqF h9) <| P2 ((decide (a1.Steps > 0)) = true) (decide_eq_true h10) <| P1 (cs_mSize hr11) <| P1 (cs_l1In hr12) <| P2 (r12 = false) (eqF h13) <| P0)))
          (fun h10 H =>
            eW RB (fun _ => []) H <| gE func113 [rg [hF 2, hF 6]] (by kernel_rfl) (P2 (((a1.At : Int) == (-1)) = false) (beqF h9) <| P2 ((decide (a1.Steps > 0)) = false) (decide_eq_false h10) <| P0))))
      (fun h8 H =>
        eW RB (fun _ => []) H <| gE func113 [rg [{ i := 2, call := some { cl := true, auto := true, ins := [], res := (RB r1), G' := [] }, dec := some true }, { i := 12, call := some { cl := true, auto := true, ins := [], res := (RB r3), G' := [] }, dec := some true }, hE 25 (gi_Kind x6), { i := 26, call := some { cl := true, auto := true, ins := [], res := (RB r7), G' := [] }, dec := some false }], r0] (by kernel_rfl) (P1 (cs_l1In hr1) <| P2 (r1 = true) (h2) <| P1 (cs_l1In hr3) <| P2 (r3 = true) (h4) <| P1 h5 <| P1 (int_lt_of_at h5 hx6) <| P1 (at_map gi_Kind hx6) <| P1 (cs_l1In hr7) <| P2 (r7 = false) (eqF h8) <| P0)))
    (fun h4 H =>
      eW RB (fun _ => []) H <| gE func113 [rg [{ i := 2, call := some { cl := true, auto := true, ins := [], res := (RB r1), G' := [] }, dec := some true }, { i := 12, call := some { cl := true, auto := true, ins := [], res := (RB r3), G' := [] }, dec := some false }], r0] (by kernel_rfl) (P1 (cs_l1In hr1) <| P2 (r1 = true) (h2) <| P1 (cs_l1In hr3) <| P2 (r3 = false) (eqF h4) <| P0)))
  (fun h2 H =>
    eW RB (fun _ => []) H <| gE func113 [rg [{ i := 2, call := some { cl := true, auto := true, ins := [], res := (RB r1), G' := [] }, dec := some false }], r0] (by kernel_rfl) (P1 (cs_l1In hr1) <| P2 (r1 = false) (eqF h2) <| P0))
/-! loop example/g00886/spec sAt -/
def Rs_sAt (r : (List Int)) : List D := [ow 1 I r]
noncomputable def Ks_sAt : Ss_sAt → List Item
  | .h1 .. => nav 300 3 [] [.code (bdy f114)]
def Zs_sAt : Ss_sAt → St
  | .h1 i0 side1 t2 t3 t4 l5 => ⟨sts 34 [(1, I i0), (2, I side1), (7, .ref 0 1 none), (11, sl 4 gi_Unit t2), (12, I t3), (13, I t4)], [some ⟨false, false, 1, l5.length, List.map I l5⟩]⟩
abbrev Qs_sAt := Nx X 114 0 Ks_sAt Zs_sAt Rs_sAt (fun _ => [])
theorem ns_sAt : ∀ s o, Bs_sAt s = some o → Qs_sAt (Ks_sAt s) (Zs_sAt s) o
  | .h1 i0 side1 t2 t3 t4 l5, o, H =>
    eIf H (fun h1 H =>
      eCk H fun h2 H =>
      eBind H fun x3 hx3 H =>
      gN [rg [hT 0], rg [hE 2 (gi_Unit x3)]] (by kernel_rfl) (P2 ((decide (t4 < t3)) = true) (decide_eq_true h1) <| P1 h2 <| P1 (int_lt_of_at h2 hx3) <| P1 (at_map gi_Unit hx3) <| P0) <|
      eIf H (fun h4 H =>
        eIf H (fun h5 H =>
          eCk H fun h6 H =>
          eN H fun r hn => gO [rg [hT 3, hT 8], rg [hA 3 ((l5 ++ [t4]).length) (List.map I (l5 ++ [t4]))], r0, .canon [3] [1, 2, 7, 11, 12, 13]] (by kernel_rfl) (P2 (((x3.At : Int) == i0) = true) (beqT h4) <| P2 (((x3.Side : Int) == side1) = true) (beqT h5) <| P1 (apL l5 [t4]) <| P1 (apB h6) <| P1 (apM I l5 [t4]) <| P0) hn)
        (fun h5 H =>
          eN H fun r hn => gO [rg [hT 3, hF 8], r0, .canon [0] [1, 2, 7, 11, 12, 13]] (by kernel_rfl) (P2 (((x3.At : Int) == i0) = true) (beqT h4) <| P2 (((x3.Side : Int) == side1) = false) (beqF h5) <| P0) hn))
      (fun h4 H =>
        eN H fun r hn => gO [rg [hF 3], r0, .canon [0] [1, 2, 7, 11, 12, 13]] (by kernel_rfl) (P2 (((x3.At : Int) == i0) = false) (beqF h4) <| P0) hn))
    (fun h1 H =>
      eN H <| gE func114 [rg [hF 0], r0] (by kernel_rfl) (P2 ((decide (t4 < t3)) = false) (decide_eq_false h1) <| P0))
theorem ws_sAt : ∀ s r, loop Bs_sAt s = some r → Wc X 114 0 (Ks_sAt s) (Zs_sAt s) (Rs_sAt r) ((fun _ => []) r) := Nx.all ns_sAt
theorem cs_sAt {a0 : Gi_State} {a1 : Int} {a2 : Int} {r : (List Int)} (H : Ds_sAt a0 a1 a2 = some r) : Ct X.P X.gl 114 [.agg [I a0.Turn, I a0.Weather, sl 4 gi_Unit a0.Units], I a1, I a2] [] (Rs_sAt r) [] :=
  Ct.of func114 (c := bdy f114) (by kernel_rfl) (by kernel_rfl) <|
  gO [r0, r0, r0, .own 7 1, .canon [1] [1, 2, 7, 11, 12, 13]] (by kernel_rfl) P0 (ws_sAt _ _ H)
/-! loop example/g00886/spec sGood -/
noncomputable def Ks_sGood : Ss_sGood → List Item
  | .h1 .. => nav 300 3 [false] [.code (bdy f78)]
  | .h2 .. => nav 300 5 [false, false] [.code (bdy f78)]
def Zs_sGood : Ss_sGood → St
  | .h1 t0 t1 t2 b3 b4 => ⟨sts 80 [(2, .ptr 0 12 0 0), (3, .ptr 1 3 0 0), (34, sl 4 gi_Unit t0), (35, I t1), (36, I t2)], [some ⟨false, true, 12, 1, [.agg [sl 5 gi_Terrain b3.Rules.Terrains, sl 6 gi_Kind b3.Rules.Kinds, I b3.Rules.Stack, I b3.Rules.River, I b3.Rules.Road, I b3.Rules.Supply, I b3.Rules.Turns, I b3.Map.Width, I b3.Map.Height, sl 1 I b3.Map.Terrain, sl 1 I b3.Map.Rivers, sl 1 I b3.Map.Roads]]⟩, some ⟨false, true, 3, 1, [.agg [I b4.Turn, I b4.Weather, sl 4 gi_Unit b4.Units]]⟩]⟩
  | .h2 t0 t1 t2 b3 b4 => ⟨sts 80 [(2, .ptr 0 12 0 0), (3, .ptr 1 3 0 0), (46, sl 4 gi_Unit t0), (47, I t1), (48, I t2)], [some ⟨false, true, 12, 1, [.agg [sl 5 gi_Terrain b3.Rules.Terrains, sl 6 gi_Kind b3.Rules.Kinds, I b3.Rules.Stack, I b3.Rules.River, I b3.Rules.Road, I b3.Rules.Supply, I b3.Rules.Turns, I b3.Map.Width, I b3.Map.Height, sl 1 I b3.Map.Terrain, sl 1 I b3.Map.Rivers, sl 1 I b3.Map.Roads]]⟩, some ⟨false, true, 3, 1, [.agg [I b4.Turn, I b4.Weather, sl 4 gi_Unit b4.Units]]⟩]⟩
abbrev Qs_sGood := Nx X 78 0 Ks_sGood Zs_sGood RB (fun _ => [])
theorem ns_sGood : ∀ s o, Bs_sGood s = some o → Qs_sGood (Ks_sGood s) (Zs_sGood s) o
  | .h1 t0 t1 t2 b3 b4, o, H =>
    eIf H (fun h1 H =>
      eCk H fun h2 H =>
      eBind H fun x3 hx3 H =>
      eBind H fun r4 hr4 H =>
      gN [rg [hT 0], rg [hE 1 (gi_Unit x3)]] (by kernel_rfl) (P2 ((decide (t2 < t1)) = true) (decide_eq_true h1) <| P1 h2 <| P1 (int_lt_of_at h2 hx3) <| P1 (at_map gi_Unit hx3) <| P0) <|
      eIf H (fun h5 H =>
        eN H fun r hn => gO [rg [{ i := 2, call := some { cl := true, auto := true, ins := [], res := (RB r4), G' := [] }, dec := some true }], r0, .canon [0, 1] [2, 3, 34, 35, 36]] (by kernel_rfl) (P1 (cs_sUnit hr4) <| P2 (r4 = true) (h5) <| P0) hn)
      (fun h5 H =>
        eN H <| gE func78 [rg [{ i := 2, call := some { cl := true, auto := true, ins := [], res := (RB r4), G' := [] }, dec := some false }], r0] (by kernel_rfl) (P1 (cs_sUnit hr4) <| P2 (r4 = false) (eqF h5) <| P0)))
    (fun h1 H =>
      eN H fun r hn => gO [rg [hF 0], r0, .canon [0, 1] [2, 3, 46, 47, 48]] (by kernel_rfl) (P2 ((decide (t2 < t1)) = false) (decide_eq_false h1) <| P0) hn)
  | .h2 t0 t1 t2 b3 b4, o, H =>
    eIf H (fun h1 H =>
      eCk H fun h2 H =>
      eBind H fun x3 hx3 H =>
      gN [rg [hT 0], rg [hE 1 (gi_Unit x3)]] (by kernel_rfl) (P2 ((decide (t2 < t1)) = true) (decide_eq_true h1) <| P1 h2 <| P1 (int_lt_of_at h2 hx3) <| P1 (at_map gi_Unit hx3) <| P0) <|
      eIf H (fun h4 H =>
        eBind H fun r5 hr5 H =>
        eIf H (fun h6 H =>
          eN H <| gE func78 [rg [hT 2, hC 10 true [] (Rs_sAt r5) [], hT 12], r0] (by kernel_rfl) (P2 ((decide (x3.At ≥ 0)) = true) (decide_eq_true h4) <| P1 (cs_sAt hr5) <| P2 ((decide (((r5.length : Nat) : Int) > 0)) = true) (decide_eq_true h6) <| P0))
        (fun h6 H =>
          eBind H fun r7 hr7 H =>
          eIf H (fun h8 H =>
            eN H <| gE func78 [rg [hT 2, hC 10 true [] (Rs_sAt r5) [], hF 12, hC 19 true [] (Rs_sAt r7) [], hT 24], r0] (by kernel_rfl) (P2 ((decide (x3.At ≥ 0)) = true) (decide_eq_true h4) <| P1 (cs_sAt hr5) <| P2 ((decide (((r5.length : Nat) : Int) > 0)) = false) (decide_eq_false h6) <| P1 (cs_sAt hr7) <| P2 ((decide (((r7.length : Nat) : Int) > b3.Rules.Stack)) = true) (decide_eq_true h8) <| P0))
          (fun h8 H =>
            eN H fun r hn => gO [rg [hT 2, hC 10 true [] (Rs_sAt r5) [], hF 12, hC 19 true [] (Rs_sAt r7) [], hF 24], r0, .canon [0, 1] [2, 3, 46, 47, 48]] (by kernel_rfl) (P2 ((decide (x3.At ≥ 0)) = true) (decide_eq_true h4) <| P1 (cs_sAt hr5) <| P2 ((decide (((r5.length : Nat) : Int) > 0)) = false) (decide_eq_false h6) <| P1 (cs_sAt hr7) <| P2 ((decide (((r7.length : Nat) : Int) > b3.Rules.Stack)) = false) (decide_eq_false h8) <| P0) hn)))
      (fun h4 H =>
        eN H fun r hn => gO [rg [hF 2], r0, .canon [0, 1] [2, 3, 46, 47, 48]] (by kernel_rfl) (P2 ((decide (x3.At ≥ 0)) = false) (decide_eq_false h4) <| P0) hn))
    (fun h1 H =>
      eN H <| gE func78 [rg [hF 0], r0] (by kernel_rfl) (P2 ((decide (t2 < t1)) = false) (decide_eq_false h1) <| P0))
theorem ws_sGood : ∀ s r, loop Bs_sGood s = some r → Wc X 78 0 (Ks_sGood s) (Zs_sGood s) (RB r) ((fun _ => []) r) := Nx.all ns_sGood
theorem cs_sGood {a0 : Gi_Board} {a1 : Gi_State} {r : Bool} (H : Ds_sGood a0 a1 = some r) : Ct X.P X.gl 78 [.agg [sl 5 gi_Terrain a0.Rules.Terrains, sl 6 gi_Kind a0.Rules.Kinds, I a0.Rules.Stack, I a0.Rules.River, I a0.Rules.Road, I a0.Rules.Supply, I a0.Rules.Turns, I a0.Map.Width, I a0.Map.Height, sl 1 I a0.Map.Terrain, sl 1 I a0.Map.Rivers, sl 1 I a0.Map.Roads], .agg [I a1.Turn, I a1.Weather, sl 4 gi_Unit a1.Units]] [] (RB r) [] :=
  Ct.of func78 (c := bdy f78) (by kernel_rfl) (by kernel_rfl) <|
  eBind H fun r1 hr1 H =>
  gS [r0] (by kernel_rfl) P0 <|
  eIf H (fun h2 H =>
    eBind H fun r3 hr3 H =>
    eIf H (fun h4 H =>
      eBind H fun r5 hr5 H =>
      eIf H (fun h6 H =>
        eIf H (fun h7 H =>
          eW RB (fun _ => []) H <| gE func78 [rg [{ i := 1, call := some { cl := true, auto := true, ins := [], res := (RB r1), G' := [] }, dec := some true }, { i := 9, call := some { cl := true, auto := true, ins := [], res := (RB r3), G' := [] }, dec := some true }, { i := 15, call := some { cl := true, auto := true, ins := [], res := (RB r5), G' := [] }, dec := some true }, hT 22], r0] (by kernel_rfl) (P1 (cs_bGood hr1) <| P2 (r1 = true) (h2) <| P1 (cs_l1In hr3) <| P2 (r3 = true) (h4) <| P1 (cs_l1In hr5) <| P2 (r5 = true) (h6) <| P2 ((decide (((a1.Units.length : Nat) : Int) > 12)) = true) (decide_eq_true h7) <| P0))
        (fun h7 H =>
          gO [rg [{ i := 1, call := some { cl := true, auto := true, ins := [], res := (RB r1), G' := [] }, dec := some true }, { i := 9, call := some { cl := true, auto := true, ins := [], res := (RB r3), G' := [] }, dec := some true }, { i := 15, call := some { cl := true, auto := true, ins := [], res := (RB r5), G' := [] }, dec := some true }, hF 22], r0, .canon [0, 1] [2, 3, 34, 35, 36]] (by kernel_rfl) (P1 (cs_bGood hr1) <| P2 (r1 = true) (h2) <| P1 (cs_l1In hr3) <| P2 (r3 = true) (h4) <| P1 (cs_l1In hr5) <| P2 (r5 = true) (h6) <| P2 ((decide (((a1.Units.length : Nat) : Int) > 12)) = false) (decide_eq_false h7) <| P0) (ws_sGood _ _ H)))
      (fun h6 H =>
        eW RB (fun _ => []) H <| gE func78 [rg [{ i := 1, call := some { cl := true, auto := true, ins := [], res := (RB r1), G' := [] }, dec := some true }, { i := 9, call := some { cl := true, auto := true, ins := [], res := (RB r3), G' := [] }, dec := some true }, { i := 15, call := some { cl := true, auto := true, ins := [], res := (RB r5), G' := [] }, dec := some false }], r0] (by kernel_rfl) (P1 (cs_bGood hr1) <| P2 (r1 = true) (h2) <| P1 (cs_l1In hr3) <| P2 (r3 = true) (h4) <| P1 (cs_l1In hr5) <| P2 (r5 = false) (eqF h6) <| P0)))
    (fun h4 H =>
      eW RB (fun _ => []) H <| gE func78 [rg [{ i := 1, call := some { cl := true, auto := true, ins := [], res := (RB r1), G' := [] }, dec := some true }, { i := 9, call := some { cl := true, auto := true, ins := [], res := (RB r3), G' := [] }, dec := some false }], r0] (by kernel_rfl) (P1 (cs_bGood hr1) <| P2 (r1 = true) (h2) <| P1 (cs_l1In hr3) <| P2 (r3 = false) (eqF h4) <| P0)))
  (fun h2 H =>
    eW RB (fun _ => []) H <| gE func78 [rg [{ i := 1, call := some { cl := true, auto := true, ins := [], res := (RB r1), G' := [] }, dec := some false }], r0] (by kernel_rfl) (P1 (cs_bGood hr1) <| P2 (r1 = false) (eqF h2) <| P0))
/-! loop example/g00886/spec l1Most -/
theorem cs_l1Most {a0 : Int} {a1 : Int} {r : Int} (H : Ds_l1Most a0 a1 = some r) : Ct X.P X.gl 152 [I a0, I a1] [] (RI r) [] :=
  Ct.of func152 (c := bdy f152) (by kernel_rfl) (by kernel_rfl) <|
  gS [r0] (by kernel_rfl) P0 <|
  eIf H (fun h1 H =>
    eW RI (fun _ => []) H <| gE func152 [rg [hT 2], r0] (by kernel_rfl) (P2 ((decide (a0 > a1)) = true) (decide_eq_true h1) <| P0))
  (fun h1 H =>
    eW RI (fun _ => []) H <| gE func152 [rg [hF 2], r0] (by kernel_rfl) (P2 ((decide (a0 > a1)) = false) (decide_eq_false h1) <| P0))
/-!   loop example/g00886/spec l1Cur  place -/
def Rs_l1Cur_place (r : Int × Gs_l1Cur) : List D := [I r.1]
def Ns_l1Cur_place (r : Int × Gs_l1Cur) : List Root := [⟨false, true, 3, 1, [.agg [sl 1 (D.int .u8) r.2.code, I r.2.at_, .int .u64 r.2.seed]]⟩]
theorem cs_l1Cur_place {a0 : Gs_l1Cur} {a1 : Gi_Map} {r : Int × Gs_l1Cur} (H : Ds_l1Cur_place a0 a1 = some r) : Ct X.P X.gl 101 [.ptr 0 3 0 0, .agg [I a1.Width, I a1.Height, sl 1 I a1.Terrain, sl 1 I a1.Rivers, sl 1 I a1.Roads]] [⟨false, true, 3, 1, [.agg [sl 1 (D.int .u8) a0.code, I a0.at_, .int .u64 a0.seed]]⟩] (Rs_l1Cur_place r) (Ns_l1Cur_place r) :=
  Ct.of func101 (c := bdy f101) (by kernel_rfl) (by kernel_rfl) <|
  eBind H fun r1 hr1 H =>
  gS [r0] (by kernel_rfl) P0 <|
  eIf H (fun h2 H =>
    eBind H fun r3 hr3 H =>
    eBind H fun r4 hr4 H =>
    eW Rs_l1Cur_place Ns_l1Cur_place H <| gE func101 [rg [{ i := 1, call := some { cl := true, auto := true, ins := [0], res := (Rs_l1Cur_one r1), G' := (Ns_l1Cur_one r1) }, dec := some true }], rg [hC 2 true [] (RI r3) [], { i := 4, frz := [2], call := some { cl := true, auto := true, ins := [0], res := (Rs_l1Cur_among r4), G' := (Ns_l1Cur_among r4) } }]] (by kernel_rfl) (PI (1 : Nat) <| P1 (cs_l1Cur_one hr1) <| P2 (r1.1 = true) (h2) <| P1 (cs_mSize hr3) <| PI (1 : Nat) <| P1 (cs_l1Cur_among hr4) <| P0))
  (fun h2 H =>
    eBind H fun r3 hr3 H =>
    eBind H fun r4 hr4 H =>
    eBind H fun r5 hr5 H =>
    eW Rs_l1Cur_place Ns_l1Cur_place H <| gE func101 [rg [{ i := 1, call := some { cl := true, auto := true, ins := [0], res := (Rs_l1Cur_one r1), G' := (Ns_l1Cur_one r1) }, dec := some false }], rg [hC 2 true [] (RI r3) [], hC 3 true [] (RI r4) [], hC 4 true [0] (Rs_l1Cur_pick r5) (Ns_l1Cur_pick r5)]] (by kernel_rfl) (PI (1 : Nat) <| P1 (cs_l1Cur_one hr1) <| P2 (r1.1 = false) (eqF h2) <| P1 (cs_mSize hr3) <| P1 (cs_l1Most hr4) <| PI (1 : Nat) <| P1 (cs_l1Cur_pick hr5) <| P0))
/-!   loop example/g00886/spec l1Cur  state -/
def Rs_l1Cur_state (r : Gi_State × Gs_l1Cur) : List D := [.agg [I r.1.Turn, I r.1.Weather, ow 4 gi_Unit r.1.Units]]
def Ns_l1Cur_state (r : Gi_State × Gs_l1Cur) : List Root := [⟨false, true, 3, 1, [.agg [sl 1 (D.int .u8) r.2.code, I r.2.at_, .int .u64 r.2.seed]]⟩]
noncomputable def Ks_l1Cur_state : Ss_l1Cur_state → List Item
  | .h1 .. => nav 300 3 [] [.code (bdy f153)]
  | .h2 .. => nav 300 10 [true, false, false] [.code (bdy f153)]
def Zs_l1Cur_state : Ss_l1Cur_state → St
  | .h1 t0 b1 b2 b3 b4 b5 b6 => ⟨sts 73 [(0, .ptr 0 3 0 0), (3, .ptr 1 12 0 0), (4, .ptr 2 3 0 0), (5, .ptr 3 3 0 0), (6, I t0)], [some ⟨false, true, 3, 1, [.agg [sl 1 (D.int .u8) b1.code, I b1.at_, .int .u64 b1.seed]]⟩, some ⟨false, true, 12, 1, [.agg [sl 5 gi_Terrain b2.Rules.Terrains, sl 6 gi_Kind b2.Rules.Kinds, I b2.Rules.Stack, I b2.Rules.River, I b2.Rules.Road, I b2.Rules.Supply, I b2.Rules.Turns, I b2.Map.Width, I b2.Map.Height, sl 1 I b2.Map.Terrain, sl 1 I b2.Map.Rivers, sl 1 I b2.Map.Roads]]⟩, some ⟨false, true, 3, 1, [.agg [I b3, I b4, .nil]]⟩, some ⟨false, true, 3, 1, [.agg [I b5, I b6, .nil]]⟩]⟩
  | .h2 t0 b1 b2 b3 b4 b5 b6 l7 => ⟨sts 73 [(0, .ptr 0 3 0 0), (3, .ptr 1 12 0 0), (4, .ptr 2 3 0 0), (5, .ptr 3 3 0 0), (6, I t0)], [some ⟨false, true, 3, 1, [.agg [sl 1 (D.int .u8) b1.code, I b1.at_, .int .u64 b1.seed]]⟩, some ⟨false, true, 12, 1, [.agg [sl 5 gi_Terrain b2.Rules.Terrains, sl 6 gi_Kind b2.Rules.Kinds, I b2.Rules.Stack, I b2.Rules.River, I b2.Rules.Road, I b2.Rules.Supply, I b2.Rules.Turns, I b2.Map.Width, I b2.Map.Height, sl 1 I b2.Map.Terrain, sl 1 I b2.Map.Rivers, sl 1 I b2.Map.Roads]]⟩, some ⟨false, true, 3, 1, [.agg [I b3, I b4, .nil]]⟩, some ⟨false, true, 3, 1, [.agg [I b5, I b6, .ref 4 4 none]]⟩, some ⟨false, false, 4, l7.length, List.map gi_Unit l7⟩]⟩
abbrev Qs_l1Cur_state := Nx X 153 1 Ks_l1Cur_state Zs_l1Cur_state Rs_l1Cur_state Ns_l1Cur_state
theorem ns_l1Cur_state : ∀ s o, Bs_l1Cur_state s = some o → Qs_l1Cur_state (Ks_l1Cur_state s) (Zs_l1Cur_state s) o
  | .h1 t0 b1 b2 b3 b4 b5 b6, o, H =>
    eIf H (fun h1 H =>
      eBind H fun r2 hr2 H =>
      eBind H fun r3 hr3 H =>
      eCk H fun h4 H =>
      eBind H fun x5 hx5 H =>
      eBind H fun r6 hr6 H =>
      eBind H fun r7 hr7 H =>
      gN [rg [hT 1], rg [hC 1 true [0] (Rs_l1Cur_pick r2) (Ns_l1Cur_pick r2), hC 7 true [0] (Rs_l1Cur_pick r3) (Ns_l1Cur_pick r3)], rg [hE 8 (gi_Kind x5), hC 9 true [0] (Rs_l1Cur_pick r6) (Ns_l1Cur_pick r6)]] (by kernel_rfl) (P2 ((decide (t0 > 0)) = true) (decide_eq_true h1) <| PI (1 : Nat) <| P1 (cs_l1Cur_pick hr2) <| PI (1 : Nat) <| P1 (cs_l1Cur_pick hr3) <| P1 h4 <| P1 (int_lt_of_at h4 hx5) <| P1 (at_map gi_Kind hx5) <| PI (1 : Nat) <| P1 (cs_l1Cur_pick hr6) <| P0) <|
      eIf H (fun h8 H =>
        eCk H fun h9 H =>
        eBind H fun r10 hr10 H =>
        gN [rg [{ i := 1, call := some { cl := true, auto := true, ins := [0], res := (Rs_l1Cur_one r7), G' := (Ns_l1Cur_one r7) }, dec := some true }], rg [hA 4 ([(Gi_Unit.mk r2.1 r3.1 (-1) (IntKind.wrap .i64 (1 + r6.1)))].length) (List.map gi_Unit [(Gi_Unit.mk r2.1 r3.1 (-1) (IntKind.wrap .i64 (1 + r6.1)))])]] (by kernel_rfl) (PI (1 : Nat) <| P1 (cs_l1Cur_one hr7) <| P2 (r7.1 = true) (h8) <| P2 ([(Gi_Unit.mk r2.1 r3.1 (-1) (IntKind.wrap .i64 (1 + r6.1)))].length = 0 + [(Gi_Unit.mk r2.1 r3.1 (-1) (IntKind.wrap .i64 (1 + r6.1)))].length) (by simp <;> omega) <| P2 ((0 + [(Gi_Unit.mk r2.1 r3.1 (-1) (IntKind.wrap .i64 (1 + r6.1)))].length) * 32 ≤ 70368744177664) (by have := h9; simp at this ⊢ <;> omega) <| P2 (([] : List D) ++ List.map gi_Unit [(Gi_Unit.mk r2.1 r3.1 (-1) (IntKind.wrap .i64 (1 + r6.1)))] = List.map gi_Unit [(Gi_Unit.mk r2.1 r3.1 (-1) (IntKind.wrap .i64 (1 + r6.1)))]) (by simp) <| P0) <|
        eIf H (fun h11 H =>
          eN H fun r hn => gO [rg [{ i := 2, call := some { cl := false, auto := true, ins := [], res := (RB r10), G' := [] }, dec := some true }], r0, .canon [0, 1, 2, 3, 6] [0, 3, 4, 5, 6]] (by kernel_rfl) (P1 (cs_sGood hr10) <| P2 (r10 = true) (h11) <| P0) hn)
        (fun h11 H =>
          eCk H fun h12 H =>
          eBind H fun x13 hx13 H =>
          eN H fun r hn => gO [rg [{ i := 2, call := some { cl := false, auto := true, ins := [], res := (RB r10), G' := [] }, dec := some false }], rg [hA 8 ((List.set [(Gi_Unit.mk r2.1 r3.1 (-1) (IntKind.wrap .i64 (1 + r6.1)))] (Int.toNat (IntKind.wrap .i64 ((([(Gi_Unit.mk r2.1 r3.1 (-1) (IntKind.wrap .i64 (1 + r6.1)))].length : Nat) : Int) - 1))) (Gi_Unit.mk x13.Side x13.Kind (-1) x13.Steps)).length) (List.map gi_Unit (List.set [(Gi_Unit.mk r2.1 r3.1 (-1) (IntKind.wrap .i64 (1 + r6.1)))] (Int.toNat (IntKind.wrap .i64 ((([(Gi_Unit.mk r2.1 r3.1 (-1) (IntKind.wrap .i64 (1 + r6.1)))].length : Nat) : Int) - 1))) (Gi_Unit.mk x13.Side x13.Kind (-1) x13.Steps)))], r0, .canon [0, 1, 2, 3, 6] [0, 3, 4, 5, 6]] (by kernel_rfl) (P1 (cs_sGood hr10) <| P2 (r10 = false) (eqF h11) <| P1 h12 <| P1 (int_lt_of_at h12 hx13) <| P1 (lt_of_at hx13) <| P2 (setCells (List.map gi_Unit [(Gi_Unit.mk r2.1 r3.1 (-1) (IntKind.wrap .i64 (1 + r6.1)))]) (Int.toNat (IntKind.wrap .i64 ((([(Gi_Unit.mk r2.1 r3.1 (-1) (IntKind.wrap .i64 (1 + r6.1)))].length : Nat) : Int) - 1))) 2 [I (-1)] = List.map gi_Unit (List.set [(Gi_Unit.mk r2.1 r3.1 (-1) (IntKind.wrap .i64 (1 + r6.1)))] (Int.toNat (IntKind.wrap .i64 ((([(Gi_Unit.mk r2.1 r3.1 (-1) (IntKind.wrap .i64 (1 + r6.1)))].length : Nat) : Int) - 1))) (Gi_Unit.mk x13.Side x13.Kind (-1) x13.Steps))) (setCells_map hx13 rfl) <| P1 (setLen [(Gi_Unit.mk r2.1 r3.1 (-1) (IntKind.wrap .i64 (1 + r6.1)))] (Int.toNat (IntKind.wrap .i64 ((([(Gi_Unit.mk r2.1 r3.1 (-1) (IntKind.wrap .i64 (1 + r6.1)))].length : Nat) : Int) - 1))) (Gi_Unit.mk x13.Side x13.Kind (-1) x13.Steps)) <| P0) hn))
      (fun h8 H =>
        eBind H fun r9 hr9 H =>
        eCk H fun h10 H =>
        eBind H fun r11 hr11 H =>
        gN [rg [{ i := 1, call := some { cl := true, auto := true, ins := [0], res := (Rs_l1Cur_one r7), G' := (Ns_l1Cur_one r7) }, dec := some false }], rg [hC 3 true [0] (Rs_l1Cur_place r9) (Ns_l1Cur_place r9)], rg [hA 4 ([(Gi_Unit.mk r2.1 r3.1 r9.1 (IntKind.wrap .i64 (1 + r6.1)))].length) (List.map gi_Unit [(Gi_Unit.mk r2.1 r3.1 r9.1 (IntKind.wrap .i64 (1 + r6.1)))])]] (by kernel_rfl) (PI (1 : Nat) <| P1 (cs_l1Cur_one hr7) <| P2 (r7.1 = false) (eqF h8) <| PI (1 : Nat) <| P1 (cs_l1Cur_place hr9) <| P2 ([(Gi_Unit.mk r2.1 r3.1 r9.1 (IntKind.wrap .i64 (1 + r6.1)))].length = 0 + [(Gi_Unit.mk r2.1 r3.1 r9.1 (IntKind.wrap .i64 (1 + r6.1)))].length) (by simp <;> omega) <| P2 ((0 + [(Gi_Unit.mk r2.1 r3.1 r9.1 (IntKind.wrap .i64 (1 + r6.1)))].length) * 32 ≤ 70368744177664) (by have := h10; simp at this ⊢ <;> omega) <| P2 (([] : List D) ++ List.map gi_Unit [(Gi_Unit.mk r2.1 r3.1 r9.1 (IntKind.wrap .i64 (1 + r6.1)))] = List.map gi_Unit [(Gi_Unit.mk r2.1 r3.1 r9.1 (IntKind.wrap .i64 (1 + r6.1)))]) (by simp) <| P0) <|
        eIf H (fun h12 H =>
          eN H fun r hn => gO [rg [{ i := 2, call := some { cl := false, auto := true, ins := [], res := (RB r11), G' := [] }, dec := some true }], r0, .canon [0, 1, 2, 3, 6] [0, 3, 4, 5, 6]] (by kernel_rfl) (P1 (cs_sGood hr11) <| P2 (r11 = true) (h12) <| P0) hn)
        (fun h12 H =>
          eCk H fun h13 H =>
          eBind H fun x14 hx14 H =>
          eN H fun r hn => gO [rg [{ i := 2, call := some { cl := false, auto := true, ins := [], res := (RB r11), G' := [] }, dec := some false }], rg [hA 8 ((List.set [(Gi_Unit.mk r2.1 r3.1 r9.1 (IntKind.wrap .i64 (1 + r6.1)))] (Int.toNat (IntKind.wrap .i64 ((([(Gi_Unit.mk r2.1 r3.1 r9.1 (IntKind.wrap .i64 (1 + r6.1)))].length : Nat) : Int) - 1))) (Gi_Unit.mk x14.Side x14.Kind (-1) x14.Steps)).length) (List.map gi_Unit (List.set [(Gi_Unit.mk r2.1 r3.1 r9.1 (IntKind.wrap .i64 (1 + r6.1)))] (Int.toNat (IntKind.wrap .i64 ((([(Gi_Unit.mk r2.1 r3.1 r9.1 (IntKind.wrap .i64 (1 + r6.1)))].length : Nat) : Int) - 1))) (Gi_Unit.mk x14.Side x14.Kind (-1) x14.Steps)))], r0, .canon [0, 1, 2, 3, 6] [0, 3, 4, 5, 6]] (by kernel_rfl) (P1 (cs_sGood hr11) <| P2 (r11 = false) (eqF h12) <| P1 h13 <| P1 (int_lt_of_at h13 hx14) <| P1 (lt_of_at hx14) <| P2 (setCells (List.map gi_Unit [(Gi_Unit.mk r2.1 r3.1 r9.1 (IntKind.wrap .i64 (1 + r6.1)))]) (Int.toNat (IntKind.wrap .i64 ((([(Gi_Unit.mk r2.1 r3.1 r9.1 (IntKind.wrap .i64 (1 + r6.1)))].length : Nat) : Int) - 1))) 2 [I (-1)] = List.map gi_Unit (List.set [(Gi_Unit.mk r2.1 r3.1 r9.1 (IntKind.wrap .i64 (1 + r6.1)))] (Int.toNat (IntKind.wrap .i64 ((([(Gi_Unit.mk r2.1 r3.1 r9.1 (IntKind.wrap .i64 (1 + r6.1)))].length : Nat) : Int) - 1))) (Gi_Unit.mk x14.Side x14.Kind (-1) x14.Steps))) (setCells_map hx14 rfl) <| P1 (setLen [(Gi_Unit.mk r2.1 r3.1 r9.1 (IntKind.wrap .i64 (1 + r6.1)))] (Int.toNat (IntKind.wrap .i64 ((([(Gi_Unit.mk r2.1 r3.1 r9.1 (IntKind.wrap .i64 (1 + r6.1)))].length : Nat) : Int) - 1))) (Gi_Unit.mk x14.Side x14.Kind (-1) x14.Steps)) <| P0) hn)))
    (fun h1 H =>
      eN H <| gE func153 [rg [hF 1], r0] (by kernel_rfl) (P2 ((decide (t0 > 0)) = false) (decide_eq_false h1) <| P0))
  | .h2 t0 b1 b2 b3 b4 b5 b6 l7, o, H =>
    eIf H (fun h1 H =>
      eBind H fun r2 hr2 H =>
      eBind H fun r3 hr3 H =>
      eCk H fun h4 H =>
      eBind H fun x5 hx5 H =>
      eBind H fun r6 hr6 H =>
      eBind H fun r7 hr7 H =>
      gN [rg [hT 1], rg [hC 1 true [0] (Rs_l1Cur_pick r2) (Ns_l1Cur_pick r2), hC 7 true [0] (Rs_l1Cur_pick r3) (Ns_l1Cur_pick r3)], rg [hE 8 (gi_Kind x5), hC 9 true [0] (Rs_l1Cur_pick r6) (Ns_l1Cur_pick r6)]] (by kernel_rfl) (P2 ((decide (t0 > 0)) = true) (decide_eq_true h1) <| PI (1 : Nat) <| P1 (cs_l1Cur_pick hr2) <| PI (1 : Nat) <| P1 (cs_l1Cur_pick hr3) <| P1 h4 <| P1 (int_lt_of_at h4 hx5) <| P1 (at_map gi_Kind hx5) <| PI (1 : Nat) <| P1 (cs_l1Cur_pick hr6) <| P0) <|
      eIf H (fun h8 H =>
        eCk H fun h9 H =>
        eBind H fun r10 hr10 H =>
        gN [rg [{ i := 1, call := some { cl := true, auto := true, ins := [0], res := (Rs_l1Cur_one r7), G' := (Ns_l1Cur_one r7) }, dec := some true }], rg [hA 4 ((l7 ++ [(Gi_Unit.mk r2.1 r3.1 (-1) (IntKind.wrap .i64 (1 + r6.1)))]).length) (List.map gi_Unit (l7 ++ [(Gi_Unit.mk r2.1 r3.1 (-1) (IntKind.wrap .i64 (1 + r6.1)))]))]] (by kernel_rfl) (PI (1 : Nat) <| P1 (cs_l1Cur_one hr7) <| P2 (r7.1 = true) (h8) <| P1 (apL l7 [(Gi_Unit.mk r2.1 r3.1 (-1) (IntKind.wrap .i64 (1 + r6.1)))]) <| P1 (apB h9) <| P1 (apM gi_Unit l7 [(Gi_Unit.mk r2.1 r3.1 (-1) (IntKind.wrap .i64 (1 + r6.1)))]) <| P0) <|
        eIf H (fun h11 H =>
          eN H fun r hn => gO [rg [{ i := 2, call := some { cl := false, auto := true, ins := [], res := (RB r10), G' := [] }, dec := some true }], r0, .canon [0, 1, 2, 3, 7] [0, 3, 4, 5, 6]] (by kernel_rfl) (P1 (cs_sGood hr10) <| P2 (r10 = true) (h11) <| P0) hn)
        (fun h11 H =>
          eCk H fun h12 H =>
          eBind H fun x13 hx13 H =>
          eN H fun r hn => gO [rg [{ i := 2, call := some { cl := false, auto := true, ins := [], res := (RB r10), G' := [] }, dec := some false }], rg [hA 8 ((List.set (l7 ++ [(Gi_Unit.mk r2.1 r3.1 (-1) (IntKind.wrap .i64 (1 + r6.1)))]) (Int.toNat (IntKind.wrap .i64 ((((l7 ++ [(Gi_Unit.mk r2.1 r3.1 (-1) (IntKind.wrap .i64 (1 + r6.1)))]).length : Nat) : Int) - 1))) (Gi_Unit.mk x13.Side x13.Kind (-1) x13.Steps)).length) (List.map gi_Unit (List.set (l7 ++ [(Gi_Unit.mk r2.1 r3.1 (-1) (IntKind.wrap .i64 (1 + r6.1)))]) (Int.toNat (IntKind.wrap .i64 ((((l7 ++ [(Gi_Unit.mk r2.1 r3.1 (-1) (IntKind.wrap .i64 (1 + r6.1)))]).length : Nat) : Int) - 1))) (Gi_Unit.mk x13.Side x13.Kind (-1) x13.Steps)))], r0, .canon [0, 1, 2, 3, 7] [0, 3, 4, 5, 6]] (by kernel_rfl) (P1 (cs_sGood hr10) <| P2 (r10 = false) (eqF h11) <| P1 h12 <| P1 (int_lt_of_at h12 hx13) <| P1 (lt_of_at hx13) <| P2 (setCells (List.map gi_Unit (l7 ++ [(Gi_Unit.mk r2.1 r3.1 (-1) (IntKind.wrap .i64 (1 + r6.1)))])) (Int.toNat (IntKind.wrap .i64 ((((l7 ++ [(Gi_Unit.mk r2.1 r3.1 (-1) (IntKind.wrap .i64 (1 + r6.1)))]).length : Nat) : Int) - 1))) 2 [I (-1)] = List.map gi_Unit (List.set (l7 ++ [(Gi_Unit.mk r2.1 r3.1 (-1) (IntKind.wrap .i64 (1 + r6.1)))]) (Int.toNat (IntKind.wrap .i64 ((((l7 ++ [(Gi_Unit.mk r2.1 r3.1 (-1) (IntKind.wrap .i64 (1 + r6.1)))]).length : Nat) : Int) - 1))) (Gi_Unit.mk x13.Side x13.Kind (-1) x13.Steps))) (setCells_map hx13 rfl) <| P1 (setLen (l7 ++ [(Gi_Unit.mk r2.1 r3.1 (-1) (IntKind.wrap .i64 (1 + r6.1)))]) (Int.toNat (IntKind.wrap .i64 ((((l7 ++ [(Gi_Unit.mk r2.1 r3.1 (-1) (IntKind.wrap .i64 (1 + r6.1)))]).length : Nat) : Int) - 1))) (Gi_Unit.mk x13.Side x13.Kind (-1) x13.Steps)) <| P0) hn))
      (fun h8 H =>
        eBind H fun r9 hr9 H =>
        eCk H fun h10 H =>
        eBind H fun r11 hr11 H =>
        gN [rg [{ i := 1, call := some { cl := true, auto := true, ins := [0], res := (Rs_l1Cur_one r7), G' := (Ns_l1Cur_one r7) }, dec := some false }], rg [hC 3 true [0] (Rs_l1Cur_place r9) (Ns_l1Cur_place r9)], rg [hA 4 ((l7 ++ [(Gi_Unit.mk r2.1 r3.1 r9.1 (IntKind.wrap .i64 (1 + r6.1)))]).length) (List.map gi_Unit (l7 ++ [(Gi_Unit.mk r2.1 r3.1 r9.1 (IntKind.wrap .i64 (1 + r6.1)))]))]] (by kernel_rfl) (PI (1 : Nat) <| P1 (cs_l1Cur_one hr7) <| P2 (r7.1 = false) (eqF h8) <| PI (1 : Nat) <| P1 (cs_l1Cur_place hr9) <| P1 (apL l7 [(Gi_Unit.mk r2.1 r3.1 r9.1 (IntKind.wrap .i64 (1 + r6.1)))]) <| P1 (apB h10) <| P1 (apM gi_Unit l7 [(Gi_Unit.mk r2.1 r3.1 r9.1 (IntKind.wrap .i64 (1 + r6.1)))]) <| P0) <|
        eIf H (fun h12 H =>
          eN H fun r hn => gO [rg [{ i := 2, call := some { cl := false, auto := true, ins := [], res := (RB r11), G' := [] }, dec := some true }], r0, .canon [0, 1, 2, 3, 7] [0, 3, 4, 5, 6]] (by kernel_rfl) (P1 (cs_sGood hr11) <| P2 (r11 = true) (h12) <| P0) hn)
        (fun h12 H =>
          eCk H fun h13 H =>
          eBind H fun x14 hx14 H =>
          eN H fun r hn => gO [rg [{ i := 2, call := some { cl := false, auto := true, ins := [], res := (RB r11), G' := [] }, dec := some false }], rg [hA 8 ((List.set (l7 ++ [(Gi_Unit.mk r2.1 r3.1 r9.1 (IntKind.wrap .i64 (1 + r6.1)))]) (Int.toNat (IntKind.wrap .i64 ((((l7 ++ [(Gi_Unit.mk r2.1 r3.1 r9.1 (IntKind.wrap .i64 (1 + r6.1)))]).length : Nat) : Int) - 1))) (Gi_Unit.mk x14.Side x14.Kind (-1) x14.Steps)).length) (List.map gi_Unit (List.set (l7 ++ [(Gi_Unit.mk r2.1 r3.1 r9.1 (IntKind.wrap .i64 (1 + r6.1)))]) (Int.toNat (IntKind.wrap .i64 ((((l7 ++ [(Gi_Unit.mk r2.1 r3.1 r9.1 (IntKind.wrap .i64 (1 + r6.1)))]).length : Nat) : Int) - 1))) (Gi_Unit.mk x14.Side x14.Kind (-1) x14.Steps)))], r0, .canon [0, 1, 2, 3, 7] [0, 3, 4, 5, 6]] (by kernel_rfl) (P1 (cs_sGood hr11) <| P2 (r11 = false) (eqF h12) <| P1 h13 <| P1 (int_lt_of_at h13 hx14) <| P1 (lt_of_at hx14) <| P2 (setCells (List.map gi_Unit (l7 ++ [(Gi_Unit.mk r2.1 r3.1 r9.1 (IntKind.wrap .i64 (1 + r6.1)))])) (Int.toNat (IntKind.wrap .i64 ((((l7 ++ [(Gi_Unit.mk r2.1 r3.1 r9.1 (IntKind.wrap .i64 (1 + r6.1)))]).length : Nat) : Int) - 1))) 2 [I (-1)] = List.map gi_Unit (List.set (l7 ++ [(Gi_Unit.mk r2.1 r3.1 r9.1 (IntKind.wrap .i64 (1 + r6.1)))]) (Int.toNat (IntKind.wrap .i64 ((((l7 ++ [(Gi_Unit.mk r2.1 r3.1 r9.1 (IntKind.wrap .i64 (1 + r6.1)))]).length : Nat) : Int) - 1))) (Gi_Unit.mk x14.Side x14.Kind (-1) x14.Steps))) (setCells_map hx14 rfl) <| P1 (setLen (l7 ++ [(Gi_Unit.mk r2.1 r3.1 r9.1 (IntKind.wrap .i64 (1 + r6.1)))]) (Int.toNat (IntKind.wrap .i64 ((((l7 ++ [(Gi_Unit.mk r2.1 r3.1 r9.1 (IntKind.wrap .i64 (1 + r6.1)))]).length : Nat) : Int) - 1))) (Gi_Unit.mk x14.Side x14.Kind (-1) x14.Steps)) <| P0) hn)))
    (fun h1 H =>
      eN H <| gE func153 [rg [hF 1], r0] (by kernel_rfl) (P2 ((decide (t0 > 0)) = false) (decide_eq_false h1) <| P0))
theorem ws_l1Cur_state : ∀ s r, loop Bs_l1Cur_state s = some r → Wc X 153 1 (Ks_l1Cur_state s) (Zs_l1Cur_state s) (Rs_l1Cur_state r) (Ns_l1Cur_state r) := Nx.all ns_l1Cur_state
theorem cs_l1Cur_state {a0 : Gs_l1Cur} {a1 : Gi_Board} {r : Gi_State × Gs_l1Cur} (H : Ds_l1Cur_state a0 a1 = some r) : Ct X.P X.gl 153 [.ptr 0 3 0 0, .agg [sl 5 gi_Terrain a1.Rules.Terrains, sl 6 gi_Kind a1.Rules.Kinds, I a1.Rules.Stack, I a1.Rules.River, I a1.Rules.Road, I a1.Rules.Supply, I a1.Rules.Turns, I a1.Map.Width, I a1.Map.Height, sl 1 I a1.Map.Terrain, sl 1 I a1.Map.Rivers, sl 1 I a1.Map.Roads]] [⟨false, true, 3, 1, [.agg [sl 1 (D.int .u8) a0.code, I a0.at_, .int .u64 a0.seed]]⟩] (Rs_l1Cur_state r) (Ns_l1Cur_state r) :=
  Ct.of func153 (c := bdy f153) (by kernel_rfl) (by kernel_rfl) <|
  eBind H fun r1 hr1 H =>
  eBind H fun r2 hr2 H =>
  eBind H fun r3 hr3 H =>
  gO [r0, rg [hC 5 true [0] (Rs_l1Cur_pick r1) (Ns_l1Cur_pick r1), hC 7 true [0] (Rs_l1Cur_pick r2) (Ns_l1Cur_pick r2)], rg [hC 1 true [0] (Rs_l1Cur_pick r3) (Ns_l1Cur_pick r3)], .canon [0, 1, 2, 3] [0, 3, 4, 5, 6]] (by kernel_rfl) (PI (1 : Nat) <| P1 (cs_l1Cur_pick hr1) <| PI (1 : Nat) <| P1 (cs_l1Cur_pick hr2) <| P2 (¬ (3 : Int) = 0) (by decide) <| PI (1 : Nat) <| P1 (cs_l1Cur_pick hr3) <| P0) (ws_l1Cur_state _ _ H)
/-!   loop example/g00886/spec l1Cur  anyState -/
def Rs_l1Cur_anyState (r : Gi_State × Gs_l1Cur) : List D := [.agg [I r.1.Turn, I r.1.Weather, ow 4 gi_Unit r.1.Units]]
def Ns_l1Cur_anyState (r : Gi_State × Gs_l1Cur) : List Root := [⟨false, true, 3, 1, [.agg [sl 1 (D.int .u8) r.2.code, I r.2.at_, .int .u64 r.2.seed]]⟩]
noncomputable def Ks_l1Cur_anyState : Ss_l1Cur_anyState → List Item
  | .h1 .. => nav 300 11 [false, false, false, false, false, false, true] [.code (bdy f103)]
def Zs_l1Cur_anyState : Ss_l1Cur_anyState → St
  | .h1 b0 b1 b2 b3 b4 l5 => ⟨sts 91 [(0, .ptr 0 3 0 0), (4, .ptr 1 3 0 0), (5, .ptr 2 3 0 0)], [some ⟨false, true, 3, 1, [.agg [sl 1 (D.int .u8) b0.code, I b0.at_, .int .u64 b0.seed]]⟩, some ⟨false, true, 3, 1, [.agg [I b1, I b2, .nil]]⟩, some ⟨false, true, 3, 1, [.agg [I b3, I b4, .ref 3 4 none]]⟩, some ⟨false, false, 4, l5.length, List.map gi_Unit l5⟩]⟩
abbrev Qs_l1Cur_anyState := Nx X 103 1 Ks_l1Cur_anyState Zs_l1Cur_anyState Rs_l1Cur_anyState Ns_l1Cur_anyState
theorem ns_l1Cur_anyState : ∀ s o, Bs_l1Cur_anyState s = some o → Qs_l1Cur_anyState (Ks_l1Cur_anyState s) (Zs_l1Cur_anyState s) o
  | .h1 b0 b1 b2 b3 b4 l5, o, H =>
    eBind H fun r1 hr1 H =>
    eIf H (fun h2 H =>
      eCk H fun h3 H =>
      eN H fun r hn => gO [rg [hC 4 true [0] (Rs_l1Cur_pick r1) (Ns_l1Cur_pick r1), hT 6], rg [hA 4 ((l5 ++ [(Gi_Unit.mk 0 0 (-1) 1)]).length) (List.map gi_Unit (l5 ++ [(Gi_Unit.mk 0 0 (-1) 1)]))], .canon [0, 1, 2, 5] [0, 4, 5]] (by kernel_rfl) (PI (1 : Nat) <| P1 (cs_l1Cur_pick hr1) <| P2 ((decide (((l5.length : Nat) : Int) < (IntKind.wrap .i64 (12 + r1.1)))) = true) (decide_eq_true h2) <| P1 (apL l5 [(Gi_Unit.mk 0 0 (-1) 1)]) <| P1 (apB h3) <| P1 (apM gi_Unit l5 [(Gi_Unit.mk 0 0 (-1) 1)]) <| P0) hn)
    (fun h2 H =>
      eN H <| gE func103 [rg [hC 4 true [0] (Rs_l1Cur_pick r1) (Ns_l1Cur_pick r1), hF 6], r0] (by kernel_rfl) (PI (1 : Nat) <| P1 (cs_l1Cur_pick hr1) <| P2 ((decide (((l5.length : Nat) : Int) < (IntKind.wrap .i64 (12 + r1.1)))) = false) (decide_eq_false h2) <| P0))
theorem ws_l1Cur_anyState : ∀ s r, loop Bs_l1Cur_anyState s = some r → Wc X 103 1 (Ks_l1Cur_anyState s) (Zs_l1Cur_anyState s) (Rs_l1Cur_anyState r) (Ns_l1Cur_anyState r) := Nx.all ns_l1Cur_anyState
theorem cs_l1Cur_anyState {a0 : Gs_l1Cur} {a1 : Gi_Board} {r : Gi_State × Gs_l1Cur} (H : Ds_l1Cur_anyState a0 a1 = some r) : Ct X.P X.gl 103 [.ptr 0 3 0 0, .agg [sl 5 gi_Terrain a1.Rules.Terrains, sl 6 gi_Kind a1.Rules.Kinds, I a1.Rules.Stack, I a1.Rules.River, I a1.Rules.Road, I a1.Rules.Supply, I a1.Rules.Turns, I a1.Map.Width, I a1.Map.Height, sl 1 I a1.Map.Terrain, sl 1 I a1.Map.Rivers, sl 1 I a1.Map.Roads]] [⟨false, true, 3, 1, [.agg [sl 1 (D.int .u8) a0.code, I a0.at_, .int .u64 a0.seed]]⟩] (Rs_l1Cur_anyState r) (Ns_l1Cur_anyState r) :=
  Ct.of func103 (c := bdy f103) (by kernel_rfl) (by kernel_rfl) <|
  eBind H fun r1 hr1 H =>
  gS [r0] (by kernel_rfl) P0 <|
  eIf H (fun h2 H =>
    eBind H fun r3 hr3 H =>
    eBind H fun r4 hr4 H =>
    eBind H fun r5 hr5 H =>
    gS [rg [{ i := 1, call := some { cl := true, auto := true, ins := [], res := (RB r1), G' := [] }, dec := some true }], rg [hC 2 true [0] (Rs_l1Cur_state r3) (Ns_l1Cur_state r3)], rg [hC 4 true [0] (Rs_l1Cur_pick r4) (Ns_l1Cur_pick r4)], rg [hC 1 true [0] (Rs_l1Cur_pick r5) (Ns_l1Cur_pick r5)]] (by kernel_rfl) (P1 (cs_bGood hr1) <| P2 (r1 = true) (h2) <| PI (1 : Nat) <| P1 (cs_l1Cur_state hr3) <| PI (1 : Nat) <| P1 (cs_l1Cur_pick hr4) <| PI (1 : Nat) <| P1 (cs_l1Cur_pick hr5) <| P0) <|
    eIf H (fun h6 H =>
      eBind H fun r7 hr7 H =>
      eW Rs_l1Cur_anyState Ns_l1Cur_anyState H <| gE func103 [rg [hT 0], rg [{ i := 9, frz := [7], call := some { cl := true, auto := true, ins := [0], res := (Rs_l1Cur_among r7), G' := (Ns_l1Cur_among r7) } }], r0] (by kernel_rfl) (P2 (((r5.1 : Int) == 0) = true) (beqT h6) <| PI (1 : Nat) <| P1 (cs_l1Cur_among hr7) <| P0))
    (fun h6 H =>
      gS [rg [hF 0]] (by kernel_rfl) (P2 (((r5.1 : Int) == 0) = false) (beqF h6) <| P0) <|
      eIf H (fun h7 H =>
        eBind H fun r8 hr8 H =>
        eW Rs_l1Cur_anyState Ns_l1Cur_anyState H <| gE func103 [rg [hT 0], rg [{ i := 2, frz := [7], call := some { cl := true, auto := true, ins := [0], res := (Rs_l1Cur_among r8), G' := (Ns_l1Cur_among r8) } }], r0] (by kernel_rfl) (P2 (((r5.1 : Int) == 1) = true) (beqT h7) <| PI (1 : Nat) <| P1 (cs_l1Cur_among hr8) <| P0))
      (fun h7 H =>
        gS [rg [hF 0]] (by kernel_rfl) (P2 (((r5.1 : Int) == 1) = false) (beqF h7) <| P0) <|
        eIf H (fun h8 H =>
          eBind H fun r9 hr9 H =>
          eBind H fun r10 hr10 H =>
          eCk H fun h11 H =>
          eBind H fun x12 hx12 H =>
          eW Rs_l1Cur_anyState Ns_l1Cur_anyState H <| gE func103 [rg [hT 0], rg [hC 6 true [] (RI r9) [], { i := 8, frz := [7], call := some { cl := true, auto := true, ins := [0], res := (Rs_l1Cur_among r10), G' := (Ns_l1Cur_among r10) } }, hA 11 ((List.set r3.1.Units (Int.toNat r4.1) (Gi_Unit.mk x12.Side x12.Kind r10.1 x12.Steps)).length) (List.map gi_Unit (List.set r3.1.Units (Int.toNat r4.1) (Gi_Unit.mk x12.Side x12.Kind r10.1 x12.Steps)))], r0] (by kernel_rfl) (P2 (((r5.1 : Int) == 2) = true) (beqT h8) <| P1 (cs_mSize hr9) <| PI (1 : Nat) <| P1 (cs_l1Cur_among hr10) <| P1 h11 <| P1 (int_lt_of_at h11 hx12) <| P1 (lt_of_at hx12) <| P2 (setCells (List.map gi_Unit r3.1.Units) (Int.toNat r4.1) 2 [I r10.1] = List.map gi_Unit (List.set r3.1.Units (Int.toNat r4.1) (Gi_Unit.mk x12.Side x12.Kind r10.1 x12.Steps))) (setCells_map hx12 rfl) <| P1 (setLen r3.1.Units (Int.toNat r4.1) (Gi_Unit.mk x12.Side x12.Kind r10.1 x12.Steps)) <| P0))
        (fun h8 H =>
          gS [rg [hF 0]] (by kernel_rfl) (P2 (((r5.1 : Int) == 2) = false) (beqF h8) <| P0) <|
          eIf H (fun h9 H =>
            eBind H fun r10 hr10 H =>
            eCk H fun h11 H =>
            eBind H fun x12 hx12 H =>
            eW Rs_l1Cur_anyState Ns_l1Cur_anyState H <| gE func103 [rg [hT 0], rg [{ i := 5, frz := [7], call := some { cl := true, auto := true, ins := [0], res := (Rs_l1Cur_among r10), G' := (Ns_l1Cur_among r10) } }, hA 8 ((List.set r3.1.Units (Int.toNat r4.1) (Gi_Unit.mk x12.Side x12.Kind x12.At r10.1)).length) (List.map gi_Unit (List.set r3.1.Units (Int.toNat r4.1) (Gi_Unit.mk x12.Side x12.Kind x12.At r10.1)))], r0] (by kernel_rfl) (P2 (((r5.1 : Int) == 3) = true) (beqT h9) <| PI (1 : Nat) <| P1 (cs_l1Cur_among hr10) <| P1 h11 <| P1 (int_lt_of_at h11 hx12) <| P1 (lt_of_at hx12) <| P2 (setCells (List.map gi_Unit r3.1.Units) (Int.toNat r4.1) 3 [I r10.1] = List.map gi_Unit (List.set r3.1.Units (Int.toNat r4.1) (Gi_Unit.mk x12.Side x12.Kind x12.At r10.1))) (setCells_map hx12 rfl) <| P1 (setLen r3.1.Units (Int.toNat r4.1) (Gi_Unit.mk x12.Side x12.Kind x12.At r10.1)) <| P0))
          (fun h9 H =>
            gS [rg [hF 0]] (by kernel_rfl) (P2 (((r5.1 : Int) == 3) = false) (beqF h9) <| P0) <|
            eIf H (fun h10 H =>
              eBind H fun r11 hr11 H =>
              eCk H fun h12 H =>
              eBind H fun x13 hx13 H =>
              eW Rs_l1Cur_anyState Ns_l1Cur_anyState H <| gE func103 [rg [hT 0], rg [{ i := 5, frz := [7], call := some { cl := true, auto := true, ins := [0], res := (Rs_l1Cur_among r11), G' := (Ns_l1Cur_among r11) } }, hA 8 ((List.set r3.1.Units (Int.toNat r4.1) (Gi_Unit.mk r11.1 x13.Kind x13.At x13.Steps)).length) (List.map gi_Unit (List.set r3.1.Units (Int.toNat r4.1) (Gi_Unit.mk r11.1 x13.Kind x13.At x13.Steps)))], r0] (by kernel_rfl) (P2 (((r5.1 : Int) == 4) = true) (beqT h10) <| PI (1 : Nat) <| P1 (cs_l1Cur_among hr11) <| P1 h12 <| P1 (int_lt_of_at h12 hx13) <| P1 (lt_of_at hx13) <| P2 (setCells (List.map gi_Unit r3.1.Units) (Int.toNat r4.1) 0 [I r11.1] = List.map gi_Unit (List.set r3.1.Units (Int.toNat r4.1) (Gi_Unit.mk r11.1 x13.Kind x13.At x13.Steps))) (setCells_map hx13 rfl) <| P1 (setLen r3.1.Units (Int.toNat r4.1) (Gi_Unit.mk r11.1 x13.Kind x13.At x13.Steps)) <| P0))
            (fun h10 H =>
              gS [rg [hF 0]] (by kernel_rfl) (P2 (((r5.1 : Int) == 4) = false) (beqF h10) <| P0) <|
              eIf H (fun h11 H =>
                gO [rg [hT 0], .canon [0, 2, 6, 5] [0, 4, 5]] (by kernel_rfl) (P2 (((r5.1 : Int) == 5) = true) (beqT h11) <| P0) (ws_l1Cur_anyState _ _ H))
              (fun h11 H =>
                eW Rs_l1Cur_anyState Ns_l1Cur_anyState H <| gE func103 [rg [hF 0], r0] (by kernel_rfl) (P2 (((r5.1 : Int) == 5) = false) (beqF h11) <| P0))))))))
  (fun h2 H =>
    eW Rs_l1Cur_anyState Ns_l1Cur_anyState H <| gE func103 [rg [{ i := 1, call := some { cl := true, auto := true, ins := [], res := (RB r1), G' := [] }, dec := some false }], r0] (by kernel_rfl) (P1 (cs_bGood hr1) <| P2 (r1 = false) (eqF h2) <| P0))
/-! loop example/g00886/spec sOwn -/
def Rs_sOwn (r : Gi_State) : List D := [.agg [I r.Turn, I r.Weather, ow 4 gi_Unit r.Units]]
theorem cs_sOwn {a0 : Gi_State} {r : Gi_State} (H : Ds_sOwn a0 = some r) : Ct X.P X.gl 121 [.agg [I a0.Turn, I a0.Weather, sl 4 gi_Unit a0.Units]] [] (Rs_sOwn r) [] :=
  Ct.of func121 (c := bdy f121) (by kernel_rfl) (by kernel_rfl) <|
  eCk H fun h1 H =>
  eW Rs_sOwn (fun _ => []) H <| gE func121 [r0, rg [hA 7 a0.Units.length (List.map gi_Unit a0.Units)]] (by kernel_rfl) (P2 (AllFl (List.map gi_Unit a0.Units)) (allFl_56 _) <| P2 (a0.Units.length = ([] : List Gi_Unit).length + a0.Units.length) (by simp <;> omega) <| P2 ((([] : List Gi_Unit).length + a0.Units.length) * 32 ≤ 70368744177664) (by have := h1; simp at this ⊢ <;> omega) <| P2 (List.map gi_Unit ([] : List Gi_Unit) ++ List.map gi_Unit a0.Units = List.map gi_Unit a0.Units) (by simp) <| P0)
/-! loop example/g00886/spec aSide -/
noncomputable def Ks_aSide : Ss_aSide → List Item
  | .h1 .. => nav 300 2 [] [.code (bdy f122)]
def Zs_aSide : Ss_aSide → St
  | .h1 i0 u1 d2 b3 b4 => ⟨sts 33 [(2, I i0), (3, I u1), (4, .ptr 0 12 0 0), (5, .ptr 1 3 0 0), (9, I d2)], [some ⟨false, true, 12, 1, [.agg [sl 5 gi_Terrain b3.Rules.Terrains, sl 6 gi_Kind b3.Rules.Kinds, I b3.Rules.Stack, I b3.Rules.River, I b3.Rules.Road, I b3.Rules.Supply, I b3.Rules.Turns, I b3.Map.Width, I b3.Map.Height, sl 1 I b3.Map.Terrain, sl 1 I b3.Map.Rivers, sl 1 I b3.Map.Roads]]⟩, some ⟨false, true, 3, 1, [.agg [I b4.Turn, I b4.Weather, sl 4 gi_Unit b4.Units]]⟩]⟩
abbrev Qs_aSide := Nx X 122 0 Ks_aSide Zs_aSide RI (fun _ => [])
theorem ns_aSide : ∀ s o, Bs_aSide s = some o → Qs_aSide (Ks_aSide s) (Zs_aSide s) o
  | .h1 i0 u1 d2 b3 b4, o, H =>
    eIf H (fun h1 H =>
      eBind H fun r2 hr2 H =>
      gN [rg [hT 1], rg [hC 4 true [] (RI r2) []]] (by kernel_rfl) (P2 ((decide (d2 < 6)) = true) (decide_eq_true h1) <| P1 (cs_mNext hr2) <| P0) <|
      eIf H (fun h3 H =>
        eCk H fun h4 H =>
        eBind H fun x5 hx5 H =>
        eIf H (fun h6 H =>
          eN H <| gE func122 [rg [hT 1, hE 9 (gi_Unit x5), hT 10], r0] (by kernel_rfl) (P2 ((decide (r2 ≥ 0)) = true) (decide_eq_true h3) <| P1 h4 <| P1 (int_lt_of_at h4 hx5) <| P1 (at_map gi_Unit hx5) <| P2 (((r2 : Int) == x5.At) = true) (beqT h6) <| P0))
        (fun h6 H =>
          eN H fun r hn => gO [rg [hT 1, hE 9 (gi_Unit x5), hF 10], r0, .canon [0, 1] [2, 3, 4, 5, 9]] (by kernel_rfl) (P2 ((decide (r2 ≥ 0)) = true) (decide_eq_true h3) <| P1 h4 <| P1 (int_lt_of_at h4 hx5) <| P1 (at_map gi_Unit hx5) <| P2 (((r2 : Int) == x5.At) = false) (beqF h6) <| P0) hn))
      (fun h3 H =>
        eN H fun r hn => gO [rg [hF 1], r0, .canon [0, 1] [2, 3, 4, 5, 9]] (by kernel_rfl) (P2 ((decide (r2 ≥ 0)) = false) (decide_eq_false h3) <| P0) hn))
    (fun h1 H =>
      eN H <| gE func122 [rg [hF 1], r0] (by kernel_rfl) (P2 ((decide (d2 < 6)) = false) (decide_eq_false h1) <| P0))
theorem ws_aSide : ∀ s r, loop Bs_aSide s = some r → Wc X 122 0 (Ks_aSide s) (Zs_aSide s) (RI r) ((fun _ => []) r) := Nx.all ns_aSide
theorem cs_aSide {a0 : Gi_Board} {a1 : Gi_State} {a2 : Int} {a3 : Int} {r : Int} (H : Ds_aSide a0 a1 a2 a3 = some r) : Ct X.P X.gl 122 [.agg [sl 5 gi_Terrain a0.Rules.Terrains, sl 6 gi_Kind a0.Rules.Kinds, I a0.Rules.Stack, I a0.Rules.River, I a0.Rules.Road, I a0.Rules.Supply, I a0.Rules.Turns, I a0.Map.Width, I a0.Map.Height, sl 1 I a0.Map.Terrain, sl 1 I a0.Map.Rivers, sl 1 I a0.Map.Roads], .agg [I a1.Turn, I a1.Weather, sl 4 gi_Unit a1.Units], I a2, I a3] [] (RI r) [] :=
  Ct.of func122 (c := bdy f122) (by kernel_rfl) (by kernel_rfl) <|
  gO [r0, r0, .canon [0, 1] [2, 3, 4, 5, 9]] (by kernel_rfl) P0 (ws_aSide _ _ H)
/-!   loop example/g00886/spec l1Cur  fought -/
def Rs_l1Cur_fought (r : Gi_Board × Gi_State × (List Gi_Attack) × Gs_l1Cur) : List D := [.agg [sl 5 gi_Terrain r.1.Rules.Terrains, sl 6 gi_Kind r.1.Rules.Kinds, I r.1.Rules.Stack, I r.1.Rules.River, I r.1.Rules.Road, I r.1.Rules.Supply, I r.1.Rules.Turns, I r.1.Map.Width, I r.1.Map.Height, sl 1 I r.1.Map.Terrain, sl 1 I r.1.Map.Rivers, sl 1 I r.1.Map.Roads], .agg [I r.2.1.Turn, I r.2.1.Weather, ow 4 gi_Unit r.2.1.Units], ow 2 gi_Attack r.2.2.1]
def Ns_l1Cur_fought (r : Gi_Board × Gi_State × (List Gi_Attack) × Gs_l1Cur) : List Root := [⟨false, true, 3, 1, [.agg [sl 1 (D.int .u8) r.2.2.2.code, I r.2.2.2.at_, .int .u64 r.2.2.2.seed]]⟩]
noncomputable def Ks_l1Cur_fought : Ss_l1Cur_fought → List Item
  | .h1 .. => nav 300 5 [false] [.code (bdy f84)]
  | .h2 .. => nav 300 8 [false, false] [.code (bdy f84)]
  | .h3 .. => nav 300 11 [false, false, true] [.code (bdy f84)]
def Zs_l1Cur_fought : Ss_l1Cur_fought → St
  | .h1 t0 b1 b2 b3 b4 b5 b6 b7 b8 b9 b10 b11 b12 b13 b14 b15 b16 b17 b18 b19 l20 l21 l22 l23 l24 l25 => ⟨sts 177 [(0, .ptr 0 3 0 0), (2, .ptr 1 12 0 0), (3, .ptr 2 3 0 0), (5, .ptr 3 12 0 0), (6, .ptr 4 3 0 0), (7, I t0)], [some ⟨false, true, 3, 1, [.agg [sl 1 (D.int .u8) b1.code, I b1.at_, .int .u64 b1.seed]]⟩, some ⟨false, true, 12, 1, [.agg [.nil, .nil, I b2, I b3, I b4, I b5, I b6, I b7, I b8, .nil, .nil, .nil]]⟩, some ⟨false, true, 3, 1, [.agg [I b9, I b10, .nil]]⟩, some ⟨false, true, 12, 1, [.agg [.ref 5 5 none, .ref 6 6 none, I b11, I b12, I b13, I b14, I b15, I b16, I b17, .ref 7 1 none, .ref 8 1 none, .ref 9 1 none]]⟩, some ⟨false, true, 3, 1, [.agg [I b18, I b19, .ref 10 4 none]]⟩, some ⟨true, false, 5, l20.length, List.map gi_Terrain l20⟩, some ⟨true, false, 6, l21.length, List.map gi_Kind l21⟩, some ⟨true, false, 1, l22.length, List.map I l22⟩, some ⟨true, false, 1, l23.length, List.map I l23⟩, some ⟨true, false, 1, l24.length, List.map I l24⟩, some ⟨false, false, 4, l25.length, List.map gi_Unit l25⟩]⟩
  | .h2 t0 t1 b2 b3 b4 b5 b6 b7 b8 b9 b10 b11 b12 b13 b14 b15 b16 b17 b18 b19 b20 l21 l22 l23 l24 l25 l26 l27 => ⟨sts 177 [(0, .ptr 0 3 0 0), (2, .ptr 1 12 0 0), (3, .ptr 2 3 0 0), (5, .ptr 3 12 0 0), (6, .ptr 4 3 0 0), (12, .ref 5 2 none), (87, I t0), (88, I t1)], [some ⟨false, true, 3, 1, [.agg [sl 1 (D.int .u8) b2.code, I b2.at_, .int .u64 b2.seed]]⟩, some ⟨false, true, 12, 1, [.agg [.nil, .nil, I b3, I b4, I b5, I b6, I b7, I b8, I b9, .nil, .nil, .nil]]⟩, some ⟨false, true, 3, 1, [.agg [I b10, I b11, .nil]]⟩, some ⟨false, true, 12, 1, [.agg [.ref 6 5 none, .ref 7 6 none, I b12, I b13, I b14, I b15, I b16, I b17, I b18, .ref 8 1 none, .ref 9 1 none, .ref 10 1 none]]⟩, some ⟨false, true, 3, 1, [.agg [I b19, I b20, .ref 11 4 none]]⟩, some ⟨false, false, 2, l21.length, List.map gi_Attack l21⟩, some ⟨true, false, 5, l22.length, List.map gi_Terrain l22⟩, some ⟨true, false, 6, l23.length, List.map gi_Kind l23⟩, some ⟨true, false, 1, l24.length, List.map I l24⟩, some ⟨true, false, 1, l25.length, List.map I l25⟩, some ⟨true, false, 1, l26.length, List.map I l26⟩, some ⟨false, false, 4, l27.length, List.map gi_Unit l27⟩]⟩
  | .h3 t0 t1 t2 t3 t4 b5 b6 b7 b8 b9 b10 b11 b12 b13 b14 b15 b16 b17 b18 b19 b20 b21 b22 b23 l24 l25 l26 l27 l28 l29 l30 => ⟨sts 177 [(0, .ptr 0 3 0 0), (2, .ptr 1 12 0 0), (3, .ptr 2 3 0 0), (5, .ptr 3 12 0 0), (6, .ptr 4 3 0 0), (12, .ref 5 2 none), (13, I t0), (87, I t1), (88, I t2), (93, I t3), (94, I t4)], [some ⟨false, true, 3, 1, [.agg [sl 1 (D.int .u8) b5.code, I b5.at_, .int .u64 b5.seed]]⟩, some ⟨false, true, 12, 1, [.agg [.nil, .nil, I b6, I b7, I b8, I b9, I b10, I b11, I b12, .nil, .nil, .nil]]⟩, some ⟨false, true, 3, 1, [.agg [I b13, I b14, .nil]]⟩, some ⟨false, true, 12, 1, [.agg [.ref 6 5 none, .ref 7 6 none, I b15, I b16, I b17, I b18, I b19, I b20, I b21, .ref 8 1 none, .ref 9 1 none, .ref 10 1 none]]⟩, some ⟨false, true, 3, 1, [.agg [I b22, I b23, .ref 11 4 none]]⟩, some ⟨false, false, 2, l24.length, List.map gi_Attack l24⟩, some ⟨true, false, 5, l25.length, List.map gi_Terrain l25⟩, some ⟨true, false, 6, l26.length, List.map gi_Kind l26⟩, some ⟨true, false, 1, l27.length, List.map I l27⟩, some ⟨true, false, 1, l28.length, List.map I l28⟩, some ⟨true, false, 1, l29.length, List.map I l29⟩, some ⟨false, false, 4, l30.length, List.map gi_Unit l30⟩]⟩
abbrev Qs_l1Cur_fought := Nx X 84 1 Ks_l1Cur_fought Zs_l1Cur_fought Rs_l1Cur_fought Ns_l1Cur_fought
theorem ns_l1Cur_fought : ∀ s o, Bs_l1Cur_fought s = some o → Qs_l1Cur_fought (Ks_l1Cur_fought s) (Zs_l1Cur_fought s) o
  | .h1 t0 b1 b2 b3 b4 b5 b6 b7 b8 b9 b10 b11 b12 b13 b14 b15 b16 b17 b18 b19 l20 l21 l22 l23 l24 l25, o, H =>
    eIf H (fun h1 H =>
      eBind H fun r2 hr2 H =>
      eBind H fun r3 hr3 H =>
      eCk H fun h4 H =>
      eBind H fun x5 hx5 H =>
      gN [rg [hT 1], rg [hC 4 true [0] (Rs_l1Cur_pick r2) (Ns_l1Cur_pick r2), hC 9 true [0] (Rs_l1Cur_pick r3) (Ns_l1Cur_pick r3)]] (by kernel_rfl) (P2 ((decide (t0 > 0)) = true) (decide_eq_true h1) <| PI (1 : Nat) <| P1 (cs_l1Cur_pick hr2) <| PI (1 : Nat) <| P1 (cs_l1Cur_pick hr3) <| P0) <|
      eIf H (fun h6 H =>
        eN H fun r hn => gO [rg [hE 5 (gi_Unit x5), hT 6], r0, .canon [0, 1, 2, 3, 4, 5, 6, 7, 8, 9, 10] [0, 2, 3, 5, 6, 7]] (by kernel_rfl) (P1 h4 <| P1 (int_lt_of_at h4 hx5) <| P1 (at_map gi_Unit hx5) <| P2 ((decide (x5.At < 0)) = true) (decide_eq_true h6) <| P0) hn)
      (fun h6 H =>
        eCk H fun h7 H =>
        eBind H fun x8 hx8 H =>
        eIf H (fun h9 H =>
          eN H fun r hn => gO [rg [hE 5 (gi_Unit x5), hF 6, hE 13 (gi_Unit x8), hT 14], r0, .canon [0, 1, 2, 3, 4, 5, 6, 7, 8, 9, 10] [0, 2, 3, 5, 6, 7]] (by kernel_rfl) (P1 h4 <| P1 (int_lt_of_at h4 hx5) <| P1 (at_map gi_Unit hx5) <| P2 ((decide (x5.At < 0)) = false) (decide_eq_false h6) <| P1 h7 <| P1 (int_lt_of_at h7 hx8) <| P1 (at_map gi_Unit hx8) <| P2 (((x8.Steps : Int) == 0) = true) (beqT h9) <| P0) hn)
        (fun h9 H =>
          eCk H fun h10 H =>
          eBind H fun x11 hx11 H =>
          eBind H fun r12 hr12 H =>
          eBind H fun r13 hr13 H =>
          gN [rg [hE 5 (gi_Unit x5), hF 6, hE 13 (gi_Unit x8), hF 14], rg [hE 7 (gi_Unit x11), hC 9 true [0] (Rs_l1Cur_pick r12) (Ns_l1Cur_pick r12), hC 10 true [] (RI r13) []]] (by kernel_rfl) (P1 h4 <| P1 (int_lt_of_at h4 hx5) <| P1 (at_map gi_Unit hx5) <| P2 ((decide (x5.At < 0)) = false) (decide_eq_false h6) <| P1 h7 <| P1 (int_lt_of_at h7 hx8) <| P1 (at_map gi_Unit hx8) <| P2 (((x8.Steps : Int) == 0) = false) (beqF h9) <| P1 h10 <| P1 (int_lt_of_at h10 hx11) <| P1 (at_map gi_Unit hx11) <| PI (1 : Nat) <| P1 (cs_l1Cur_pick hr12) <| P1 (cs_mNext hr13) <| P0) <|
          eIf H (fun h14 H =>
            eBind H fun r15 hr15 H =>
            eCk H fun h16 H =>
            eBind H fun x17 hx17 H =>
            eBind H fun r18 hr18 H =>
            gN [rg [hT 1], rg [hC 1 false [] (Rs_sOwn r15) []], rg [hA 6 ((List.set r15.Units (Int.toNat r2.1) (Gi_Unit.mk x17.Side x17.Kind r13 x17.Steps)).length) (List.map gi_Unit (List.set r15.Units (Int.toNat r2.1) (Gi_Unit.mk x17.Side x17.Kind r13 x17.Steps)))]] (by kernel_rfl) (P2 ((decide (r13 ≥ 0)) = true) (decide_eq_true h14) <| P2 (nfL (List.flatMap D.cells (Rs_sOwn r15))) ⟨trivial, trivial, nfL_map nf_56 _, trivial⟩ <| P2 (nfG []) trivial <| P1 (cs_sOwn hr15) <| P1 h16 <| P1 (int_lt_of_at h16 hx17) <| P1 (lt_of_at hx17) <| P2 (setCells (List.map gi_Unit r15.Units) (Int.toNat r2.1) 2 [I r13] = List.map gi_Unit (List.set r15.Units (Int.toNat r2.1) (Gi_Unit.mk x17.Side x17.Kind r13 x17.Steps))) (setCells_map hx17 rfl) <| P1 (setLen r15.Units (Int.toNat r2.1) (Gi_Unit.mk x17.Side x17.Kind r13 x17.Steps)) <| P0) <|
            eIf H (fun h19 H =>
              eN H fun r hn => gO [rg [{ i := 2, call := some { cl := false, auto := true, ins := [], res := (RB r18), G' := [] }, dec := some true }], r0, r0, .canon [0, 1, 2, 3, 4, 5, 6, 7, 8, 9, 13] [0, 2, 3, 5, 6, 7]] (by kernel_rfl) (P1 (cs_sGood hr18) <| P2 (r18 = true) (h19) <| P0) hn)
            (fun h19 H =>
              eN H fun r hn => gO [rg [{ i := 2, call := some { cl := false, auto := true, ins := [], res := (RB r18), G' := [] }, dec := some false }], r0, .canon [0, 1, 2, 3, 4, 5, 6, 7, 8, 9, 10] [0, 2, 3, 5, 6, 7]] (by kernel_rfl) (P1 (cs_sGood hr18) <| P2 (r18 = false) (eqF h19) <| P0) hn))
          (fun h14 H =>
            eN H fun r hn => gO [rg [hF 1], r0, .canon [0, 1, 2, 3, 4, 5, 6, 7, 8, 9, 10] [0, 2, 3, 5, 6, 7]] (by kernel_rfl) (P2 ((decide (r13 ≥ 0)) = false) (decide_eq_false h14) <| P0) hn))))
    (fun h1 H =>
      eN H fun r hn => gO [rg [hF 1], r0, r0, .own 12 2, .canon [0, 1, 2, 3, 4, 11, 5, 6, 7, 8, 9, 10] [0, 2, 3, 5, 6, 12, 87, 88]] (by kernel_rfl) (P2 ((decide (t0 > 0)) = false) (decide_eq_false h1) <| P0) hn)
  | .h2 t0 t1 b2 b3 b4 b5 b6 b7 b8 b9 b10 b11 b12 b13 b14 b15 b16 b17 b18 b19 b20 l21 l22 l23 l24 l25 l26 l27, o, H =>
    eIf H (fun h1 H =>
      eN H fun r hn => gO [rg [hT 0], r0, r0, .canon [0, 1, 2, 3, 4, 5, 6, 7, 8, 9, 10, 11] [0, 2, 3, 5, 6, 12, 13, 87, 88, 93, 94]] (by kernel_rfl) (P2 ((decide (t1 < t0)) = true) (decide_eq_true h1) <| P0) hn)
    (fun h1 H =>
      gN [rg [hF 0]] (by kernel_rfl) (P2 ((decide (t1 < t0)) = false) (decide_eq_false h1) <| P0) <|
      eIf H (fun h2 H =>
        eCk H fun h3 H =>
        eBind H fun r4 hr4 H =>
        gN [rg [hT 2], r0, rg [hC 1 true [0] (Rs_l1Cur_pick r4) (Ns_l1Cur_pick r4)]] (by kernel_rfl) (P2 ((decide (((l21.length : Nat) : Int) > 24)) = true) (decide_eq_true h2) <| P2 ((0 : Int) ≤ 24) (by decide) <| P2 ((24 : Int) ≤ ((l21.length : Nat) : Int)) h3 <| PI (1 : Nat) <| P1 (cs_l1Cur_pick hr4) <| P0) <|
        eIf H (fun h5 H =>
          eBind H fun r6 hr6 H =>
          eBind H fun r7 hr7 H =>
          eCk H fun h8 H =>
          eN H <| gE func84 [rg [hT 0], rg [{ i := 3, frz := [12], call := some { cl := true, auto := true, ins := [0], res := (Rs_l1Cur_among r6), G' := (Ns_l1Cur_among r6) } }, { i := 6, frz := [13], call := some { cl := true, auto := true, ins := [0], res := (Rs_l1Cur_among r7), G' := (Ns_l1Cur_among r7) } }, hA 9 (((List.take ((Int.toNat 24) - 0) (List.drop 0 l21)) ++ [(Gi_Attack.mk r6.1 r7.1)]).length) (List.map gi_Attack ((List.take ((Int.toNat 24) - 0) (List.drop 0 l21)) ++ [(Gi_Attack.mk r6.1 r7.1)]))], r0] (by kernel_rfl) (P2 (((r4.1 : Int) == 0) = true) (beqT h5) <| PI (1 : Nat) <| P1 (cs_l1Cur_among hr6) <| PI (1 : Nat) <| P1 (cs_l1Cur_among hr7) <| P2 (((List.take ((Int.toNat 24) - 0) (List.drop 0 l21)) ++ [(Gi_Attack.mk r6.1 r7.1)]).length = ((Int.toNat 24) - 0) + [(Gi_Attack.mk r6.1 r7.1)].length) (by first | (simp <;> omega) | (simp only [List.length_append, List.length_take, List.length_drop, List.length_nil] <;> omega)) <| P2 ((((Int.toNat 24) - 0) + [(Gi_Attack.mk r6.1 r7.1)].length) * 16 ≤ 70368744177664) (by have := h8; first | (simp at this ⊢ <;> omega) | (simp only [List.length_append, List.length_take, List.length_drop, List.length_nil] at this ⊢ <;> omega)) <| P2 (List.take ((Int.toNat 24) - 0) (List.drop 0 (List.map gi_Attack l21)) ++ List.map gi_Attack [(Gi_Attack.mk r6.1 r7.1)] = List.map gi_Attack ((List.take ((Int.toNat 24) - 0) (List.drop 0 l21)) ++ [(Gi_Attack.mk r6.1 r7.1)])) (by simp [List.map_take, List.map_drop]) <| P0))
        (fun h5 H =>
          gN [rg [hF 0]] (by kernel_rfl) (P2 (((r4.1 : Int) == 0) = false) (beqF h5) <| P0) <|
          eIf H (fun h6 H =>
            eCk H fun h7 H =>
            eN H <| gE func84 [rg [hT 0], rg [{ i := 2, keep := true, n := ((List.take ((Int.toNat 24) - 0) (List.drop 0 l21)) ++ (List.take ((Int.toNat 24) - 0) (List.drop 0 l21))).length, xs := List.map gi_Attack ((List.take ((Int.toNat 24) - 0) (List.drop 0 l21)) ++ (List.take ((Int.toNat 24) - 0) (List.drop 0 l21))) }], r0] (by kernel_rfl) (P2 (((r4.1 : Int) == 1) = true) (beqT h6) <| P2 (AllFl (List.map gi_Attack l21)) (allFl_79 _) <| P2 (((List.take ((Int.toNat 24) - 0) (List.drop 0 l21)) ++ (List.take ((Int.toNat 24) - 0) (List.drop 0 l21))).length = ((Int.toNat 24) - 0) + ((Int.toNat 24) - 0)) (by first | (simp <;> omega) | (simp only [List.length_append, List.length_take, List.length_drop, List.length_nil] <;> omega)) <| P2 ((((Int.toNat 24) - 0) + ((Int.toNat 24) - 0)) * 16 ≤ 70368744177664) (by have := h7; first | (simp at this ⊢ <;> omega) | (simp only [List.length_append, List.length_take, List.length_drop, List.length_nil] at this ⊢ <;> omega)) <| P2 (List.take ((Int.toNat 24) - 0) (List.drop 0 (List.map gi_Attack l21)) ++ List.take ((Int.toNat 24) - 0) (List.drop 0 (List.map gi_Attack l21)) = List.map gi_Attack ((List.take ((Int.toNat 24) - 0) (List.drop 0 l21)) ++ (List.take ((Int.toNat 24) - 0) (List.drop 0 l21)))) (by simp [List.map_take, List.map_drop]) <| P0))
          (fun h6 H =>
            eN H <| gE func84 [rg [hF 0], r0, .view 4 (List.take ((Int.toNat 24) - 0) (List.drop 0 l21)).length (List.map gi_Attack (List.take ((Int.toNat 24) - 0) (List.drop 0 l21)))] (by kernel_rfl) (P2 (((r4.1 : Int) == 1) = false) (beqF h6) <| P2 (((Int.toNat 24) - 0) = (List.take ((Int.toNat 24) - 0) (List.drop 0 l21)).length) (by first | (simp <;> omega) | (simp only [List.length_take, List.length_drop, List.length_nil] <;> omega)) <| P2 (List.take ((Int.toNat 24) - 0) (List.drop 0 (List.map gi_Attack l21)) = List.map gi_Attack (List.take ((Int.toNat 24) - 0) (List.drop 0 l21))) (by rw [List.map_take, List.map_drop]) <| P0))))
      (fun h2 H =>
        eBind H fun r3 hr3 H =>
        gN [rg [hF 2], rg [hC 1 true [0] (Rs_l1Cur_pick r3) (Ns_l1Cur_pick r3)]] (by kernel_rfl) (P2 ((decide (((l21.length : Nat) : Int) > 24)) = false) (decide_eq_false h2) <| PI (1 : Nat) <| P1 (cs_l1Cur_pick hr3) <| P0) <|
        eIf H (fun h4 H =>
          eBind H fun r5 hr5 H =>
          eBind H fun r6 hr6 H =>
          eCk H fun h7 H =>
          eN H <| gE func84 [rg [hT 0], rg [{ i := 3, frz := [12], call := some { cl := true, auto := true, ins := [0], res := (Rs_l1Cur_among r5), G' := (Ns_l1Cur_among r5) } }, { i := 6, frz := [13], call := some { cl := true, auto := true, ins := [0], res := (Rs_l1Cur_among r6), G' := (Ns_l1Cur_among r6) } }, hA 9 ((l21 ++ [(Gi_Attack.mk r5.1 r6.1)]).length) (List.map gi_Attack (l21 ++ [(Gi_Attack.mk r5.1 r6.1)]))], r0] (by kernel_rfl) (P2 (((r3.1 : Int) == 0) = true) (beqT h4) <| PI (1 : Nat) <| P1 (cs_l1Cur_among hr5) <| PI (1 : Nat) <| P1 (cs_l1Cur_among hr6) <| P1 (apL l21 [(Gi_Attack.mk r5.1 r6.1)]) <| P1 (apB h7) <| P1 (apM gi_Attack l21 [(Gi_Attack.mk r5.1 r6.1)]) <| P0))
        (fun h4 H =>
          gN [rg [hF 0]] (by kernel_rfl) (P2 (((r3.1 : Int) == 0) = false) (beqF h4) <| P0) <|
          eIf H (fun h5 H =>
            eCk H fun h6 H =>
            eN H <| gE func84 [rg [hT 0], rg [{ i := 2, keep := true, n := (l21 ++ l21).length, xs := List.map gi_Attack (l21 ++ l21) }], r0] (by kernel_rfl) (P2 (((r3.1 : Int) == 1) = true) (beqT h5) <| P2 (AllFl (List.map gi_Attack l21)) (allFl_79 _) <| P1 (apL l21 l21) <| P1 (apB h6) <| P1 (apM gi_Attack l21 l21) <| P0))
          (fun h5 H =>
            eN H <| gE func84 [rg [hF 0], r0] (by kernel_rfl) (P2 (((r3.1 : Int) == 1) = false) (beqF h5) <| P0)))))
  | .h3 t0 t1 t2 t3 t4 b5 b6 b7 b8 b9 b10 b11 b12 b13 b14 b15 b16 b17 b18 b19 b20 b21 b22 b23 l24 l25 l26 l27 l28 l29 l30, o, H =>
    eIf H (fun h1 H =>
      eCk H fun h2 H =>
      eBind H fun x3 hx3 H =>
      eCk H fun h4 H =>
      eBind H fun x5 hx5 H =>
      gN [rg [hT 0], r0] (by kernel_rfl) (P2 ((decide (t4 < t3)) = true) (decide_eq_true h1) <| P0) <|
      eIf H (fun h6 H =>
        eN H fun r hn => gO [rg [hE 5 (gi_Unit x3), hE 11 (gi_Unit x5), hF 12], r0, .canon [0, 1, 2, 3, 4, 5, 6, 7, 8, 9, 10, 11] [0, 2, 3, 5, 6, 12, 13, 87, 88, 93, 94]] (by kernel_rfl) (P1 h2 <| P1 (int_lt_of_at h2 hx3) <| P1 (at_map gi_Unit hx3) <| P1 h4 <| P1 (int_lt_of_at h4 hx5) <| P1 (at_map gi_Unit hx5) <| P2 (((x3.Side : Int) != x5.Side) = false) (bneF h6) <| P0) hn)
      (fun h6 H =>
        eCk H fun h7 H =>
        eBind H fun x8 hx8 H =>
        eIf H (fun h9 H =>
          eCk H fun h10 H =>
          eBind H fun x11 hx11 H =>
          eBind H fun r12 hr12 H =>
          eIf H (fun h13 H =>
            eBind H fun r14 hr14 H =>
            eIf H (fun h15 H =>
              eN H fun r hn => gO [rg [hE 5 (gi_Unit x3), hE 11 (gi_Unit x5), hT 12, hE 19 (gi_Unit x8), hT 20, hE 30 (gi_Unit x11), hC 32 false [] (RI r12) [], hT 33, { i := 37, call := some { cl := true, auto := true, ins := [0], res := (Rs_l1Cur_one r14), G' := (Ns_l1Cur_one r14) }, dec := some true }], r0, .canon [0, 1, 2, 3, 4, 5, 6, 7, 8, 9, 10, 11] [0, 2, 3, 5, 6, 12, 13, 87, 88, 93, 94]] (by kernel_rfl) (P1 h2 <| P1 (int_lt_of_at h2 hx3) <| P1 (at_map gi_Unit hx3) <| P1 h4 <| P1 (int_lt_of_at h4 hx5) <| P1 (at_map gi_Unit hx5) <| P2 (((x3.Side : Int) != x5.Side) = true) (bneT h6) <| P1 h7 <| P1 (int_lt_of_at h7 hx8) <| P1 (at_map gi_Unit hx8) <| P2 ((decide (x8.At ≥ 0)) = true) (decide_eq_true h9) <| P1 h10 <| P1 (int_lt_of_at h10 hx11) <| P1 (at_map gi_Unit hx11) <| P1 (cs_aSide hr12) <| P2 ((decide (r12 ≥ 0)) = true) (decide_eq_true h13) <| PI (1 : Nat) <| P1 (cs_l1Cur_one hr14) <| P2 (r14.1 = true) (h15) <| P0) hn)
            (fun h15 H =>
              eCk H fun h16 H =>
              eBind H fun x17 hx17 H =>
              eCk H fun h18 H =>
              eN H fun r hn => gO [rg [hE 5 (gi_Unit x3), hE 11 (gi_Unit x5), hT 12, hE 19 (gi_Unit x8), hT 20, hE 30 (gi_Unit x11), hC 32 false [] (RI r12) [], hT 33, { i := 37, call := some { cl := true, auto := true, ins := [0], res := (Rs_l1Cur_one r14), G' := (Ns_l1Cur_one r14) }, dec := some false }], rg [hE 7 (gi_Unit x17), hA 10 ((l24 ++ [(Gi_Attack.mk t0 x17.At)]).length) (List.map gi_Attack (l24 ++ [(Gi_Attack.mk t0 x17.At)]))], r0, .canon [0, 1, 2, 3, 4, 13, 6, 7, 8, 9, 10, 11] [0, 2, 3, 5, 6, 12, 13, 87, 88, 93, 94]] (by kernel_rfl) (P1 h2 <| P1 (int_lt_of_at h2 hx3) <| P1 (at_map gi_Unit hx3) <| P1 h4 <| P1 (int_lt_of_at h4 hx5) <| P1 (at_map gi_Unit hx5) <| P2 (((x3.Side : Int) != x5.Side) = true) (bneT h6) <| P1 h7 <| P1 (int_lt_of_at h7 hx8) <| P1 (at_map gi_Unit hx8) <| P2 ((decide (x8.At ≥ 0)) = true) (decide_eq_true h9) <| P1 h10 <| P1 (int_lt_of_at h10 hx11) <| P1 (at_map gi_Unit hx11) <| P1 (cs_aSide hr12) <| P2 ((decide (r12 ≥ 0)) = true) (decide_eq_true h13) <| PI (1 : Nat) <| P1 (cs_l1Cur_one hr14) <| P2 (r14.1 = false) (eqF h15) <| P1 h16 <| P1 (int_lt_of_at h16 hx17) <| P1 (at_map gi_Unit hx17) <| P1 (apL l24 [(Gi_Attack.mk t0 x17.At)]) <| P1 (apB h18) <| P1 (apM gi_Attack l24 [(Gi_Attack.mk t0 x17.At)]) <| P0) hn))
          (fun h13 H =>
            eN H fun r hn => gO [rg [hE 5 (gi_Unit x3), hE 11 (gi_Unit x5), hT 12, hE 19 (gi_Unit x8), hT 20, hE 30 (gi_Unit x11), hC 32 false [] (RI r12) [], hF 33], r0, .canon [0, 1, 2, 3, 4, 5, 6, 7, 8, 9, 10, 11] [0, 2, 3, 5, 6, 12, 13, 87, 88, 93, 94]] (by kernel_rfl) (P1 h2 <| P1 (int_lt_of_at h2 hx3) <| P1 (at_map gi_Unit hx3) <| P1 h4 <| P1 (int_lt_of_at h4 hx5) <| P1 (at_map gi_Unit hx5) <| P2 (((x3.Side : Int) != x5.Side) = true) (bneT h6) <| P1 h7 <| P1 (int_lt_of_at h7 hx8) <| P1 (at_map gi_Unit hx8) <| P2 ((decide (x8.At ≥ 0)) = true) (decide_eq_true h9) <| P1 h10 <| P1 (int_lt_of_at h10 hx11) <| P1 (at_map gi_Unit hx11) <| P1 (cs_aSide hr12) <| P2 ((decide (r12 ≥ 0)) = false) (decide_eq_false h13) <| P0) hn))
        (fun h9 H =>
          eN H fun r hn => gO [rg [hE 5 (gi_Unit x3), hE 11 (gi_Unit x5), hT 12, hE 19 (gi_Unit x8), hF 20], r0, .canon [0, 1, 2, 3, 4, 5, 6, 7, 8, 9, 10, 11] [0, 2, 3, 5, 6, 12, 13, 87, 88, 93, 94]] (by kernel_rfl) (P1 h2 <| P1 (int_lt_of_at h2 hx3) <| P1 (at_map gi_Unit hx3) <| P1 h4 <| P1 (int_lt_of_at h4 hx5) <| P1 (at_map gi_Unit hx5) <| P2 (((x3.Side : Int) != x5.Side) = true) (bneT h6) <| P1 h7 <| P1 (int_lt_of_at h7 hx8) <| P1 (at_map gi_Unit hx8) <| P2 ((decide (x8.At ≥ 0)) = false) (decide_eq_false h9) <| P0) hn)))
    (fun h1 H =>
      eN H fun r hn => gO [rg [hF 0], r0, .canon [0, 1, 2, 3, 4, 5, 6, 7, 8, 9, 10, 11] [0, 2, 3, 5, 6, 12, 87, 88]] (by kernel_rfl) (P2 ((decide (t4 < t3)) = false) (decide_eq_false h1) <| P0) hn)
theorem ws_l1Cur_fought : ∀ s r, loop Bs_l1Cur_fought s = some r → Wc X 84 1 (Ks_l1Cur_fought s) (Zs_l1Cur_fought s) (Rs_l1Cur_fought r) (Ns_l1Cur_fought r) := Nx.all ns_l1Cur_fought
theorem cs_l1Cur_fought {a0 : Gs_l1Cur} {r : Gi_Board × Gi_State × (List Gi_Attack) × Gs_l1Cur} (H : Ds_l1Cur_fought a0 = some r) : Ct X.P X.gl 84 [.ptr 0 3 0 0] [⟨false, true, 3, 1, [.agg [sl 1 (D.int .u8) a0.code, I a0.at_, .int .u64 a0.seed]]⟩] (Rs_l1Cur_fought r) (Ns_l1Cur_fought r) :=
  Ct.of func84 (c := bdy f84) (by kernel_rfl) (by kernel_rfl) <|
  eBind H fun r1 hr1 H =>
  eBind H fun r2 hr2 H =>
  eBind H fun r3 hr3 H =>
  gS [r0, rg [hC 1 true [0] (Rs_l1Cur_anyBoard r1) (Ns_l1Cur_anyBoard r1)], rg [{ i := 2, frz := [3, 4, 12, 13, 14], call := some { cl := true, ins := [0], args := [.ptr 0 3 0 0, .agg [sl 5 gi_Terrain r1.1.Rules.Terrains, sl 6 gi_Kind r1.1.Rules.Kinds, I r1.1.Rules.Stack, I r1.1.Rules.River, I r1.1.Rules.Road, I r1.1.Rules.Supply, I r1.1.Rules.Turns, I r1.1.Map.Width, I r1.1.Map.Height, sl 1 I r1.1.Map.Terrain, sl 1 I r1.1.Map.Rivers, sl 1 I r1.1.Map.Roads]], res := Rs_l1Cur_anyState r2, G' := Ns_l1Cur_anyState r2 }, post := [.er 3 (List.map gi_Terrain r1.1.Rules.Terrains)], xtra := [3] }]] (by kernel_rfl) (PI (1 : Nat) <| P1 (cs_l1Cur_anyBoard hr1) <| PI (0 : Nat) <| PI (0 : Nat) <| PE ero_127 r1.1.Rules.Terrains <| PL gi_Kind r1.1.Rules.Kinds <| PI (r1.1.Rules.Stack : Int) <| PI (r1.1.Rules.River : Int) <| PI (r1.1.Rules.Road : Int) <| PI (r1.1.Rules.Supply : Int) <| PI (r1.1.Rules.Turns : Int) <| PI (r1.1.Map.Width : Int) <| PI (r1.1.Map.Height : Int) <| PL I r1.1.Map.Terrain <| PL I r1.1.Map.Rivers <| PL I r1.1.Map.Roads <| PI (1 : Nat) <| P1 (cs_l1Cur_anyState hr2) <| P2 (erL (List.map goi_Terrain r1.1.Rules.Terrains) = erL (List.map gi_Terrain r1.1.Rules.Terrains)) (erL_map2 ero_127 r1.1.Rules.Terrains) <| P0) <|
  eIf H (fun h4 H =>
    eBind H fun r5 hr5 H =>
    gO [rg [{ i := 2, call := some { cl := false, auto := true, ins := [], res := (RB r3), G' := [] }, dec := some true }], rg [hC 1 true [0] (Rs_l1Cur_pick r5) (Ns_l1Cur_pick r5)], .canon [0, 1, 2, 15, 19, 3, 4, 12, 13, 14, 18] [0, 2, 3, 5, 6, 7]] (by kernel_rfl) (P1 (cs_sGood hr3) <| P2 (r3 = true) (h4) <| PI (1 : Nat) <| P1 (cs_l1Cur_pick hr5) <| P0) (ws_l1Cur_fought _ _ H))
  (fun h4 H =>
    eW Rs_l1Cur_fought Ns_l1Cur_fought H <| gE func84 [rg [{ i := 2, call := some { cl := false, auto := true, ins := [], res := (RB r3), G' := [] }, dec := some false }], r0] (by kernel_rfl) (P1 (cs_sGood hr3) <| P2 (r3 = false) (eqF h4) <| P0))
/-! loop example/g00886/spec DrawBattlesOf -/
def Rs_DrawBattlesOf (r : Gi_Board × Gi_State × (List Gi_Attack)) : List D := [.agg [sl 5 gi_Terrain r.1.Rules.Terrains, sl 6 gi_Kind r.1.Rules.Kinds, I r.1.Rules.Stack, I r.1.Rules.River, I r.1.Rules.Road, I r.1.Rules.Supply, I r.1.Rules.Turns, I r.1.Map.Width, I r.1.Map.Height, sl 1 I r.1.Map.Terrain, sl 1 I r.1.Map.Rivers, sl 1 I r.1.Map.Roads], .agg [I r.2.1.Turn, I r.2.1.Weather, ow 4 gi_Unit r.2.1.Units], ow 2 gi_Attack r.2.2]
theorem cs_DrawBattlesOf {a0 : (List Int)} {r : Gi_Board × Gi_State × (List Gi_Attack)} (H : Ds_DrawBattlesOf a0 = some r) : Ct X.P X.gl 37 [sl 1 (D.int .u8) a0] [] (Rs_DrawBattlesOf r) [] :=
  Ct.of func37 (c := bdy f37) (by kernel_rfl) (by kernel_rfl) <|
  eBind H fun r1 hr1 H =>
  eW Rs_DrawBattlesOf (fun _ => []) H <| gE func37 [r0, r0, rg [hC 1 true [2] (Rs_l1Cur_fought r1) (Ns_l1Cur_fought r1)]] (by kernel_rfl) (PI (1 : Nat) <| P1 (cs_l1Cur_fought hr1) <| P0)
/-! loop example/g00886/impl inRange -/
theorem ci_inRange {a0 : Int} {a1 : Int} {a2 : Int} {r : Bool} (H : Di_inRange a0 a1 a2 = some r) : Ct X.P X.gl 100 [I a0, I a1, I a2] [] (RB r) [] :=
  Ct.of func100 (c := bdy f100) (by kernel_rfl) (by kernel_rfl) <|
  gS [r0] (by kernel_rfl) P0 <|
  eIf H (fun h1 H =>
    eW RB (fun _ => []) H <| gE func100 [rg [hT 2]] (by kernel_rfl) (P2 ((decide (a1 ≤ a0)) = true) (decide_eq_true h1) <| P0))
  (fun h1 H =>
    eW RB (fun _ => []) H <| gE func100 [rg [hF 2]] (by kernel_rfl) (P2 ((decide (a1 ≤ a0)) = false) (decide_eq_false h1) <| P0))
/-! loop example/g00886/impl isName -/
noncomputable def Ki_isName : Si_isName → List Item
  | .h1 .. => nav 300 2 [] [.code (bdy f180)]
def Zi_isName : Si_isName → St
  | .h1 s0 i1 => ⟨sts 23 [(0, .str s0), (3, I i1)], []⟩
abbrev Qi_isName := Nx X 180 0 Ki_isName Zi_isName RB (fun _ => [])
theorem ni_isName : ∀ s o, Bi_isName s = some o → Qi_isName (Ki_isName s) (Zi_isName s) o
  | .h1 s0 i1, o, H =>
    eIf H (fun h1 H =>
      eCk H fun h2 H =>
      eCk H fun h3 H =>
      gN [rg [hT 3]] (by kernel_rfl) (P2 ((decide (i1 < ((ByteArray.size s0 : Nat) : Int))) = true) (decide_eq_true h1) <| P0) <|
      eIf H (fun h4 H =>
        eN H <| gE func180 [rg [{ i := 2, n := byteAt s0 (Int.toNat i1) }, hT 3], r0] (by kernel_rfl) (P2 ((0 : Int) ≤ i1) h2 <| P2 (i1 < (ByteArray.size s0 : Int)) h3 <| P2 ((s0.data.toList[(Int.toNat i1)]?.map fun b => (b.toNat : Int)) = some ((byteAt s0 (Int.toNat i1) : Nat) : Int)) (byteAt_ok (by omega)) <| P2 ((decide (((byteAt s0 (Int.toNat i1) : Nat) : Int) < 97)) = true) (decide_eq_true h4) <| P0))
      (fun h4 H =>
        eCk H fun h5 H =>
        eCk H fun h6 H =>
        eIf H (fun h7 H =>
          eN H <| gE func180 [rg [{ i := 2, n := byteAt s0 (Int.toNat i1) }, hF 3, { i := 7, n := byteAt s0 (Int.toNat i1) }, hT 8], r0] (by kernel_rfl) (P2 ((0 : Int) ≤ i1) h2 <| P2 (i1 < (ByteArray.size s0 : Int)) h3 <| P2 ((s0.data.toList[(Int.toNat i1)]?.map fun b => (b.toNat : Int)) = some ((byteAt s0 (Int.toNat i1) : Nat) : Int)) (byteAt_ok (by omega)) <| P2 ((decide (((byteAt s0 (Int.toNat i1) : Nat) : Int) < 97)) = false) (decide_eq_false h4) <| P2 ((0 : Int) ≤ i1) h5 <| P2 (i1 < (ByteArray.size s0 : Int)) h6 <| P2 ((s0.data.toList[(Int.toNat i1)]?.map fun b => (b.toNat : Int)) = some ((byteAt s0 (Int.toNat i1) : Nat) : Int)) (byteAt_ok (by omega)) <| P2 ((decide (((byteAt s0 (Int.toNat i1) : Nat) : Int) > 122)) = true) (decide_eq_true h7) <| P0))
        (fun h7 H =>
          eN H fun r hn => gO [rg [{ i := 2, n := byteAt s0 (Int.toNat i1) }, hF 3, { i := 7, n := byteAt s0 (Int.toNat i1) }, hF 8], r0, .canon [] [0, 3]] (by kernel_rfl) (P2 ((0 : Int) ≤ i1) h2 <| P2 (i1 < (ByteArray.size s0 : Int)) h3 <| P2 ((s0.data.toList[(Int.toNat i1)]?.map fun b => (b.toNat : Int)) = some ((byteAt s0 (Int.toNat i1) : Nat) : Int)) (byteAt_ok (by omega)) <| P2 ((decide (((byteAt s0 (Int.toNat i1) : Nat) : Int) < 97)) = false) (decide_eq_false h4) <| P2 ((0 : Int) ≤ i1) h5 <| P2 (i1 < (ByteArray.size s0 : Int)) h6 <| P2 ((s0.data.toList[(Int.toNat i1)]?.map fun b => (b.toNat : Int)) = some ((byteAt s0 (Int.toNat i1) : Nat) : Int)) (byteAt_ok (by omega)) <| P2 ((decide (((byteAt s0 (Int.toNat i1) : Nat) : Int) > 122)) = false) (decide_eq_false h7) <| P0) hn)))
    (fun h1 H =>
      eBind H fun r2 hr2 H =>
      eN H <| gE func180 [rg [hF 3], rg [hC 2 true [] (RB r2) []]] (by kernel_rfl) (P2 ((decide (i1 < ((ByteArray.size s0 : Nat) : Int))) = false) (decide_eq_false h1) <| P1 (ci_inRange hr2) <| P0))
theorem wi_isName : ∀ s r, loop Bi_isName s = some r → Wc X 180 0 (Ki_isName s) (Zi_isName s) (RB r) ((fun _ => []) r) := Nx.all ni_isName
theorem ci_isName {a0 : ByteArray} {r : Bool} (H : Di_isName a0 = some r) : Ct X.P X.gl 180 [.str a0] [] (RB r) [] :=
  Ct.of func180 (c := bdy f180) (by kernel_rfl) (by kernel_rfl) <|
  gO [r0, r0, .canon [] [0, 3]] (by kernel_rfl) P0 (wi_isName _ _ H)
/-! loop example/g00886/impl goodTerrain 1 -/
theorem ci_goodTerrain_1 {a0 : Int} {r : Bool} (H : Di_goodTerrain_1 a0 = some r) : Ct X.P X.gl 181 [I a0] [] (RB r) [] :=
  Ct.of func181 (c := bdy f181) (by kernel_rfl) (by kernel_rfl) <|
  eBind H fun r1 hr1 H =>
  eW RB (fun _ => []) H <| gE func181 [r0, rg [hC 1 true [] (RB r1) []]] (by kernel_rfl) (P1 (ci_inRange hr1) <| P0)
/-! slices IndexFunc   int int  -/
noncomputable def Kslices_IndexFunc_int_i_goodTerrain_1 : Sslices_IndexFunc_int_i_goodTerrain_1 → List Item
  | .h1 .. => nav 300 2 [] [.code (bdy f166)]
def Zslices_IndexFunc_int_i_goodTerrain_1 : Sslices_IndexFunc_int_i_goodTerrain_1 → St
  | .h1 s0 t1 t2 => ⟨sts 19 [(0, sl 1 I s0), (1, .fn 181 []), (7, I t1), (8, I t2)], []⟩
abbrev Qslices_IndexFunc_int_i_goodTerrain_1 := Nx X 166 0 Kslices_IndexFunc_int_i_goodTerrain_1 Zslices_IndexFunc_int_i_goodTerrain_1 RI (fun _ => [])
theorem nslices_IndexFunc_int_i_goodTerrain_1 : ∀ s o, Bslices_IndexFunc_int_i_goodTerrain_1 s = some o → Qslices_IndexFunc_int_i_goodTerrain_1 (Kslices_IndexFunc_int_i_goodTerrain_1 s) (Zslices_IndexFunc_int_i_goodTerrain_1 s) o
  | .h1 s0 t1 t2, o, H =>
    eIf H (fun h1 H =>
      eCk H fun h2 H =>
      eBind H fun x3 hx3 H =>
      eBind H fun r4 hr4 H =>
      gN [rg [hT 0], r0] (by kernel_rfl) (P2 ((decide (t2 < t1)) = true) (decide_eq_true h1) <| P0) <|
      eIf H (fun h5 H =>
        eN H <| gE func166 [rg [hE 4 (I x3), { i := 5, call := some { cl := true, auto := true, ins := [], res := (RB r4), G' := [] }, dec := some true }], r0] (by kernel_rfl) (P1 h2 <| P1 (int_lt_of_at h2 hx3) <| P1 (at_map I hx3) <| P1 (ci_goodTerrain_1 hr4) <| P2 (r4 = true) (h5) <| P0))
      (fun h5 H =>
        eN H fun r hn => gO [rg [hE 4 (I x3), { i := 5, call := some { cl := true, auto := true, ins := [], res := (RB r4), G' := [] }, dec := some false }], r0, .canon [] [0, 1, 7, 8]] (by kernel_rfl) (P1 h2 <| P1 (int_lt_of_at h2 hx3) <| P1 (at_map I hx3) <| P1 (ci_goodTerrain_1 hr4) <| P2 (r4 = false) (eqF h5) <| P0) hn))
    (fun h1 H =>
      eN H <| gE func166 [rg [hF 0], r0] (by kernel_rfl) (P2 ((decide (t2 < t1)) = false) (decide_eq_false h1) <| P0))
theorem wslices_IndexFunc_int_i_goodTerrain_1 : ∀ s r, loop Bslices_IndexFunc_int_i_goodTerrain_1 s = some r → Wc X 166 0 (Kslices_IndexFunc_int_i_goodTerrain_1 s) (Zslices_IndexFunc_int_i_goodTerrain_1 s) (RI r) ((fun _ => []) r) := Nx.all nslices_IndexFunc_int_i_goodTerrain_1
theorem cslices_IndexFunc_int_i_goodTerrain_1 {a0 : (List Int)} {r : Int} (H : Dslices_IndexFunc_int_i_goodTerrain_1 a0 = some r) : Ct X.P X.gl 166 [sl 1 I a0, .fn 181 []] [] (RI r) [] :=
  Ct.of func166 (c := bdy f166) (by kernel_rfl) (by kernel_rfl) <|
  gO [r0, r0, .canon [] [0, 1, 7, 8]] (by kernel_rfl) P0 (wslices_IndexFunc_int_i_goodTerrain_1 _ _ H)
/-! slices ContainsFunc   int int  -/
theorem cslices_ContainsFunc_int_i_goodTerrain_1 {a0 : (List Int)} {r : Bool} (H : Dslices_ContainsFunc_int_i_goodTerrain_1 a0 = some r) : Ct X.P X.gl 143 [sl 1 I a0, .fn 181 []] [] (RB r) [] :=
  Ct.of func143 (c := bdy f143) (by kernel_rfl) (by kernel_rfl) <|
  eBind H fun r1 hr1 H =>
  eW RB (fun _ => []) H <| gE func143 [r0, rg [hC 2 true [] (RI r1) []]] (by kernel_rfl) (P1 (cslices_IndexFunc_int_i_goodTerrain_1 hr1) <| P0)
/-! loop example/g00886/impl goodTerrain -/
theorem ci_goodTerrain {a0 : Gi_Terrain} {a1 : Int} {r : Bool} (H : Di_goodTerrain a0 a1 = some r) : Ct X.P X.gl 162 [.agg [.str a0.Name, sl 1 I a0.Cost, I a0.Shift, I a0.Height, .bool a0.Blocks], I a1] [] (RB r) [] :=
  Ct.of func162 (c := bdy f162) (by kernel_rfl) (by kernel_rfl) <|
  eBind H fun r1 hr1 H =>
  gS [r0] (by kernel_rfl) P0 <|
  eIf H (fun h2 H =>
    eIf H (fun h3 H =>
      eBind H fun r4 hr4 H =>
      eIf H (fun h5 H =>
        eBind H fun r6 hr6 H =>
        eIf H (fun h7 H =>
          eBind H fun r8 hr8 H =>
          eW RB (fun _ => []) H <| gE func162 [rg [{ i := 2, call := some { cl := true, auto := true, ins := [], res := (RB r1), G' := [] }, dec := some true }, hF 9, { i := 14, call := some { cl := true, auto := true, ins := [], res := (RB r4), G' := [] }, dec := some true }, { i := 20, call := some { cl := true, auto := true, ins := [], res := (RB r6), G' := [] }, dec := some true }], rg [hC 2 true [] (RB r8) []]] (by kernel_rfl) (P1 (ci_isName hr1) <| P2 (r1 = true) (h2) <| P2 (((((a0.Cost.length : Nat) : Int) : Int) != a1) = false) (bneF h3) <| P1 (ci_inRange hr4) <| P2 (r4 = true) (h5) <| P1 (ci_inRange hr6) <| P2 (r6 = true) (h7) <| P1 (cslices_ContainsFunc_int_i_goodTerrain_1 hr8) <| P0))
        (fun h7 H =>
          eW RB (fun _ => []) H <| gE func162 [rg [{ i := 2, call := some { cl := true, auto := true, ins := [], res := (RB r1), G' := [] }, dec := some true }, hF 9, { i := 14, call := some { cl := true, auto := true, ins := [], res := (RB r4), G' := [] }, dec := some true }, { i := 20, call := some { cl := true, auto := true, ins := [], res := (RB r6), G' := [] }, dec := some false }], r0] (by kernel_rfl) (P1 (ci_isName hr1) <| P2 (r1 = true) (h2) <| P2 (((((a0.Cost.length : Nat) : Int) : Int) != a1) = false) (bneF h3) <| P1 (ci_inRange hr4) <| P2 (r4 = true) (h5) <| P1 (ci_inRange hr6) <| P2 (r6 = false) (eqF h7) <| P0)))
      (fun h5 H =>
        eW RB (fun _ => []) H <| gE func162 [rg [{ i := 2, call := some { cl := true, auto := true, ins := [], res := (RB r1), G' := [] }, dec := some true }, hF 9, { i := 14, call := some { cl := true, auto := true, ins := [], res := (RB r4), G' := [] }, dec := some false }], r0] (by kernel_rfl) (P1 (ci_isName hr1) <| P2 (r1 = true) (h2) <| P2 (((((a0.Cost.length : Nat) : Int) : Int) != a1) = false) (bneF h3) <| P1 (ci_inRange hr4) <| P2 (r4 = false) (eqF h5) <| P0)))
    (fun h3 H =>
      eW RB (fun _ => []) H <| gE func162 [rg [{ i := 2, call := some { cl := true, auto := true, ins := [], res := (RB r1), G' := [] }, dec := some true }, hT 9], r0] (by kernel_rfl) (P1 (ci_isName hr1) <| P2 (r1 = true) (h2) <| P2 (((((a0.Cost.length : Nat) : Int) : Int) != a1) = true) (bneT h3) <| P0)))
  (fun h2 H =>
    eW RB (fun _ => []) H <| gE func162 [rg [{ i := 2, call := some { cl := true, auto := true, ins := [], res := (RB r1), G' := [] }, dec := some false }], r0] (by kernel_rfl) (P1 (ci_isName hr1) <| P2 (r1 = false) (eqF h2) <| P0))
/-! loop example/g00886/impl terrainIndex 1 -/
theorem ci_terrainIndex_1 {a0 : Gi_Terrain} {a1 : ByteArray} {r : Bool} (H : Di_terrainIndex_1 a0 a1 = some r) : Ct X.P X.gl 183 [.agg [.str a0.Name, sl 1 I a0.Cost, I a0.Shift, I a0.Height, .bool a0.Blocks], .fptr 1 [.agg [.str a1]] 0 0] [] (RB r) [] :=
  Ct.of func183 (c := bdy f183) (by kernel_rfl) (by kernel_rfl) <|
  eW RB (fun _ => []) H <| gE func183 [r0, r0] (by kernel_rfl) P0
/-! slices IndexFunc   loop example/g00886/impl Terrain loop example/g00886/impl Terrain  -/
noncomputable def Kslices_IndexFunc_i_Terrain_i_terrainIndex_1 : Sslices_IndexFunc_i_Terrain_i_terrainIndex_1 → List Item
  | .h1 .. => nav 300 2 [] [.code (bdy f182)]
def Zslices_IndexFunc_i_Terrain_i_terrainIndex_1 : Sslices_IndexFunc_i_Terrain_i_terrainIndex_1 → St
  | .h1 s0 f1 t2 t3 => ⟨sts 19 [(0, sl 5 gi_Terrain s0), (1, .fn 183 [.fptr 1 [.agg [.str f1]] 0 0]), (7, I t2), (8, I t3)], []⟩
abbrev Qslices_IndexFunc_i_Terrain_i_terrainIndex_1 := Nx X 182 0 Kslices_IndexFunc_i_Terrain_i_terrainIndex_1 Zslices_IndexFunc_i_Terrain_i_terrainIndex_1 RI (fun _ => [])
theorem nslices_IndexFunc_i_Terrain_i_terrainIndex_1 : ∀ s o, Bslices_IndexFunc_i_Terrain_i_terrainIndex_1 s = some o → Qslices_IndexFunc_i_Terrain_i_terrainIndex_1 (Kslices_IndexFunc_i_Terrain_i_terrainIndex_1 s) (Zslices_IndexFunc_i_Terrain_i_terrainIndex_1 s) o
  | .h1 s0 f1 t2 t3, o, H =>
    eIf H (fun h1 H =>
      eCk H fun h2 H =>
      eBind H fun x3 hx3 H =>
      eBind H fun r4 hr4 H =>
      gN [rg [hT 0], r0] (by kernel_rfl) (P2 ((decide (t3 < t2)) = true) (decide_eq_true h1) <| P0) <|
      eIf H (fun h5 H =>
        eN H <| gE func182 [rg [hE 4 (gi_Terrain x3), { i := 5, call := some { cl := true, auto := true, ins := [], res := (RB r4), G' := [] }, dec := some true }], r0] (by kernel_rfl) (P1 h2 <| P1 (int_lt_of_at h2 hx3) <| P1 (at_map gi_Terrain hx3) <| P1 (ci_terrainIndex_1 hr4) <| P2 (r4 = true) (h5) <| P0))
      (fun h5 H =>
        eN H fun r hn => gO [rg [hE 4 (gi_Terrain x3), { i := 5, call := some { cl := true, auto := true, ins := [], res := (RB r4), G' := [] }, dec := some false }], r0, .canon [] [0, 1, 7, 8]] (by kernel_rfl) (P1 h2 <| P1 (int_lt_of_at h2 hx3) <| P1 (at_map gi_Terrain hx3) <| P1 (ci_terrainIndex_1 hr4) <| P2 (r4 = false) (eqF h5) <| P0) hn))
    (fun h1 H =>
      eN H <| gE func182 [rg [hF 0], r0] (by kernel_rfl) (P2 ((decide (t3 < t2)) = false) (decide_eq_false h1) <| P0))
theorem wslices_IndexFunc_i_Terrain_i_terrainIndex_1 : ∀ s r, loop Bslices_IndexFunc_i_Terrain_i_terrainIndex_1 s = some r → Wc X 182 0 (Kslices_IndexFunc_i_Terrain_i_terrainIndex_1 s) (Zslices_IndexFunc_i_Terrain_i_terrainIndex_1 s) (RI r) ((fun _ => []) r) := Nx.all nslices_IndexFunc_i_Terrain_i_terrainIndex_1
theorem cslices_IndexFunc_i_Terrain_i_terrainIndex_1 {a0 : (List Gi_Terrain)} {a100 : ByteArray} {r : Int} (H : Dslices_IndexFunc_i_Terrain_i_terrainIndex_1 a0 a100 = some r) : Ct X.P X.gl 182 [sl 5 gi_Terrain a0, .fn 183 [.fptr 1 [.agg [.str a100]] 0 0]] [] (RI r) [] :=
  Ct.of func182 (c := bdy f182) (by kernel_rfl) (by kernel_rfl) <|
  gO [r0, r0, .canon [] [0, 1, 7, 8]] (by kernel_rfl) P0 (wslices_IndexFunc_i_Terrain_i_terrainIndex_1 _ _ H)
/-! loop example/g00886/impl terrainIndex -/
theorem ci_terrainIndex {a0 : (List Gi_Terrain)} {a1 : ByteArray} {r : Int} (H : Di_terrainIndex a0 a1 = some r) : Ct X.P X.gl 163 [sl 5 gi_Terrain a0, .str a1] [] (RI r) [] :=
  Ct.of func163 (c := bdy f163) (by kernel_rfl) (by kernel_rfl) <|
  eBind H fun r1 hr1 H =>
  eW RI (fun _ => []) H <| gE func163 [r0, rg [hC 2 false [] (RI r1) []]] (by kernel_rfl) (P1 (cslices_IndexFunc_i_Terrain_i_terrainIndex_1 hr1) <| P0)
/-! loop example/g00886/impl goodKind -/
theorem ci_goodKind {a0 : Gi_Kind} {r : Bool} (H : Di_goodKind a0 = some r) : Ct X.P X.gl 164 [.agg [.str a0.Name, I a0.Strength, I a0.Moves, I a0.Steps, .bool a0.Zone, I a0.View]] [] (RB r) [] :=
  Ct.of func164 (c := bdy f164) (by kernel_rfl) (by kernel_rfl) <|
  eBind H fun r1 hr1 H =>
  gS [r0] (by kernel_rfl) P0 <|
  eIf H (fun h2 H =>
    eBind H fun r3 hr3 H =>
    eIf H (fun h4 H =>
      eBind H fun r5 hr5 H =>
      eIf H (fun h6 H =>
        eBind H fun r7 hr7 H =>
        eIf H (fun h8 H =>
          eBind H fun r9 hr9 H =>
          eW RB (fun _ => []) H <| gE func164 [rg [{ i := 2, call := some { cl := true, auto := true, ins := [], res := (RB r1), G' := [] }, dec := some true }, { i := 6, call := some { cl := true, auto := true, ins := [], res := (RB r3), G' := [] }, dec := some true }, { i := 11, call := some { cl := true, auto := true, ins := [], res := (RB r5), G' := [] }, dec := some true }, { i := 16, call := some { cl := true, auto := true, ins := [], res := (RB r7), G' := [] }, dec := some true }, hC 21 true [] (RB r9) []]] (by kernel_rfl) (P1 (ci_isName hr1) <| P2 (r1 = true) (h2) <| P1 (ci_inRange hr3) <| P2 (r3 = true) (h4) <| P1 (ci_inRange hr5) <| P2 (r5 = true) (h6) <| P1 (ci_inRange hr7) <| P2 (r7 = true) (h8) <| P1 (ci_inRange hr9) <| P0))
        (fun h8 H =>
          eW RB (fun _ => []) H <| gE func164 [rg [{ i := 2, call := some { cl := true, auto := true, ins := [], res := (RB r1), G' := [] }, dec := some true }, { i := 6, call := some { cl := true, auto := true, ins := [], res := (RB r3), G' := [] }, dec := some true }, { i := 11, call := some { cl := true, auto := true, ins := [], res := (RB r5), G' := [] }, dec := some true }, { i := 16, call := some { cl := true, auto := true, ins := [], res := (RB r7), G' := [] }, dec := some false }]] (by kernel_rfl) (P1 (ci_isName hr1) <| P2 (r1 = true) (h2) <| P1 (ci_inRange hr3) <| P2 (r3 = true) (h4) <| P1 (ci_inRange hr5) <| P2 (r5 = true) (h6) <| P1 (ci_inRange hr7) <| P2 (r7 = false) (eqF h8) <| P0)))
      (fun h6 H =>
        eW RB (fun _ => []) H <| gE func164 [rg [{ i := 2, call := some { cl := true, auto := true, ins := [], res := (RB r1), G' := [] }, dec := some true }, { i := 6, call := some { cl := true, auto := true, ins := [], res := (RB r3), G' := [] }, dec := some true }, { i := 11, call := some { cl := true, auto := true, ins := [], res := (RB r5), G' := [] }, dec := some false }]] (by kernel_rfl) (P1 (ci_isName hr1) <| P2 (r1 = true) (h2) <| P1 (ci_inRange hr3) <| P2 (r3 = true) (h4) <| P1 (ci_inRange hr5) <| P2 (r5 = false) (eqF h6) <| P0)))
    (fun h4 H =>
      eW RB (fun _ => []) H <| gE func164 [rg [{ i := 2, call := some { cl := true, auto := true, ins := [], res := (RB r1), G' := [] }, dec := some true }, { i := 6, call := some { cl := true, auto := true, ins := [], res := (RB r3), G' := [] }, dec := some false }]] (by kernel_rfl) (P1 (ci_isName hr1) <| P2 (r1 = true) (h2) <| P1 (ci_inRange hr3) <| P2 (r3 = false) (eqF h4) <| P0)))
  (fun h2 H =>
    eW RB (fun _ => []) H <| gE func164 [rg [{ i := 2, call := some { cl := true, auto := true, ins := [], res := (RB r1), G' := [] }, dec := some false }]] (by kernel_rfl) (P1 (ci_isName hr1) <| P2 (r1 = false) (eqF h2) <| P0))
/-! loop example/g00886/impl kindIndex 1 -/
theorem ci_kindIndex_1 {a0 : Gi_Kind} {a1 : ByteArray} {r : Bool} (H : Di_kindIndex_1 a0 a1 = some r) : Ct X.P X.gl 185 [.agg [.str a0.Name, I a0.Strength, I a0.Moves, I a0.Steps, .bool a0.Zone, I a0.View], .fptr 1 [.agg [.str a1]] 0 0] [] (RB r) [] :=
  Ct.of func185 (c := bdy f185) (by kernel_rfl) (by kernel_rfl) <|
  eW RB (fun _ => []) H <| gE func185 [r0, r0] (by kernel_rfl) P0
/-! slices IndexFunc   loop example/g00886/impl Kind loop example/g00886/impl Kind  -/
noncomputable def Kslices_IndexFunc_i_Kind_i_kindIndex_1 : Sslices_IndexFunc_i_Kind_i_kindIndex_1 → List Item
  | .h1 .. => nav 300 2 [] [.code (bdy f184)]
def Zslices_IndexFunc_i_Kind_i_kindIndex_1 : Sslices_IndexFunc_i_Kind_i_kindIndex_1 → St
  | .h1 s0 f1 t2 t3 => ⟨sts 19 [(0, sl 6 gi_Kind s0), (1, .fn 185 [.fptr 1 [.agg [.str f1]] 0 0]), (7, I t2), (8, I t3)], []⟩
abbrev Qslices_IndexFunc_i_Kind_i_kindIndex_1 := Nx X 184 0 Kslices_IndexFunc_i_Kind_i_kindIndex_1 Zslices_IndexFunc_i_Kind_i_kindIndex_1 RI (fun _ => [])
theorem nslices_IndexFunc_i_Kind_i_kindIndex_1 : ∀ s o, Bslices_IndexFunc_i_Kind_i_kindIndex_1 s = some o → Qslices_IndexFunc_i_Kind_i_kindIndex_1 (Kslices_IndexFunc_i_Kind_i_kindIndex_1 s) (Zslices_IndexFunc_i_Kind_i_kindIndex_1 s) o
  | .h1 s0 f1 t2 t3, o, H =>
    eIf H (fun h1 H =>
      eCk H fun h2 H =>
      eBind H fun x3 hx3 H =>
      eBind H fun r4 hr4 H =>
      gN [rg [hT 0], r0] (by kernel_rfl) (P2 ((decide (t3 < t2)) = true) (decide_eq_true h1) <| P0) <|
      eIf H (fun h5 H =>
        eN H <| gE func184 [rg [hE 4 (gi_Kind x3), { i := 5, call := some { cl := true, auto := true, ins := [], res := (RB r4), G' := [] }, dec := some true }], r0] (by kernel_rfl) (P1 h2 <| P1 (int_lt_of_at h2 hx3) <| P1 (at_map gi_Kind hx3) <| P1 (ci_kindIndex_1 hr4) <| P2 (r4 = true) (h5) <| P0))
      (fun h5 H =>
        eN H fun r hn => gO [rg [hE 4 (gi_Kind x3), { i := 5, call := some { cl := true, auto := true, ins := [], res := (RB r4), G' := [] }, dec := some false }], r0, .canon [] [0, 1, 7, 8]] (by kernel_rfl) (P1 h2 <| P1 (int_lt_of_at h2 hx3) <| P1 (at_map gi_Kind hx3) <| P1 (ci_kindIndex_1 hr4) <| P2 (r4 = false) (eqF h5) <| P0) hn))
    (fun h1 H =>
      eN H <| gE func184 [rg [hF 0], r0] (by kernel_rfl) (P2 ((decide (t3 < t2)) = false) (decide_eq_false h1) <| P0))
theorem wslices_IndexFunc_i_Kind_i_kindIndex_1 : ∀ s r, loop Bslices_IndexFunc_i_Kind_i_kindIndex_1 s = some r → Wc X 184 0 (Kslices_IndexFunc_i_Kind_i_kindIndex_1 s) (Zslices_IndexFunc_i_Kind_i_kindIndex_1 s) (RI r) ((fun _ => []) r) := Nx.all nslices_IndexFunc_i_Kind_i_kindIndex_1
theorem cslices_IndexFunc_i_Kind_i_kindIndex_1 {a0 : (List Gi_Kind)} {a100 : ByteArray} {r : Int} (H : Dslices_IndexFunc_i_Kind_i_kindIndex_1 a0 a100 = some r) : Ct X.P X.gl 184 [sl 6 gi_Kind a0, .fn 185 [.fptr 1 [.agg [.str a100]] 0 0]] [] (RI r) [] :=
  Ct.of func184 (c := bdy f184) (by kernel_rfl) (by kernel_rfl) <|
  gO [r0, r0, .canon [] [0, 1, 7, 8]] (by kernel_rfl) P0 (wslices_IndexFunc_i_Kind_i_kindIndex_1 _ _ H)
/-! loop example/g00886/impl kindIndex -/
theorem ci_kindIndex {a0 : (List Gi_Kind)} {a1 : ByteArray} {r : Int} (H : Di_kindIndex a0 a1 = some r) : Ct X.P X.gl 165 [sl 6 gi_Kind a0, .str a1] [] (RI r) [] :=
  Ct.of func165 (c := bdy f165) (by kernel_rfl) (by kernel_rfl) <|
  eBind H fun r1 hr1 H =>
  eW RI (fun _ => []) H <| gE func165 [r0, rg [hC 2 false [] (RI r1) []]] (by kernel_rfl) (P1 (cslices_IndexFunc_i_Kind_i_kindIndex_1 hr1) <| P0)
end Go.Proofs.YtakcjcjfcignjaaGreatDoor.Ab
