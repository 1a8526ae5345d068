/- Part of the proof of FnQueuesCard: no condition of its own. -/
import Derived.Ground.Names2Prog
import Derived.Test.YtcblbhjbocipbaaDoorAb5
import Derived.Test.YtcblbhjbocipbaaDoorChecked
import Derived.Test.YtcblbhjbocipbaaDoorD1QD
set_option linter.unusedVariables false
set_option linter.unusedSimpArgs false
open Go Go.Proofs Go.Proofs.Tryd
namespace Go.Proofs.YtcblbhjbocipbaaDoor.Ab
def T : Tab := [(3, ⟨(Ab.TK.int IntKind.i64), 1, 8, (Ab.D.int IntKind.i64 (Int.ofNat 0))⟩),
  (4, ⟨Ab.TK.bool, 1, 1, (Ab.D.bool Bool.false)⟩),
  (5, ⟨(Ab.TK.int IntKind.u8), 1, 1, (Ab.D.int IntKind.u8 (Int.ofNat 0))⟩),
  (9, ⟨Ab.TK.str, 1, 16, (Ab.D.str (ByteArray.mk (Array.mk [])))⟩),
  (22, ⟨(Ab.TK.slice 5), 1, 24, Ab.D.nil⟩),
  (23, ⟨(Ab.TK.slice 79), 1, 24, Ab.D.nil⟩),
  (24, ⟨(Ab.TK.slice 76), 1, 24, Ab.D.nil⟩),
  (26, ⟨(Ab.TK.strct [(Ab.FI.mk 0 1 Bool.false), (Ab.FI.mk 1 1 Bool.false), (Ab.FI.mk 2 1 Bool.false), (Ab.FI.mk 3 1 Bool.false), (Ab.FI.mk 4 1 Bool.false), (Ab.FI.mk 5 1 Bool.false), (Ab.FI.mk 6 1 Bool.false)] Option.none), 7, 88, (Ab.D.agg [Ab.D.nil, Ab.D.nil, (Ab.D.int IntKind.i64 (Int.ofNat 0)), (Ab.D.int IntKind.i64 (Int.ofNat 0)), (Ab.D.int IntKind.i64 (Int.ofNat 0)), (Ab.D.int IntKind.i64 (Int.ofNat 0)), (Ab.D.int IntKind.i64 (Int.ofNat 0))])⟩),
  (27, ⟨(Ab.TK.slice 3), 1, 24, Ab.D.nil⟩),
  (29, ⟨(Ab.TK.strct [(Ab.FI.mk 0 1 Bool.false), (Ab.FI.mk 1 1 Bool.false), (Ab.FI.mk 2 1 Bool.false), (Ab.FI.mk 3 1 Bool.false), (Ab.FI.mk 4 1 Bool.false)] Option.none), 5, 88, (Ab.D.agg [(Ab.D.int IntKind.i64 (Int.ofNat 0)), (Ab.D.int IntKind.i64 (Int.ofNat 0)), Ab.D.nil, Ab.D.nil, Ab.D.nil])⟩),
  (31, ⟨(Ab.TK.strct [(Ab.FI.mk 0 7 Bool.true), (Ab.FI.mk 7 5 Bool.true)] Option.none), 12, 176, (Ab.D.agg [Ab.D.nil, Ab.D.nil, (Ab.D.int IntKind.i64 (Int.ofNat 0)), (Ab.D.int IntKind.i64 (Int.ofNat 0)), (Ab.D.int IntKind.i64 (Int.ofNat 0)), (Ab.D.int IntKind.i64 (Int.ofNat 0)), (Ab.D.int IntKind.i64 (Int.ofNat 0)), (Ab.D.int IntKind.i64 (Int.ofNat 0)), (Ab.D.int IntKind.i64 (Int.ofNat 0)), Ab.D.nil, Ab.D.nil, Ab.D.nil])⟩),
  (33, ⟨(Ab.TK.strct [(Ab.FI.mk 0 1 Bool.false), (Ab.FI.mk 1 1 Bool.false), (Ab.FI.mk 2 1 Bool.false), (Ab.FI.mk 3 1 Bool.false)] Option.none), 4, 48, (Ab.D.agg [(Ab.D.int IntKind.i64 (Int.ofNat 0)), (Ab.D.int IntKind.i64 (Int.ofNat 0)), (Ab.D.int IntKind.i64 (Int.ofNat 0)), Ab.D.nil])⟩),
  (47, ⟨(Ab.TK.int IntKind.u64), 1, 8, (Ab.D.int IntKind.u64 (Int.ofNat 0))⟩),
  (49, ⟨(Ab.TK.strct [(Ab.FI.mk 0 1 Bool.false), (Ab.FI.mk 1 1 Bool.false), (Ab.FI.mk 2 1 Bool.false)] Option.none), 3, 40, (Ab.D.agg [Ab.D.nil, (Ab.D.int IntKind.i64 (Int.ofNat 0)), (Ab.D.int IntKind.u64 (Int.ofNat 0))])⟩),
  (76, ⟨(Ab.TK.strct [(Ab.FI.mk 0 1 Bool.false), (Ab.FI.mk 1 1 Bool.false), (Ab.FI.mk 2 1 Bool.false), (Ab.FI.mk 3 1 Bool.false), (Ab.FI.mk 4 1 Bool.false), (Ab.FI.mk 5 1 Bool.false)] (Option.some [Ab.LK.str, (Ab.LK.int IntKind.i64), (Ab.LK.int IntKind.i64), (Ab.LK.int IntKind.i64), Ab.LK.bool, (Ab.LK.int IntKind.i64)])), 6, 56, (Ab.D.agg [(Ab.D.str (ByteArray.mk (Array.mk []))), (Ab.D.int IntKind.i64 (Int.ofNat 0)), (Ab.D.int IntKind.i64 (Int.ofNat 0)), (Ab.D.int IntKind.i64 (Int.ofNat 0)), (Ab.D.bool Bool.false), (Ab.D.int IntKind.i64 (Int.ofNat 0))])⟩),
  (79, ⟨(Ab.TK.strct [(Ab.FI.mk 0 1 Bool.false), (Ab.FI.mk 1 1 Bool.false), (Ab.FI.mk 2 1 Bool.false), (Ab.FI.mk 3 1 Bool.false), (Ab.FI.mk 4 1 Bool.false)] Option.none), 5, 64, (Ab.D.agg [(Ab.D.str (ByteArray.mk (Array.mk []))), Ab.D.nil, (Ab.D.int IntKind.i64 (Int.ofNat 0)), (Ab.D.int IntKind.i64 (Int.ofNat 0)), (Ab.D.bool Bool.false)])⟩),
  (81, ⟨(Ab.TK.slice 9), 1, 24, Ab.D.nil⟩),
  (93, ⟨(Ab.TK.slice 27), 1, 24, Ab.D.nil⟩),
  (104, ⟨(Ab.TK.strct [(Ab.FI.mk 0 1 Bool.false), (Ab.FI.mk 1 1 Bool.false)] (Option.some [(Ab.LK.int IntKind.i64), (Ab.LK.int IntKind.i64)])), 2, 16, (Ab.D.agg [(Ab.D.int IntKind.i64 (Int.ofNat 0)), (Ab.D.int IntKind.i64 (Int.ofNat 0))])⟩),
  (108, ⟨(Ab.TK.arr 6 104), 12, 96, (Ab.D.agg [(Ab.D.int IntKind.i64 (Int.ofNat 0)), (Ab.D.int IntKind.i64 (Int.ofNat 0)), (Ab.D.int IntKind.i64 (Int.ofNat 0)), (Ab.D.int IntKind.i64 (Int.ofNat 0)), (Ab.D.int IntKind.i64 (Int.ofNat 0)), (Ab.D.int IntKind.i64 (Int.ofNat 0)), (Ab.D.int IntKind.i64 (Int.ofNat 0)), (Ab.D.int IntKind.i64 (Int.ofNat 0)), (Ab.D.int IntKind.i64 (Int.ofNat 0)), (Ab.D.int IntKind.i64 (Int.ofNat 0)), (Ab.D.int IntKind.i64 (Int.ofNat 0)), (Ab.D.int IntKind.i64 (Int.ofNat 0))])⟩)]
noncomputable def X : Ctx := ⟨Go.Proofs.Tryd.prog, T, [(0, .fptr 12 gc0 0 0)]⟩
theorem T_ok : TabOK X.P X.T := ⟨by kernel_rfl, by kernel_rfl, by kernel_rfl, by kernel_rfl, by kernel_rfl, by kernel_rfl, by kernel_rfl, by kernel_rfl, by kernel_rfl, by kernel_rfl, by kernel_rfl, by kernel_rfl, by kernel_rfl, by kernel_rfl, by kernel_rfl, by kernel_rfl, by kernel_rfl, by kernel_rfl, by kernel_rfl, by kernel_rfl, trivial⟩
theorem mixed : X.P.follows .mixedOrders = true := Go.Proofs.Tryd.checked.mixed
theorem gO {f : FuncId} {M : Nat} {k k' : List Item} {σ σ' : St} {res : List D} {G' : List Root} (cmds : List Cmd) {ps : List Prop} (h : run X M cmds k σ = some (ps, k', σ')) (hp : AllP ps) (hk : Wc X f M k' σ' res G') : Wc X f M k σ res G' := run_ok T_ok mixed h hp hk
theorem gE {f : FuncId} {M : Nat} {k : List Item} {σ : St} {res : List D} {G' : List Root} {fn : Func} (hf : X.P.funcs[f]? = some fn) (cmds : List Cmd) {ps : List Prop} (h : runFinC X M cmds k σ fn.results.toList res = some (ps, res, G')) (hp : AllP ps) : Wc X f M k σ res G' := runFinC_ok T_ok mixed hf h hp
theorem gS {f : FuncId} {M : Nat} {k : List Item} {σ : St} {res : List D} {G' : List Root} (cmds : List Cmd) {ps : List Prop} (h : runP X M cmds k σ = some ps) (hp : AllP ps) (hk : Wc X f M (runK X M cmds k σ) (runS X M cmds k σ) res G') : Wc X f M k σ res G' := seg_ok T_ok mixed cmds h hp hk
theorem gN {ς ρ : Type} {f : FuncId} {M : Nat} {K : ς → List Item} {Z : ς → St} {R : ρ → List D} {G : ρ → List Root} {k : List Item} {σ : St} {o : ς ⊕ ρ} (cmds : List Cmd) {ps : List Prop} (h : runP X M cmds k σ = some ps) (hp : AllP ps) (hk : Nx X f M K Z R G (runK X M cmds k σ) (runS X M cmds k σ) o) : Nx X f M K Z R G k σ o := segN_ok T_ok mixed cmds h hp hk
theorem nf_3 : ∀ x, (I x).nf := fun x => by simp [D.nf, nfL]
theorem ero_79 : ∀ x, (goi_Terrain x).er = (gi_Terrain x).er := fun x => by simp [goi_Terrain, gi_Terrain, D.er, erL, er_ow (f := I) (g := I) (fun _ => rfl)]
theorem allOw_79 (l : List Gi_Terrain) : AllOw (List.map goi_Terrain l) := allOw_map (fun x c hc => by simp [goi_Terrain, gi_Terrain, D.cells] at hc; rcases hc with rfl | rfl | rfl | rfl | rfl <;> rfl) l
theorem allFl_3 (l : List Int) : AllFl (List.map I l) := allFl_map (fun x c hc => by simp [D.cells] at hc; rcases hc with rfl <;> rfl) l
def laysNm223_ren : Go.Shelf.Ren := ⟨fun | 23 => 31 | n => n, fun | 22 => 27 | 3 => 3 | 4 => 4 | 0 => 0 | n => n, fun | n => n⟩
theorem laysNm223 : Go.Proofs.Lays2.n23 Tryd.prog laysNm223_ren := {
  mixed := by kernel_rfl
  f23 := Go.Proofs.Tryd.func31.trans (congrArg some (by kernel_rfl))
  t0 := Tryd.underlying0
  a0 := Tryd.isAgg0
  z0 := Tryd.sizeOf0
  v0 := Tryd.zeroValue0
  t3 := Tryd.underlying3
  a3 := Tryd.isAgg3
  z3 := Tryd.sizeOf3
  v3 := Tryd.zeroValue3
  t4 := Tryd.underlying4
  a4 := Tryd.isAgg4
  z4 := Tryd.sizeOf4
  v4 := Tryd.zeroValue4
  t22 := Tryd.underlying27
  a22 := Tryd.isAgg27
  z22 := Tryd.sizeOf27
  v22 := Tryd.zeroValue27
  i3 := by kernel_rfl }

/-!   loop example/g00886/spec l1Cur  next -/
def Rs_l1Cur_next (r : Int × Gs_l1Cur) : List D := [I r.1]
def Ns_l1Cur_next (r : Int × Gs_l1Cur) : List Root := [⟨false, true, 3, 1, [.agg [sl 1 (D.int .u8) r.2.code, I r.2.at_, .int .u64 r.2.seed]]⟩]
theorem cs_l1Cur_next {a0 : Gs_l1Cur} {r : Int × Gs_l1Cur} (H : Ds_l1Cur_next a0 = some r) : Ct X.P X.gl 50 [.ptr 0 3 0 0] [⟨false, true, 3, 1, [.agg [sl 1 (D.int .u8) a0.code, I a0.at_, .int .u64 a0.seed]]⟩] (Rs_l1Cur_next r) (Ns_l1Cur_next r) :=
  Ct.of func50 (c := bdy f50) (by kernel_rfl) (by kernel_rfl) <|
  gS [r0, r0] (by kernel_rfl) P0 <|
  eIf H (fun h1 H =>
    eCk H fun h2 H =>
    eBind H fun x3 hx3 H =>
    gS [rg [hT 9], rg [hE 9 ((D.int .u8) x3)], r0, r0] (by kernel_rfl) (P2 ((decide (a0.at_ < ((a0.code.length : Nat) : Int))) = true) (decide_eq_true h1) <| P1 h2 <| P1 (int_lt_of_at h2 hx3) <| P1 (at_map (D.int .u8) hx3) <| P0) <|
    eIf H (fun h4 H =>
      eW Rs_l1Cur_next Ns_l1Cur_next H <| gE func50 [rg [hT 9], r0] (by kernel_rfl) (P2 ((decide ((IntKind.wrap .i64 (a0.at_ + 1)) ≤ ((a0.code.length : Nat) : Int))) = true) (decide_eq_true h4) <| P0))
    (fun h4 H =>
      eW Rs_l1Cur_next Ns_l1Cur_next H <| gE func50 [rg [hF 9], r0] (by kernel_rfl) (P2 ((decide ((IntKind.wrap .i64 (a0.at_ + 1)) ≤ ((a0.code.length : Nat) : Int))) = false) (decide_eq_false h4) <| P2 ((0 : Int) ≤ 40) (by decide) <| P0)))
  (fun h1 H =>
    gS [rg [hF 9], r0, r0] (by kernel_rfl) (P2 ((decide (a0.at_ < ((a0.code.length : Nat) : Int))) = false) (decide_eq_false h1) <| P0) <|
    eIf H (fun h2 H =>
      eW Rs_l1Cur_next Ns_l1Cur_next H <| gE func50 [rg [hT 9], r0] (by kernel_rfl) (P2 ((decide ((IntKind.wrap .i64 (a0.at_ + 1)) ≤ ((a0.code.length : Nat) : Int))) = true) (decide_eq_true h2) <| P0))
    (fun h2 H =>
      eW Rs_l1Cur_next Ns_l1Cur_next H <| gE func50 [rg [hF 9], r0] (by kernel_rfl) (P2 ((decide ((IntKind.wrap .i64 (a0.at_ + 1)) ≤ ((a0.code.length : Nat) : Int))) = false) (decide_eq_false h2) <| P2 ((0 : Int) ≤ 40) (by decide) <| P0)))
/-!   loop example/g00886/spec l1Cur  pick -/
def Rs_l1Cur_pick (r : Int × Gs_l1Cur) : List D := [I r.1]
def Ns_l1Cur_pick (r : Int × Gs_l1Cur) : List Root := [⟨false, true, 3, 1, [.agg [sl 1 (D.int .u8) r.2.code, I r.2.at_, .int .u64 r.2.seed]]⟩]
theorem cs_l1Cur_pick {a0 : Gs_l1Cur} {a1 : Int} {r : Int × Gs_l1Cur} (H : Ds_l1Cur_pick a0 a1 = some r) : Ct X.P X.gl 25 [.ptr 0 3 0 0, I a1] [⟨false, true, 3, 1, [.agg [sl 1 (D.int .u8) a0.code, I a0.at_, .int .u64 a0.seed]]⟩] (Rs_l1Cur_pick r) (Ns_l1Cur_pick r) :=
  Ct.of func25 (c := bdy f25) (by kernel_rfl) (by kernel_rfl) <|
  gS [r0] (by kernel_rfl) P0 <|
  eIf H (fun h1 H =>
    eW Rs_l1Cur_pick Ns_l1Cur_pick H <| gE func25 [rg [hT 1], r0] (by kernel_rfl) (P2 ((decide (a1 ≤ 1)) = true) (decide_eq_true h1) <| P0))
  (fun h1 H =>
    eBind H fun r2 hr2 H =>
    gS [rg [hF 1], rg [hC 1 true [0] (Rs_l1Cur_next r2) (Ns_l1Cur_next r2)]] (by kernel_rfl) (P2 ((decide (a1 ≤ 1)) = false) (decide_eq_false h1) <| PI (1 : Nat) <| P1 (cs_l1Cur_next hr2) <| P0) <|
    eIf H (fun h3 H =>
      eBind H fun r4 hr4 H =>
      eCk H fun h5 H =>
      eW Rs_l1Cur_pick Ns_l1Cur_pick H <| gE func25 [rg [hT 1], rg [hC 3 true [0] (Rs_l1Cur_next r4) (Ns_l1Cur_next r4)], r0] (by kernel_rfl) (P2 ((decide (a1 > 200)) = true) (decide_eq_true h3) <| PI (1 : Nat) <| P1 (cs_l1Cur_next hr4) <| P2 (¬ (a1 : Int) = 0) h5 <| P0))
    (fun h3 H =>
      eCk H fun h4 H =>
      eW Rs_l1Cur_pick Ns_l1Cur_pick H <| gE func25 [rg [hF 1], r0] (by kernel_rfl) (P2 ((decide (a1 > 200)) = false) (decide_eq_false h3) <| P2 (¬ (a1 : Int) = 0) h4 <| P0)))
/-!   loop example/g00886/spec l1Cur  one -/
def Rs_l1Cur_one (r : Bool × Gs_l1Cur) : List D := [.bool r.1]
def Ns_l1Cur_one (r : Bool × Gs_l1Cur) : List Root := [⟨false, true, 3, 1, [.agg [sl 1 (D.int .u8) r.2.code, I r.2.at_, .int .u64 r.2.seed]]⟩]
theorem cs_l1Cur_one {a0 : Gs_l1Cur} {a1 : Int} {r : Bool × Gs_l1Cur} (H : Ds_l1Cur_one a0 a1 = some r) : Ct X.P X.gl 57 [.ptr 0 3 0 0, I a1] [⟨false, true, 3, 1, [.agg [sl 1 (D.int .u8) a0.code, I a0.at_, .int .u64 a0.seed]]⟩] (Rs_l1Cur_one r) (Ns_l1Cur_one r) :=
  Ct.of func57 (c := bdy f57) (by kernel_rfl) (by kernel_rfl) <|
  eBind H fun r1 hr1 H =>
  eW Rs_l1Cur_one Ns_l1Cur_one H <| gE func57 [r0, rg [hC 2 true [0] (Rs_l1Cur_pick r1) (Ns_l1Cur_pick r1)]] (by kernel_rfl) (PI (1 : Nat) <| P1 (cs_l1Cur_pick hr1) <| P0)
/-!   loop example/g00886/spec l1Cur  rules -/
def Rs_l1Cur_rules (r : Gi_Rules × Gs_l1Cur) : List D := [.agg [ow 5 goi_Terrain r.1.Terrains, ow 6 gi_Kind r.1.Kinds, I r.1.Stack, I r.1.River, I r.1.Road, I r.1.Supply, I r.1.Turns]]
def Ns_l1Cur_rules (r : Gi_Rules × Gs_l1Cur) : List Root := [⟨false, true, 3, 1, [.agg [sl 1 (D.int .u8) r.2.code, I r.2.at_, .int .u64 r.2.seed]]⟩]
noncomputable def Ks_l1Cur_rules : Ss_l1Cur_rules → List Item
  | .h1 .. => nav 300 5 [] [.code (bdy f52)]
  | .h2 .. => nav 300 9 [true, false] [.code (bdy f52)]
  | .h3 .. => nav 300 15 [true, false, true, true] [.code (bdy f52)]
  | .h4 .. => nav 300 12 [true, false, false] [.code (bdy f52)]
  | .h5 .. => nav 300 16 [true, false, false, true, false] [.code (bdy f52)]
  | .h6 .. => nav 300 22 [true, false, false, true, false, true, true] [.code (bdy f52)]
def Zs_l1Cur_rules : Ss_l1Cur_rules → St
  | .h1 i0 b1 b2 b3 b4 b5 b6 b7 b8 b9 b10 b11 l12 l13 => ⟨sts 115 [(0, .ptr 0 3 0 0), (2, .ptr 1 7 0 0), (4, .ptr 2 7 0 0), (5, .ref 3 1 none), (6, I i0)], [some ⟨false, true, 3, 1, [.agg [sl 1 (D.int .u8) b1.code, I b1.at_, .int .u64 b1.seed]]⟩, some ⟨false, true, 7, 1, [.agg [.nil, .nil, I b2, I b3, I b4, I b5, I b6]]⟩, some ⟨false, true, 7, 1, [.agg [.nil, .ref 4 6 none, I b7, I b8, I b9, I b10, I b11]]⟩, some ⟨false, false, 1, l12.length, List.map D.str l12⟩, some ⟨false, false, 6, l13.length, List.map gi_Kind l13⟩]⟩
  | .h2 i0 t1 t2 b3 b4 b5 b6 b7 b8 b9 b10 b11 b12 b13 l14 b15 b16 b17 b18 l19 => ⟨sts 115 [(0, .ptr 0 3 0 0), (2, .ptr 1 7 0 0), (4, .ptr 2 7 0 0), (5, .ref 3 1 none), (6, I i0), (7, .ptr 4 5 0 0), (94, I t1), (95, I t2)], [some ⟨false, true, 3, 1, [.agg [sl 1 (D.int .u8) b3.code, I b3.at_, .int .u64 b3.seed]]⟩, some ⟨false, true, 7, 1, [.agg [.nil, .nil, I b4, I b5, I b6, I b7, I b8]]⟩, some ⟨false, true, 7, 1, [.agg [.nil, .ref 5 6 none, I b9, I b10, I b11, I b12, I b13]]⟩, some ⟨false, false, 1, l14.length, List.map D.str l14⟩, some ⟨false, true, 5, 1, [.agg [.str b15, .nil, I b16, I b17, .bool b18]]⟩, some ⟨false, false, 6, l19.length, List.map gi_Kind l19⟩]⟩
  | .h3 i0 t1 t2 b3 b4 b5 b6 b7 b8 b9 b10 b11 b12 b13 l14 b15 b16 b17 b18 l19 l20 => ⟨sts 115 [(0, .ptr 0 3 0 0), (2, .ptr 1 7 0 0), (4, .ptr 2 7 0 0), (5, .ref 3 1 none), (6, I i0), (7, .ptr 4 5 0 0), (94, I t1), (95, I t2)], [some ⟨false, true, 3, 1, [.agg [sl 1 (D.int .u8) b3.code, I b3.at_, .int .u64 b3.seed]]⟩, some ⟨false, true, 7, 1, [.agg [.nil, .nil, I b4, I b5, I b6, I b7, I b8]]⟩, some ⟨false, true, 7, 1, [.agg [.nil, .ref 5 6 none, I b9, I b10, I b11, I b12, I b13]]⟩, some ⟨false, false, 1, l14.length, List.map D.str l14⟩, some ⟨false, true, 5, 1, [.agg [.str b15, .ref 6 1 none, I b16, I b17, .bool b18]]⟩, some ⟨false, false, 6, l19.length, List.map gi_Kind l19⟩, some ⟨false, false, 1, l20.length, List.map I l20⟩]⟩
  | .h4 i0 b1 b2 b3 b4 b5 b6 b7 b8 b9 b10 b11 l12 l13 l14 => ⟨sts 115 [(0, .ptr 0 3 0 0), (2, .ptr 1 7 0 0), (4, .ptr 2 7 0 0), (5, .ref 3 1 none), (6, I i0)], [some ⟨false, true, 3, 1, [.agg [sl 1 (D.int .u8) b1.code, I b1.at_, .int .u64 b1.seed]]⟩, some ⟨false, true, 7, 1, [.agg [.nil, .nil, I b2, I b3, I b4, I b5, I b6]]⟩, some ⟨false, true, 7, 1, [.agg [.ref 4 5 none, .ref 5 6 none, I b7, I b8, I b9, I b10, I b11]]⟩, some ⟨false, false, 1, l12.length, List.map D.str l12⟩, some ⟨false, false, 5, l13.length, List.map goi_Terrain l13⟩, some ⟨false, false, 6, l14.length, List.map gi_Kind l14⟩]⟩
  | .h5 i0 t1 t2 b3 b4 b5 b6 b7 b8 b9 b10 b11 b12 b13 l14 b15 b16 b17 b18 l19 l20 => ⟨sts 115 [(0, .ptr 0 3 0 0), (2, .ptr 1 7 0 0), (4, .ptr 2 7 0 0), (5, .ref 3 1 none), (6, I i0), (7, .ptr 4 5 0 0), (94, I t1), (95, I t2)], [some ⟨false, true, 3, 1, [.agg [sl 1 (D.int .u8) b3.code, I b3.at_, .int .u64 b3.seed]]⟩, some ⟨false, true, 7, 1, [.agg [.nil, .nil, I b4, I b5, I b6, I b7, I b8]]⟩, some ⟨false, true, 7, 1, [.agg [.ref 5 5 none, .ref 6 6 none, I b9, I b10, I b11, I b12, I b13]]⟩, some ⟨false, false, 1, l14.length, List.map D.str l14⟩, some ⟨false, true, 5, 1, [.agg [.str b15, .nil, I b16, I b17, .bool b18]]⟩, some ⟨false, false, 5, l19.length, List.map goi_Terrain l19⟩, some ⟨false, false, 6, l20.length, List.map gi_Kind l20⟩]⟩
  | .h6 i0 t1 t2 b3 b4 b5 b6 b7 b8 b9 b10 b11 b12 b13 l14 b15 b16 b17 b18 l19 l20 l21 => ⟨sts 115 [(0, .ptr 0 3 0 0), (2, .ptr 1 7 0 0), (4, .ptr 2 7 0 0), (5, .ref 3 1 none), (6, I i0), (7, .ptr 4 5 0 0), (94, I t1), (95, I t2)], [some ⟨false, true, 3, 1, [.agg [sl 1 (D.int .u8) b3.code, I b3.at_, .int .u64 b3.seed]]⟩, some ⟨false, true, 7, 1, [.agg [.nil, .nil, I b4, I b5, I b6, I b7, I b8]]⟩, some ⟨false, true, 7, 1, [.agg [.ref 5 5 none, .ref 6 6 none, I b9, I b10, I b11, I b12, I b13]]⟩, some ⟨false, false, 1, l14.length, List.map D.str l14⟩, some ⟨false, true, 5, 1, [.agg [.str b15, .ref 7 1 none, I b16, I b17, .bool b18]]⟩, some ⟨false, false, 5, l19.length, List.map goi_Terrain l19⟩, some ⟨false, false, 6, l20.length, List.map gi_Kind l20⟩, some ⟨false, false, 1, l21.length, List.map I l21⟩]⟩
abbrev Qs_l1Cur_rules := Nx X 52 1 Ks_l1Cur_rules Zs_l1Cur_rules Rs_l1Cur_rules Ns_l1Cur_rules
theorem ns_l1Cur_rules : ∀ s o, Bs_l1Cur_rules s = some o → Qs_l1Cur_rules (Ks_l1Cur_rules s) (Zs_l1Cur_rules s) o
  | .h1 i0 b1 b2 b3 b4 b5 b6 b7 b8 b9 b10 b11 l12 l13, o, H =>
    eBind H fun r1 hr1 H =>
    eIf H (fun h2 H =>
      gN [rg [hC 2 true [0] (Rs_l1Cur_pick r1) (Ns_l1Cur_pick r1), hT 4]] (by kernel_rfl) (PI (1 : Nat) <| P1 (cs_l1Cur_pick hr1) <| P2 ((decide (i0 < (IntKind.wrap .i64 (2 + r1.1)))) = true) (decide_eq_true h2) <| P0) <|
      eIf H (fun h3 H =>
        eN H <| gE func52 [rg [hT 3], r0] (by kernel_rfl) (P2 (((i0 : Int) == ((l12.length : Nat) : Int)) = true) (beqT h3) <| P0))
      (fun h3 H =>
        eCk H fun h4 H =>
        eBind H fun x5 hx5 H =>
        eBind H fun r6 hr6 H =>
        eBind H fun r7 hr7 H =>
        eBind H fun r8 hr8 H =>
        gN [rg [hF 3]] (by kernel_rfl) (P2 (((i0 : Int) == ((l12.length : Nat) : Int)) = false) (beqF h3) <| P0) <|
        eIf H (fun h9 H =>
          eBind H fun r10 hr10 H =>
          eN H fun r hn => gO [rg [hE 3 (D.str x5), hC 5 true [0] (Rs_l1Cur_pick r6) (Ns_l1Cur_pick r6), hC 8 true [0] (Rs_l1Cur_pick r7) (Ns_l1Cur_pick r7), hC 10 true [0] (Rs_l1Cur_pick r8) (Ns_l1Cur_pick r8), hT 13, hC 16 true [0] (Rs_l1Cur_one r10) (Ns_l1Cur_one r10)], r0, .canon [0, 1, 2, 3, 5, 4] [0, 2, 4, 5, 6, 7, 94, 95]] (by kernel_rfl) (P1 h4 <| P1 (int_lt_of_at h4 hx5) <| P1 (at_map D.str hx5) <| PI (1 : Nat) <| P1 (cs_l1Cur_pick hr6) <| PI (1 : Nat) <| P1 (cs_l1Cur_pick hr7) <| PI (1 : Nat) <| P1 (cs_l1Cur_pick hr8) <| P2 ((decide (i0 > 0)) = true) (decide_eq_true h9) <| PI (1 : Nat) <| P1 (cs_l1Cur_one hr10) <| P0) hn)
        (fun h9 H =>
          eN H fun r hn => gO [rg [hE 3 (D.str x5), hC 5 true [0] (Rs_l1Cur_pick r6) (Ns_l1Cur_pick r6), hC 8 true [0] (Rs_l1Cur_pick r7) (Ns_l1Cur_pick r7), hC 10 true [0] (Rs_l1Cur_pick r8) (Ns_l1Cur_pick r8), hF 13], r0, .canon [0, 1, 2, 3, 5, 4] [0, 2, 4, 5, 6, 7, 94, 95]] (by kernel_rfl) (P1 h4 <| P1 (int_lt_of_at h4 hx5) <| P1 (at_map D.str hx5) <| PI (1 : Nat) <| P1 (cs_l1Cur_pick hr6) <| PI (1 : Nat) <| P1 (cs_l1Cur_pick hr7) <| PI (1 : Nat) <| P1 (cs_l1Cur_pick hr8) <| P2 ((decide (i0 > 0)) = false) (decide_eq_false h9) <| P0) hn)))
    (fun h2 H =>
      eN H <| gE func52 [rg [hC 2 true [0] (Rs_l1Cur_pick r1) (Ns_l1Cur_pick r1), hF 4], r0] (by kernel_rfl) (PI (1 : Nat) <| P1 (cs_l1Cur_pick hr1) <| P2 ((decide (i0 < (IntKind.wrap .i64 (2 + r1.1)))) = false) (decide_eq_false h2) <| P0))
  | .h2 i0 t1 t2 b3 b4 b5 b6 b7 b8 b9 b10 b11 b12 b13 l14 b15 b16 b17 b18 l19, o, H =>
    eIf H (fun h1 H =>
      gN [rg [hT 0], r0] (by kernel_rfl) (P2 ((decide (t2 < t1)) = true) (decide_eq_true h1) <| P0) <|
      eIf H (fun h2 H =>
        eBind H fun r3 hr3 H =>
        eCk H fun h4 H =>
        eN H fun r hn => gO [rg [hT 1], rg [hC 1 true [0] (Rs_l1Cur_pick r3) (Ns_l1Cur_pick r3)], rg [hA 4 ([r3.1].length) (List.map I [r3.1])], r0, .canon [0, 1, 2, 3, 4, 5, 7] [0, 2, 4, 5, 6, 7, 94, 95]] (by kernel_rfl) (P2 ((decide (i0 > 0)) = true) (decide_eq_true h2) <| PI (1 : Nat) <| P1 (cs_l1Cur_pick hr3) <| P2 ([r3.1].length = 0 + [r3.1].length) (by simp <;> omega) <| P2 ((0 + [r3.1].length) * 8 ≤ 70368744177664) (by have := h4; simp at this ⊢ <;> omega) <| P2 (([] : List D) ++ List.map I [r3.1] = List.map I [r3.1]) (by simp) <| P0) hn)
      (fun h2 H =>
        eCk H fun h3 H =>
        eN H fun r hn => gO [rg [hF 1], rg [hA 4 ([1].length) (List.map I [1])], r0, .canon [0, 1, 2, 3, 4, 5, 7] [0, 2, 4, 5, 6, 7, 94, 95]] (by kernel_rfl) (P2 ((decide (i0 > 0)) = false) (decide_eq_false h2) <| P2 ([1].length = 0 + [1].length) (by simp <;> omega) <| P2 ((0 + [1].length) * 8 ≤ 70368744177664) (by have := h3; simp at this ⊢ <;> omega) <| P2 (([] : List D) ++ List.map I [1] = List.map I [1]) (by simp) <| P0) hn))
    (fun h1 H =>
      eCk H fun h2 H =>
      eN H fun r hn => gO [rg [hF 0], rg [{ i := 3, post := [.nil 6 0 1 1 (List.map goi_Terrain [(Gi_Terrain.mk b15 ([] : List Int) b16 b17 b18)])] }, hA 4 ([(Gi_Terrain.mk b15 ([] : List Int) b16 b17 b18)].length) (List.map goi_Terrain [(Gi_Terrain.mk b15 ([] : List Int) b16 b17 b18)])], r0, .canon [0, 1, 2, 3, 7, 5] [0, 2, 4, 5, 6]] (by kernel_rfl) (P2 ((decide (t2 < t1)) = false) (decide_eq_false h1) <| P2 (getCells [.agg [.str b15, .nil, I b16, I b17, .bool b18]] 0 1 1 = some [.nil]) rfl <| P2 (setCells [.agg [.str b15, .nil, I b16, I b17, .bool b18]] 0 1 [ow 1 I ([] : List Int)] = List.map goi_Terrain [(Gi_Terrain.mk b15 ([] : List Int) b16 b17 b18)]) rfl <| P2 ([(Gi_Terrain.mk b15 ([] : List Int) b16 b17 b18)].length = 0 + [(Gi_Terrain.mk b15 ([] : List Int) b16 b17 b18)].length) (by simp <;> omega) <| P2 ((0 + [(Gi_Terrain.mk b15 ([] : List Int) b16 b17 b18)].length) * 64 ≤ 70368744177664) (by have := h2; simp at this ⊢ <;> omega) <| P2 (([] : List D) ++ List.map goi_Terrain [(Gi_Terrain.mk b15 ([] : List Int) b16 b17 b18)] = List.map goi_Terrain [(Gi_Terrain.mk b15 ([] : List Int) b16 b17 b18)]) (by simp) <| P0) hn)
  | .h3 i0 t1 t2 b3 b4 b5 b6 b7 b8 b9 b10 b11 b12 b13 l14 b15 b16 b17 b18 l19 l20, o, H =>
    eIf H (fun h1 H =>
      gN [rg [hT 0], r0] (by kernel_rfl) (P2 ((decide (t2 < t1)) = true) (decide_eq_true h1) <| P0) <|
      eIf H (fun h2 H =>
        eBind H fun r3 hr3 H =>
        eCk H fun h4 H =>
        eN H fun r hn => gO [rg [hT 1], rg [hC 1 true [0] (Rs_l1Cur_pick r3) (Ns_l1Cur_pick r3)], rg [hA 4 ((l20 ++ [r3.1]).length) (List.map I (l20 ++ [r3.1]))], r0, .canon [0, 1, 2, 3, 4, 5, 8] [0, 2, 4, 5, 6, 7, 94, 95]] (by kernel_rfl) (P2 ((decide (i0 > 0)) = true) (decide_eq_true h2) <| PI (1 : Nat) <| P1 (cs_l1Cur_pick hr3) <| P1 (apL l20 [r3.1]) <| P1 (apB h4) <| P1 (apM I l20 [r3.1]) <| P0) hn)
      (fun h2 H =>
        eCk H fun h3 H =>
        eN H fun r hn => gO [rg [hF 1], rg [hA 4 ((l20 ++ [1]).length) (List.map I (l20 ++ [1]))], r0, .canon [0, 1, 2, 3, 4, 5, 8] [0, 2, 4, 5, 6, 7, 94, 95]] (by kernel_rfl) (P2 ((decide (i0 > 0)) = false) (decide_eq_false h2) <| P1 (apL l20 [1]) <| P1 (apB h3) <| P1 (apM I l20 [1]) <| P0) hn))
    (fun h1 H =>
      eCk H fun h2 H =>
      eN H fun r hn => gO [rg [hF 0], rg [{ i := 3, post := [.put 7 0 1 6 (List.map goi_Terrain [(Gi_Terrain.mk b15 l20 b16 b17 b18)]), .own 7 1] }, hA 4 ([(Gi_Terrain.mk b15 l20 b16 b17 b18)].length) (List.map goi_Terrain [(Gi_Terrain.mk b15 l20 b16 b17 b18)])], r0, .canon [0, 1, 2, 3, 8, 5] [0, 2, 4, 5, 6]] (by kernel_rfl) (P2 ((decide (t2 < t1)) = false) (decide_eq_false h1) <| P2 (getCells [.agg [.str b15, .ref 6 1 none, I b16, I b17, .bool b18]] 0 1 1 = some [.ref 6 1 none]) rfl <| P2 (setCells [.agg [.str b15, .ref 6 1 none, I b16, I b17, .bool b18]] 0 1 [ow 1 I l20] = List.map goi_Terrain [(Gi_Terrain.mk b15 l20 b16 b17 b18)]) rfl <| P1 (allOw_79 [(Gi_Terrain.mk b15 l20 b16 b17 b18)]) <| P2 ((1 : Nat) = 1) rfl <| P2 ([(Gi_Terrain.mk b15 l20 b16 b17 b18)].length = 0 + [(Gi_Terrain.mk b15 l20 b16 b17 b18)].length) (by simp <;> omega) <| P2 ((0 + [(Gi_Terrain.mk b15 l20 b16 b17 b18)].length) * 64 ≤ 70368744177664) (by have := h2; simp at this ⊢ <;> omega) <| P2 (([] : List D) ++ List.map goi_Terrain [(Gi_Terrain.mk b15 l20 b16 b17 b18)] = List.map goi_Terrain [(Gi_Terrain.mk b15 l20 b16 b17 b18)]) (by simp) <| P0) hn)
  | .h4 i0 b1 b2 b3 b4 b5 b6 b7 b8 b9 b10 b11 l12 l13 l14, o, H =>
    eBind H fun r1 hr1 H =>
    eIf H (fun h2 H =>
      gN [rg [hC 2 true [0] (Rs_l1Cur_pick r1) (Ns_l1Cur_pick r1), hT 4]] (by kernel_rfl) (PI (1 : Nat) <| P1 (cs_l1Cur_pick hr1) <| P2 ((decide (i0 < (IntKind.wrap .i64 (2 + r1.1)))) = true) (decide_eq_true h2) <| P0) <|
      eIf H (fun h3 H =>
        eN H <| gE func52 [rg [hT 3], r0] (by kernel_rfl) (P2 (((i0 : Int) == ((l12.length : Nat) : Int)) = true) (beqT h3) <| P0))
      (fun h3 H =>
        eCk H fun h4 H =>
        eBind H fun x5 hx5 H =>
        eBind H fun r6 hr6 H =>
        eBind H fun r7 hr7 H =>
        eBind H fun r8 hr8 H =>
        gN [rg [hF 3]] (by kernel_rfl) (P2 (((i0 : Int) == ((l12.length : Nat) : Int)) = false) (beqF h3) <| P0) <|
        eIf H (fun h9 H =>
          eBind H fun r10 hr10 H =>
          eN H fun r hn => gO [rg [hE 3 (D.str x5), hC 5 true [0] (Rs_l1Cur_pick r6) (Ns_l1Cur_pick r6), hC 8 true [0] (Rs_l1Cur_pick r7) (Ns_l1Cur_pick r7), hC 10 true [0] (Rs_l1Cur_pick r8) (Ns_l1Cur_pick r8), hT 13, hC 16 true [0] (Rs_l1Cur_one r10) (Ns_l1Cur_one r10)], r0, .canon [0, 1, 2, 3, 6, 4, 5] [0, 2, 4, 5, 6, 7, 94, 95]] (by kernel_rfl) (P1 h4 <| P1 (int_lt_of_at h4 hx5) <| P1 (at_map D.str hx5) <| PI (1 : Nat) <| P1 (cs_l1Cur_pick hr6) <| PI (1 : Nat) <| P1 (cs_l1Cur_pick hr7) <| PI (1 : Nat) <| P1 (cs_l1Cur_pick hr8) <| P2 ((decide (i0 > 0)) = true) (decide_eq_true h9) <| PI (1 : Nat) <| P1 (cs_l1Cur_one hr10) <| P0) hn)
        (fun h9 H =>
          eN H fun r hn => gO [rg [hE 3 (D.str x5), hC 5 true [0] (Rs_l1Cur_pick r6) (Ns_l1Cur_pick r6), hC 8 true [0] (Rs_l1Cur_pick r7) (Ns_l1Cur_pick r7), hC 10 true [0] (Rs_l1Cur_pick r8) (Ns_l1Cur_pick r8), hF 13], r0, .canon [0, 1, 2, 3, 6, 4, 5] [0, 2, 4, 5, 6, 7, 94, 95]] (by kernel_rfl) (P1 h4 <| P1 (int_lt_of_at h4 hx5) <| P1 (at_map D.str hx5) <| PI (1 : Nat) <| P1 (cs_l1Cur_pick hr6) <| PI (1 : Nat) <| P1 (cs_l1Cur_pick hr7) <| PI (1 : Nat) <| P1 (cs_l1Cur_pick hr8) <| P2 ((decide (i0 > 0)) = false) (decide_eq_false h9) <| P0) hn)))
    (fun h2 H =>
      eN H <| gE func52 [rg [hC 2 true [0] (Rs_l1Cur_pick r1) (Ns_l1Cur_pick r1), hF 4], r0] (by kernel_rfl) (PI (1 : Nat) <| P1 (cs_l1Cur_pick hr1) <| P2 ((decide (i0 < (IntKind.wrap .i64 (2 + r1.1)))) = false) (decide_eq_false h2) <| P0))
  | .h5 i0 t1 t2 b3 b4 b5 b6 b7 b8 b9 b10 b11 b12 b13 l14 b15 b16 b17 b18 l19 l20, o, H =>
    eIf H (fun h1 H =>
      gN [rg [hT 0], r0] (by kernel_rfl) (P2 ((decide (t2 < t1)) = true) (decide_eq_true h1) <| P0) <|
      eIf H (fun h2 H =>
        eBind H fun r3 hr3 H =>
        eCk H fun h4 H =>
        eN H fun r hn => gO [rg [hT 1], rg [hC 1 true [0] (Rs_l1Cur_pick r3) (Ns_l1Cur_pick r3)], rg [hA 4 ([r3.1].length) (List.map I [r3.1])], r0, .canon [0, 1, 2, 3, 4, 5, 6, 8] [0, 2, 4, 5, 6, 7, 94, 95]] (by kernel_rfl) (P2 ((decide (i0 > 0)) = true) (decide_eq_true h2) <| PI (1 : Nat) <| P1 (cs_l1Cur_pick hr3) <| P2 ([r3.1].length = 0 + [r3.1].length) (by simp <;> omega) <| P2 ((0 + [r3.1].length) * 8 ≤ 70368744177664) (by have := h4; simp at this ⊢ <;> omega) <| P2 (([] : List D) ++ List.map I [r3.1] = List.map I [r3.1]) (by simp) <| P0) hn)
      (fun h2 H =>
        eCk H fun h3 H =>
        eN H fun r hn => gO [rg [hF 1], rg [hA 4 ([1].length) (List.map I [1])], r0, .canon [0, 1, 2, 3, 4, 5, 6, 8] [0, 2, 4, 5, 6, 7, 94, 95]] (by kernel_rfl) (P2 ((decide (i0 > 0)) = false) (decide_eq_false h2) <| P2 ([1].length = 0 + [1].length) (by simp <;> omega) <| P2 ((0 + [1].length) * 8 ≤ 70368744177664) (by have := h3; simp at this ⊢ <;> omega) <| P2 (([] : List D) ++ List.map I [1] = List.map I [1]) (by simp) <| P0) hn))
    (fun h1 H =>
      eCk H fun h2 H =>
      eN H fun r hn => gO [rg [hF 0], rg [{ i := 3, post := [.nil 7 0 1 1 (List.map goi_Terrain [(Gi_Terrain.mk b15 ([] : List Int) b16 b17 b18)])] }, hA 4 ((l19 ++ [(Gi_Terrain.mk b15 ([] : List Int) b16 b17 b18)]).length) (List.map goi_Terrain (l19 ++ [(Gi_Terrain.mk b15 ([] : List Int) b16 b17 b18)]))], r0, .canon [0, 1, 2, 3, 8, 6] [0, 2, 4, 5, 6]] (by kernel_rfl) (P2 ((decide (t2 < t1)) = false) (decide_eq_false h1) <| P2 (getCells [.agg [.str b15, .nil, I b16, I b17, .bool b18]] 0 1 1 = some [.nil]) rfl <| P2 (setCells [.agg [.str b15, .nil, I b16, I b17, .bool b18]] 0 1 [ow 1 I ([] : List Int)] = List.map goi_Terrain [(Gi_Terrain.mk b15 ([] : List Int) b16 b17 b18)]) rfl <| P1 (apL l19 [(Gi_Terrain.mk b15 ([] : List Int) b16 b17 b18)]) <| P1 (apB h2) <| P1 (apM goi_Terrain l19 [(Gi_Terrain.mk b15 ([] : List Int) b16 b17 b18)]) <| P0) hn)
  | .h6 i0 t1 t2 b3 b4 b5 b6 b7 b8 b9 b10 b11 b12 b13 l14 b15 b16 b17 b18 l19 l20 l21, o, H =>
    eIf H (fun h1 H =>
      gN [rg [hT 0], r0] (by kernel_rfl) (P2 ((decide (t2 < t1)) = true) (decide_eq_true h1) <| P0) <|
      eIf H (fun h2 H =>
        eBind H fun r3 hr3 H =>
        eCk H fun h4 H =>
        eN H fun r hn => gO [rg [hT 1], rg [hC 1 true [0] (Rs_l1Cur_pick r3) (Ns_l1Cur_pick r3)], rg [hA 4 ((l21 ++ [r3.1]).length) (List.map I (l21 ++ [r3.1]))], r0, .canon [0, 1, 2, 3, 4, 5, 6, 9] [0, 2, 4, 5, 6, 7, 94, 95]] (by kernel_rfl) (P2 ((decide (i0 > 0)) = true) (decide_eq_true h2) <| PI (1 : Nat) <| P1 (cs_l1Cur_pick hr3) <| P1 (apL l21 [r3.1]) <| P1 (apB h4) <| P1 (apM I l21 [r3.1]) <| P0) hn)
      (fun h2 H =>
        eCk H fun h3 H =>
        eN H fun r hn => gO [rg [hF 1], rg [hA 4 ((l21 ++ [1]).length) (List.map I (l21 ++ [1]))], r0, .canon [0, 1, 2, 3, 4, 5, 6, 9] [0, 2, 4, 5, 6, 7, 94, 95]] (by kernel_rfl) (P2 ((decide (i0 > 0)) = false) (decide_eq_false h2) <| P1 (apL l21 [1]) <| P1 (apB h3) <| P1 (apM I l21 [1]) <| P0) hn))
    (fun h1 H =>
      eCk H fun h2 H =>
      eN H fun r hn => gO [rg [hF 0], rg [{ i := 3, post := [.put 8 0 1 7 (List.map goi_Terrain [(Gi_Terrain.mk b15 l21 b16 b17 b18)]), .own 8 1] }, hA 4 ((l19 ++ [(Gi_Terrain.mk b15 l21 b16 b17 b18)]).length) (List.map goi_Terrain (l19 ++ [(Gi_Terrain.mk b15 l21 b16 b17 b18)]))], r0, .canon [0, 1, 2, 3, 9, 6] [0, 2, 4, 5, 6]] (by kernel_rfl) (P2 ((decide (t2 < t1)) = false) (decide_eq_false h1) <| P2 (getCells [.agg [.str b15, .ref 7 1 none, I b16, I b17, .bool b18]] 0 1 1 = some [.ref 7 1 none]) rfl <| P2 (setCells [.agg [.str b15, .ref 7 1 none, I b16, I b17, .bool b18]] 0 1 [ow 1 I l21] = List.map goi_Terrain [(Gi_Terrain.mk b15 l21 b16 b17 b18)]) rfl <| P1 (allOw_79 [(Gi_Terrain.mk b15 l21 b16 b17 b18)]) <| P2 ((1 : Nat) = 1) rfl <| P1 (apL l19 [(Gi_Terrain.mk b15 l21 b16 b17 b18)]) <| P1 (apB h2) <| P1 (apM goi_Terrain l19 [(Gi_Terrain.mk b15 l21 b16 b17 b18)]) <| P0) hn)
theorem ws_l1Cur_rules : ∀ s r, loop Bs_l1Cur_rules s = some r → Wc X 52 1 (Ks_l1Cur_rules s) (Zs_l1Cur_rules s) (Rs_l1Cur_rules r) (Ns_l1Cur_rules r) := Nx.all (ns_l1Cur_rules)
theorem cs_l1Cur_rules {a0 : Gs_l1Cur} {r : Gi_Rules × Gs_l1Cur} (H : Ds_l1Cur_rules a0 = some r) : Ct X.P X.gl 52 [.ptr 0 3 0 0] [⟨false, true, 3, 1, [.agg [sl 1 (D.int .u8) a0.code, I a0.at_, .int .u64 a0.seed]]⟩] (Rs_l1Cur_rules r) (Ns_l1Cur_rules r) :=
  Ct.of func52 (c := bdy f52) (by kernel_rfl) (by kernel_rfl) <|
  eBind H fun r1 hr1 H =>
  eBind H fun r2 hr2 H =>
  eBind H fun r3 hr3 H =>
  eBind H fun r4 hr4 H =>
  eBind H fun r5 hr5 H =>
  eBind H fun r6 hr6 H =>
  eBind H fun r7 hr7 H =>
  eBind H fun r8 hr8 H =>
  eBind H fun r9 hr9 H =>
  eBind H fun r10 hr10 H =>
  eBind H fun r11 hr11 H =>
  eBind H fun r12 hr12 H =>
  eCk H fun h13 H =>
  eCk H fun h14 H =>
  eBind H fun r15 hr15 H =>
  eBind H fun r16 hr16 H =>
  eBind H fun r17 hr17 H =>
  eBind H fun r18 hr18 H =>
  gO [r0, rg [hC 1 true [0] (Rs_l1Cur_pick r1) (Ns_l1Cur_pick r1), hC 4 true [0] (Rs_l1Cur_pick r2) (Ns_l1Cur_pick r2), hC 7 true [0] (Rs_l1Cur_pick r3) (Ns_l1Cur_pick r3), hC 10 true [0] (Rs_l1Cur_pick r4) (Ns_l1Cur_pick r4), hC 14 true [0] (Rs_l1Cur_pick r5) (Ns_l1Cur_pick r5), hC 17 true [0] (Rs_l1Cur_pick r6) (Ns_l1Cur_pick r6), hC 20 true [0] (Rs_l1Cur_pick r7) (Ns_l1Cur_pick r7), hC 23 true [0] (Rs_l1Cur_one r8) (Ns_l1Cur_one r8), hC 26 true [0] (Rs_l1Cur_pick r9) (Ns_l1Cur_pick r9), hC 29 true [0] (Rs_l1Cur_pick r10) (Ns_l1Cur_pick r10), hC 32 true [0] (Rs_l1Cur_pick r11) (Ns_l1Cur_pick r11)], rg [hC 2 true [0] (Rs_l1Cur_pick r12) (Ns_l1Cur_pick r12), hC 6 true [0] (Rs_l1Cur_pick r15) (Ns_l1Cur_pick r15), hC 9 true [0] (Rs_l1Cur_pick r16) (Ns_l1Cur_pick r16), hC 11 true [0] (Rs_l1Cur_pick r17) (Ns_l1Cur_pick r17), hC 14 true [0] (Rs_l1Cur_pick r18) (Ns_l1Cur_pick r18)], r0, r0, .viewb 3 1 (List.take ((Int.toNat (IntKind.wrap .i64 (1 + r12.1))) - 0) (List.drop 0 [(Gi_Kind.mk ⟨#[102, 111, 111, 116]⟩ (IntKind.wrap .i64 (2 + r1.1)) (IntKind.wrap .i64 (2 + r2.1)) (IntKind.wrap .i64 (1 + r3.1)) true (IntKind.wrap .i64 (1 + r4.1))), (Gi_Kind.mk ⟨#[104, 111, 114, 115, 101]⟩ (IntKind.wrap .i64 (1 + r5.1)) (IntKind.wrap .i64 (3 + r6.1)) (IntKind.wrap .i64 (1 + r7.1)) r8.1 2), (Gi_Kind.mk ⟨#[103, 117, 110]⟩ (IntKind.wrap .i64 (3 + r9.1)) (IntKind.wrap .i64 (1 + r10.1)) 1 false r11.1)])).length (List.map gi_Kind (List.take ((Int.toNat (IntKind.wrap .i64 (1 + r12.1))) - 0) (List.drop 0 [(Gi_Kind.mk ⟨#[102, 111, 111, 116]⟩ (IntKind.wrap .i64 (2 + r1.1)) (IntKind.wrap .i64 (2 + r2.1)) (IntKind.wrap .i64 (1 + r3.1)) true (IntKind.wrap .i64 (1 + r4.1))), (Gi_Kind.mk ⟨#[104, 111, 114, 115, 101]⟩ (IntKind.wrap .i64 (1 + r5.1)) (IntKind.wrap .i64 (3 + r6.1)) (IntKind.wrap .i64 (1 + r7.1)) r8.1 2), (Gi_Kind.mk ⟨#[103, 117, 110]⟩ (IntKind.wrap .i64 (3 + r9.1)) (IntKind.wrap .i64 (1 + r10.1)) 1 false r11.1)]))), .canon [0, 1, 3, 4, 5] [0, 2, 4, 5, 6]] (by kernel_rfl) (PI (1 : Nat) <| P1 (cs_l1Cur_pick hr1) <| PI (1 : Nat) <| P1 (cs_l1Cur_pick hr2) <| PI (1 : Nat) <| P1 (cs_l1Cur_pick hr3) <| PI (1 : Nat) <| P1 (cs_l1Cur_pick hr4) <| PI (1 : Nat) <| P1 (cs_l1Cur_pick hr5) <| PI (1 : Nat) <| P1 (cs_l1Cur_pick hr6) <| PI (1 : Nat) <| P1 (cs_l1Cur_pick hr7) <| PI (1 : Nat) <| P1 (cs_l1Cur_one hr8) <| PI (1 : Nat) <| P1 (cs_l1Cur_pick hr9) <| PI (1 : Nat) <| P1 (cs_l1Cur_pick hr10) <| PI (1 : Nat) <| P1 (cs_l1Cur_pick hr11) <| PI (1 : Nat) <| P1 (cs_l1Cur_pick hr12) <| P2 ((0 : Int) ≤ (IntKind.wrap .i64 (1 + r12.1))) h13 <| P2 (((IntKind.wrap .i64 (1 + r12.1)) : Int) ≤ (([(Gi_Kind.mk ⟨#[102, 111, 111, 116]⟩ (IntKind.wrap .i64 (2 + r1.1)) (IntKind.wrap .i64 (2 + r2.1)) (IntKind.wrap .i64 (1 + r3.1)) true (IntKind.wrap .i64 (1 + r4.1))), (Gi_Kind.mk ⟨#[104, 111, 114, 115, 101]⟩ (IntKind.wrap .i64 (1 + r5.1)) (IntKind.wrap .i64 (3 + r6.1)) (IntKind.wrap .i64 (1 + r7.1)) r8.1 2), (Gi_Kind.mk ⟨#[103, 117, 110]⟩ (IntKind.wrap .i64 (3 + r9.1)) (IntKind.wrap .i64 (1 + r10.1)) 1 false r11.1)].length : Nat) : Int)) h14 <| PI (1 : Nat) <| P1 (cs_l1Cur_pick hr15) <| PI (1 : Nat) <| P1 (cs_l1Cur_pick hr16) <| PI (1 : Nat) <| P1 (cs_l1Cur_pick hr17) <| PI (1 : Nat) <| P1 (cs_l1Cur_pick hr18) <| P2 (((Int.toNat (IntKind.wrap .i64 (1 + r12.1))) - 0) = (List.take ((Int.toNat (IntKind.wrap .i64 (1 + r12.1))) - 0) (List.drop 0 [(Gi_Kind.mk ⟨#[102, 111, 111, 116]⟩ (IntKind.wrap .i64 (2 + r1.1)) (IntKind.wrap .i64 (2 + r2.1)) (IntKind.wrap .i64 (1 + r3.1)) true (IntKind.wrap .i64 (1 + r4.1))), (Gi_Kind.mk ⟨#[104, 111, 114, 115, 101]⟩ (IntKind.wrap .i64 (1 + r5.1)) (IntKind.wrap .i64 (3 + r6.1)) (IntKind.wrap .i64 (1 + r7.1)) r8.1 2), (Gi_Kind.mk ⟨#[103, 117, 110]⟩ (IntKind.wrap .i64 (3 + r9.1)) (IntKind.wrap .i64 (1 + r10.1)) 1 false r11.1)])).length) (by first | (simp <;> omega) | (simp only [List.length_take, List.length_drop, List.length_nil] <;> omega)) <| P2 (List.take ((Int.toNat (IntKind.wrap .i64 (1 + r12.1))) - 0) (List.drop 0 (List.map gi_Kind [(Gi_Kind.mk ⟨#[102, 111, 111, 116]⟩ (IntKind.wrap .i64 (2 + r1.1)) (IntKind.wrap .i64 (2 + r2.1)) (IntKind.wrap .i64 (1 + r3.1)) true (IntKind.wrap .i64 (1 + r4.1))), (Gi_Kind.mk ⟨#[104, 111, 114, 115, 101]⟩ (IntKind.wrap .i64 (1 + r5.1)) (IntKind.wrap .i64 (3 + r6.1)) (IntKind.wrap .i64 (1 + r7.1)) r8.1 2), (Gi_Kind.mk ⟨#[103, 117, 110]⟩ (IntKind.wrap .i64 (3 + r9.1)) (IntKind.wrap .i64 (1 + r10.1)) 1 false r11.1)])) = List.map gi_Kind (List.take ((Int.toNat (IntKind.wrap .i64 (1 + r12.1))) - 0) (List.drop 0 [(Gi_Kind.mk ⟨#[102, 111, 111, 116]⟩ (IntKind.wrap .i64 (2 + r1.1)) (IntKind.wrap .i64 (2 + r2.1)) (IntKind.wrap .i64 (1 + r3.1)) true (IntKind.wrap .i64 (1 + r4.1))), (Gi_Kind.mk ⟨#[104, 111, 114, 115, 101]⟩ (IntKind.wrap .i64 (1 + r5.1)) (IntKind.wrap .i64 (3 + r6.1)) (IntKind.wrap .i64 (1 + r7.1)) r8.1 2), (Gi_Kind.mk ⟨#[103, 117, 110]⟩ (IntKind.wrap .i64 (3 + r9.1)) (IntKind.wrap .i64 (1 + r10.1)) 1 false r11.1)]))) (by rw [List.map_take, List.map_drop]) <| P0) (ws_l1Cur_rules _ _ H)
/-! loop example/g00886/spec mSize -/
theorem cs_mSize {a0 : Gi_Map} {r : Int} (H : Ds_mSize a0 = some r) : Ct X.P X.gl 47 [.agg [I a0.Width, I a0.Height, sl 1 I a0.Terrain, sl 1 I a0.Rivers, sl 1 I a0.Roads]] [] (RI r) [] :=
  Ct.of func47 (c := bdy f47) (by kernel_rfl) (by kernel_rfl) <|
  eW RI (fun _ => []) H <| gE func47 [r0, r0] (by kernel_rfl) P0
/-! loop example/g00886/spec mHex -/
def Rs_mHex (r : Gi_Hex) : List D := [.agg [I r.Q, I r.R]]
theorem cs_mHex {a0 : Gi_Map} {a1 : Int} {r : Gi_Hex} (H : Ds_mHex a0 a1 = some r) : Ct X.P X.gl 90 [.agg [I a0.Width, I a0.Height, sl 1 I a0.Terrain, sl 1 I a0.Rivers, sl 1 I a0.Roads], I a1] [] (Rs_mHex r) [] :=
  Ct.of func90 (c := bdy f90) (by kernel_rfl) (by kernel_rfl) <|
  eCk H fun h1 H =>
  eCk H fun h2 H =>
  eW Rs_mHex (fun _ => []) H <| gE func90 [r0, r0] (by kernel_rfl) (P2 (¬ (a0.Width : Int) = 0) h1 <| P2 (¬ (a0.Width : Int) = 0) h2 <| P0)
/-! loop example/g00886/spec hStep -/
def Rs_hStep (r : Gi_Hex) : List D := [.agg [I r.Q, I r.R]]
theorem cs_hStep {a0 : Gi_Hex} {a1 : Int} {r : Gi_Hex} (H : Ds_hStep a0 a1 = some r) : Ct X.P X.gl 89 [.agg [I a0.Q, I a0.R], I a1] [] (Rs_hStep r) [] :=
  Ct.of func89 (c := bdy f89) (by kernel_rfl) (by kernel_rfl) <|
  eCk H fun h1 H =>
  eBind H fun x2 hx2 H =>
  eCk H fun h3 H =>
  eBind H fun x4 hx4 H =>
  eW Rs_hStep (fun _ => []) H <| gE func89 [r0, rg [hE 5 (I x2), hE 12 (I x4)]] (by kernel_rfl) (P1 h1 <| P1 (int_lt_of_at h1 hx2) <| P1 (at_map I hx2) <| P1 h3 <| P1 (int_lt_of_at h3 hx4) <| P1 (at_map I hx4) <| P0)
/-! loop example/g00886/spec l1In -/
theorem cs_l1In {a0 : Int} {a1 : Int} {a2 : Int} {r : Bool} (H : Ds_l1In a0 a1 a2 = some r) : Ct X.P X.gl 29 [I a0, I a1, I a2] [] (RB r) [] :=
  Ct.of func29 (c := bdy f29) (by kernel_rfl) (by kernel_rfl) <|
  gS [r0] (by kernel_rfl) P0 <|
  eIf H (fun h1 H =>
    eW RB (fun _ => []) H <| gE func29 [rg [hT 2]] (by kernel_rfl) (P2 ((decide (a0 ≥ a1)) = true) (decide_eq_true h1) <| P0))
  (fun h1 H =>
    eW RB (fun _ => []) H <| gE func29 [rg [hF 2]] (by kernel_rfl) (P2 ((decide (a0 ≥ a1)) = false) (decide_eq_false h1) <| P0))
/-! loop example/g00886/spec mIndex -/
theorem cs_mIndex {a0 : Gi_Map} {a1 : Gi_Hex} {r : Int} (H : Ds_mIndex a0 a1 = some r) : Ct X.P X.gl 88 [.agg [I a0.Width, I a0.Height, sl 1 I a0.Terrain, sl 1 I a0.Rivers, sl 1 I a0.Roads], .agg [I a1.Q, I a1.R]] [] (RI r) [] :=
  Ct.of func88 (c := bdy f88) (by kernel_rfl) (by kernel_rfl) <|
  eBind H fun r1 hr1 H =>
  gS [r0] (by kernel_rfl) P0 <|
  eIf H (fun h2 H =>
    eBind H fun r3 hr3 H =>
    eIf H (fun h4 H =>
      eW RI (fun _ => []) H <| gE func88 [rg [{ i := 5, call := some { cl := true, auto := true, ins := [], res := (RB r1), G' := [] }, dec := some true }, { i := 13, call := some { cl := true, auto := true, ins := [], res := (RB r3), G' := [] }, dec := some true }], r0] (by kernel_rfl) (P1 (cs_l1In hr1) <| P2 (r1 = true) (h2) <| P1 (cs_l1In hr3) <| P2 (r3 = true) (h4) <| P0))
    (fun h4 H =>
      eW RI (fun _ => []) H <| gE func88 [rg [{ i := 5, call := some { cl := true, auto := true, ins := [], res := (RB r1), G' := [] }, dec := some true }, { i := 13, call := some { cl := true, auto := true, ins := [], res := (RB r3), G' := [] }, dec := some false }], r0] (by kernel_rfl) (P1 (cs_l1In hr1) <| P2 (r1 = true) (h2) <| P1 (cs_l1In hr3) <| P2 (r3 = false) (eqF h4) <| P0)))
  (fun h2 H =>
    eW RI (fun _ => []) H <| gE func88 [rg [{ i := 5, call := some { cl := true, auto := true, ins := [], res := (RB r1), G' := [] }, dec := some false }], r0] (by kernel_rfl) (P1 (cs_l1In hr1) <| P2 (r1 = false) (eqF h2) <| P0))
/-! loop example/g00886/spec mNext -/
theorem cs_mNext {a0 : Gi_Map} {a1 : Int} {a2 : Int} {r : Int} (H : Ds_mNext a0 a1 a2 = some r) : Ct X.P X.gl 77 [.agg [I a0.Width, I a0.Height, sl 1 I a0.Terrain, sl 1 I a0.Rivers, sl 1 I a0.Roads], I a1, I a2] [] (RI r) [] :=
  Ct.of func77 (c := bdy f77) (by kernel_rfl) (by kernel_rfl) <|
  eBind H fun r1 hr1 H =>
  eBind H fun r2 hr2 H =>
  eBind H fun r3 hr3 H =>
  eW RI (fun _ => []) H <| gE func77 [r0, rg [hC 3 true [] (Rs_mHex r1) [], hC 5 true [] (Rs_hStep r2) [], hC 6 true [] (RI r3) []]] (by kernel_rfl) (P1 (cs_mHex hr1) <| P1 (cs_hStep hr2) <| P1 (cs_mIndex hr3) <| P0)
/-! loop example/g00886/spec mEdge -/
theorem cs_mEdge {a0 : Gi_Map} {a1 : Int} {a2 : Int} {r : Int} (H : Ds_mEdge a0 a1 a2 = some r) : Ct X.P X.gl 79 [.agg [I a0.Width, I a0.Height, sl 1 I a0.Terrain, sl 1 I a0.Rivers, sl 1 I a0.Roads], I a1, I a2] [] (RI r) [] :=
  Ct.of func79 (c := bdy f79) (by kernel_rfl) (by kernel_rfl) <|
  gS [r0] (by kernel_rfl) P0 <|
  eIf H (fun h1 H =>
    eW RI (fun _ => []) H <| gE func79 [rg [hT 1], r0] (by kernel_rfl) (P2 ((decide (a2 < 3)) = true) (decide_eq_true h1) <| P0))
  (fun h1 H =>
    eBind H fun r2 hr2 H =>
    eW RI (fun _ => []) H <| gE func79 [rg [hF 1], rg [hC 3 true [] (RI r2) []]] (by kernel_rfl) (P2 ((decide (a2 < 3)) = false) (decide_eq_false h1) <| P1 (cs_mNext hr2) <| P0))
/-! loop example/g00886/spec l1Put -/
def Rs_l1Put_c0 (r : (List Int)) : List D := [ow 1 I r]
def Ns_l1Put_c0 (r : (List Int)) : List Root := [deadR]
noncomputable def Ks_l1Put_c0 : Ss_l1Put_c0 → List Item
  | .h1 .. => nav 300 2 [] [.code (bdy f78)]
def Zs_l1Put_c0 : Ss_l1Put_c0 → St
  | .h1 n0 k1 l2 => ⟨sts 48 [(0, .ref 1 1 none), (1, I n0), (5, I k1)], [none, some ⟨false, false, 1, l2.length, List.map I l2⟩]⟩
abbrev Qs_l1Put_c0 := Nx X 78 1 Ks_l1Put_c0 Zs_l1Put_c0 Rs_l1Put_c0 Ns_l1Put_c0
theorem ns_l1Put_c0 : ∀ s o, Bs_l1Put_c0 s = some o → Qs_l1Put_c0 (Ks_l1Put_c0 s) (Zs_l1Put_c0 s) o
  | .h1 n0 k1 l2, o, H =>
    eIf H (fun h1 H =>
      eCk H fun h2 H =>
      eBind H fun x3 hx3 H =>
      eIf H (fun h4 H =>
        eN H fun r hn => gO [rg [hT 3, hE 8 (I x3), hT 10], r0, .canon [0, 1] [0, 1, 5]] (by kernel_rfl) (P2 ((decide (k1 < ((l2.length : Nat) : Int))) = true) (decide_eq_true h1) <| P1 h2 <| P1 (int_lt_of_at h2 hx3) <| P1 (at_map I hx3) <| P2 ((decide (x3 < n0)) = true) (decide_eq_true h4) <| P0) hn)
      (fun h4 H =>
        gN [rg [hT 3, hE 8 (I x3), hF 10]] (by kernel_rfl) (P2 ((decide (k1 < ((l2.length : Nat) : Int))) = true) (decide_eq_true h1) <| P1 h2 <| P1 (int_lt_of_at h2 hx3) <| P1 (at_map I hx3) <| P2 ((decide (x3 < n0)) = false) (decide_eq_false h4) <| P0) <|
        eIf H (fun h5 H =>
          eCk H fun h6 H =>
          eBind H fun x7 hx7 H =>
          eIf H (fun h8 H =>
            eN H <| gE func78 [rg [hT 3, hE 8 (I x7), hT 10], r0] (by kernel_rfl) (P2 ((decide (k1 < ((l2.length : Nat) : Int))) = true) (decide_eq_true h5) <| P1 h6 <| P1 (int_lt_of_at h6 hx7) <| P1 (at_map I hx7) <| P2 (((x7 : Int) == n0) = true) (beqT h8) <| P0))
          (fun h8 H =>
            eCk H fun h9 H =>
            eCk H fun h10 H =>
            eCk H fun h11 H =>
            eCk H fun h12 H =>
            eCk H fun h13 H =>
            eCk H fun h14 H =>
            eCk H fun h15 H =>
            eN H <| gE func78 [rg [hT 3, hE 8 (I x7), hF 10], rg [{ i := 4, keep := true, n := (List.take ((Int.toNat k1) - 0) (List.drop 0 l2)).length, xs := List.map I (List.take ((Int.toNat k1) - 0) (List.drop 0 l2)) }], rg [hA 3 (((List.take ((Int.toNat k1) - 0) (List.drop 0 l2)) ++ [n0]).length) (List.map I ((List.take ((Int.toNat k1) - 0) (List.drop 0 l2)) ++ [n0]))], rg [{ i := 4, keep := true, n := (((List.take ((Int.toNat k1) - 0) (List.drop 0 l2)) ++ [n0]) ++ (List.take (l2.length - (Int.toNat k1)) (List.drop (Int.toNat k1) l2))).length, xs := List.map I (((List.take ((Int.toNat k1) - 0) (List.drop 0 l2)) ++ [n0]) ++ (List.take (l2.length - (Int.toNat k1)) (List.drop (Int.toNat k1) l2))) }]] (by kernel_rfl) (P2 ((decide (k1 < ((l2.length : Nat) : Int))) = true) (decide_eq_true h5) <| P1 h6 <| P1 (int_lt_of_at h6 hx7) <| P1 (at_map I hx7) <| P2 (((x7 : Int) == n0) = false) (beqF h8) <| P2 ((0 : Int) ≤ k1) h9 <| P2 ((k1 : Int) ≤ ((l2.length : Nat) : Int)) h10 <| P2 (AllFl (List.map I l2)) (allFl_3 _) <| P2 ((List.take ((Int.toNat k1) - 0) (List.drop 0 l2)).length = ([] : List Int).length + ((Int.toNat k1) - 0)) (by first | (simp <;> omega) | (simp only [List.length_append, List.length_take, List.length_drop, List.length_nil] <;> omega)) <| P2 ((([] : List Int).length + ((Int.toNat k1) - 0)) * 8 ≤ 70368744177664) (by have := h11; first | (simp at this ⊢ <;> omega) | (simp only [List.length_append, List.length_take, List.length_drop, List.length_nil] at this ⊢ <;> omega)) <| P2 (List.map I ([] : List Int) ++ List.take ((Int.toNat k1) - 0) (List.drop 0 (List.map I l2)) = List.map I (List.take ((Int.toNat k1) - 0) (List.drop 0 l2))) (by simp [List.map_take, List.map_drop]) <| P1 (apL (List.take ((Int.toNat k1) - 0) (List.drop 0 l2)) [n0]) <| P1 (apB h12) <| P1 (apM I (List.take ((Int.toNat k1) - 0) (List.drop 0 l2)) [n0]) <| P2 ((0 : Int) ≤ k1) h13 <| P2 ((k1 : Int) ≤ ((l2.length : Nat) : Int)) h14 <| P2 (AllFl (List.map I l2)) (allFl_3 _) <| P2 ((((List.take ((Int.toNat k1) - 0) (List.drop 0 l2)) ++ [n0]) ++ (List.take (l2.length - (Int.toNat k1)) (List.drop (Int.toNat k1) l2))).length = ((List.take ((Int.toNat k1) - 0) (List.drop 0 l2)) ++ [n0]).length + (l2.length - (Int.toNat k1))) (by first | (simp <;> omega) | (simp only [List.length_append, List.length_take, List.length_drop, List.length_nil] <;> omega)) <| P2 ((((List.take ((Int.toNat k1) - 0) (List.drop 0 l2)) ++ [n0]).length + (l2.length - (Int.toNat k1))) * 8 ≤ 70368744177664) (by have := h15; first | (simp at this ⊢ <;> omega) | (simp only [List.length_append, List.length_take, List.length_drop, List.length_nil] at this ⊢ <;> omega)) <| P2 (List.map I ((List.take ((Int.toNat k1) - 0) (List.drop 0 l2)) ++ [n0]) ++ List.take (l2.length - (Int.toNat k1)) (List.drop (Int.toNat k1) (List.map I l2)) = List.map I (((List.take ((Int.toNat k1) - 0) (List.drop 0 l2)) ++ [n0]) ++ (List.take (l2.length - (Int.toNat k1)) (List.drop (Int.toNat k1) l2)))) (by simp [List.map_take, List.map_drop]) <| P0)))
        (fun h5 H =>
          eCk H fun h6 H =>
          eCk H fun h7 H =>
          eCk H fun h8 H =>
          eCk H fun h9 H =>
          eCk H fun h10 H =>
          eCk H fun h11 H =>
          eCk H fun h12 H =>
          eN H <| gE func78 [rg [hF 3], rg [{ i := 4, keep := true, n := (List.take ((Int.toNat k1) - 0) (List.drop 0 l2)).length, xs := List.map I (List.take ((Int.toNat k1) - 0) (List.drop 0 l2)) }], rg [hA 3 (((List.take ((Int.toNat k1) - 0) (List.drop 0 l2)) ++ [n0]).length) (List.map I ((List.take ((Int.toNat k1) - 0) (List.drop 0 l2)) ++ [n0]))], rg [{ i := 4, keep := true, n := (((List.take ((Int.toNat k1) - 0) (List.drop 0 l2)) ++ [n0]) ++ (List.take (l2.length - (Int.toNat k1)) (List.drop (Int.toNat k1) l2))).length, xs := List.map I (((List.take ((Int.toNat k1) - 0) (List.drop 0 l2)) ++ [n0]) ++ (List.take (l2.length - (Int.toNat k1)) (List.drop (Int.toNat k1) l2))) }]] (by kernel_rfl) (P2 ((decide (k1 < ((l2.length : Nat) : Int))) = false) (decide_eq_false h5) <| P2 ((0 : Int) ≤ k1) h6 <| P2 ((k1 : Int) ≤ ((l2.length : Nat) : Int)) h7 <| P2 (AllFl (List.map I l2)) (allFl_3 _) <| P2 ((List.take ((Int.toNat k1) - 0) (List.drop 0 l2)).length = ([] : List Int).length + ((Int.toNat k1) - 0)) (by first | (simp <;> omega) | (simp only [List.length_append, List.length_take, List.length_drop, List.length_nil] <;> omega)) <| P2 ((([] : List Int).length + ((Int.toNat k1) - 0)) * 8 ≤ 70368744177664) (by have := h8; first | (simp at this ⊢ <;> omega) | (simp only [List.length_append, List.length_take, List.length_drop, List.length_nil] at this ⊢ <;> omega)) <| P2 (List.map I ([] : List Int) ++ List.take ((Int.toNat k1) - 0) (List.drop 0 (List.map I l2)) = List.map I (List.take ((Int.toNat k1) - 0) (List.drop 0 l2))) (by simp [List.map_take, List.map_drop]) <| P1 (apL (List.take ((Int.toNat k1) - 0) (List.drop 0 l2)) [n0]) <| P1 (apB h9) <| P1 (apM I (List.take ((Int.toNat k1) - 0) (List.drop 0 l2)) [n0]) <| P2 ((0 : Int) ≤ k1) h10 <| P2 ((k1 : Int) ≤ ((l2.length : Nat) : Int)) h11 <| P2 (AllFl (List.map I l2)) (allFl_3 _) <| P2 ((((List.take ((Int.toNat k1) - 0) (List.drop 0 l2)) ++ [n0]) ++ (List.take (l2.length - (Int.toNat k1)) (List.drop (Int.toNat k1) l2))).length = ((List.take ((Int.toNat k1) - 0) (List.drop 0 l2)) ++ [n0]).length + (l2.length - (Int.toNat k1))) (by first | (simp <;> omega) | (simp only [List.length_append, List.length_take, List.length_drop, List.length_nil] <;> omega)) <| P2 ((((List.take ((Int.toNat k1) - 0) (List.drop 0 l2)) ++ [n0]).length + (l2.length - (Int.toNat k1))) * 8 ≤ 70368744177664) (by have := h12; first | (simp at this ⊢ <;> omega) | (simp only [List.length_append, List.length_take, List.length_drop, List.length_nil] at this ⊢ <;> omega)) <| P2 (List.map I ((List.take ((Int.toNat k1) - 0) (List.drop 0 l2)) ++ [n0]) ++ List.take (l2.length - (Int.toNat k1)) (List.drop (Int.toNat k1) (List.map I l2)) = List.map I (((List.take ((Int.toNat k1) - 0) (List.drop 0 l2)) ++ [n0]) ++ (List.take (l2.length - (Int.toNat k1)) (List.drop (Int.toNat k1) l2)))) (by simp [List.map_take, List.map_drop]) <| P0))))
    (fun h1 H =>
      gN [rg [hF 3]] (by kernel_rfl) (P2 ((decide (k1 < ((l2.length : Nat) : Int))) = false) (decide_eq_false h1) <| P0) <|
      eIf H (fun h2 H =>
        eCk H fun h3 H =>
        eBind H fun x4 hx4 H =>
        eIf H (fun h5 H =>
          eN H <| gE func78 [rg [hT 3, hE 8 (I x4), hT 10], r0] (by kernel_rfl) (P2 ((decide (k1 < ((l2.length : Nat) : Int))) = true) (decide_eq_true h2) <| P1 h3 <| P1 (int_lt_of_at h3 hx4) <| P1 (at_map I hx4) <| P2 (((x4 : Int) == n0) = true) (beqT h5) <| P0))
        (fun h5 H =>
          eCk H fun h6 H =>
          eCk H fun h7 H =>
          eCk H fun h8 H =>
          eCk H fun h9 H =>
          eCk H fun h10 H =>
          eCk H fun h11 H =>
          eCk H fun h12 H =>
          eN H <| gE func78 [rg [hT 3, hE 8 (I x4), hF 10], rg [{ i := 4, keep := true, n := (List.take ((Int.toNat k1) - 0) (List.drop 0 l2)).length, xs := List.map I (List.take ((Int.toNat k1) - 0) (List.drop 0 l2)) }], rg [hA 3 (((List.take ((Int.toNat k1) - 0) (List.drop 0 l2)) ++ [n0]).length) (List.map I ((List.take ((Int.toNat k1) - 0) (List.drop 0 l2)) ++ [n0]))], rg [{ i := 4, keep := true, n := (((List.take ((Int.toNat k1) - 0) (List.drop 0 l2)) ++ [n0]) ++ (List.take (l2.length - (Int.toNat k1)) (List.drop (Int.toNat k1) l2))).length, xs := List.map I (((List.take ((Int.toNat k1) - 0) (List.drop 0 l2)) ++ [n0]) ++ (List.take (l2.length - (Int.toNat k1)) (List.drop (Int.toNat k1) l2))) }]] (by kernel_rfl) (P2 ((decide (k1 < ((l2.length : Nat) : Int))) = true) (decide_eq_true h2) <| P1 h3 <| P1 (int_lt_of_at h3 hx4) <| P1 (at_map I hx4) <| P2 (((x4 : Int) == n0) = false) (beqF h5) <| P2 ((0 : Int) ≤ k1) h6 <| P2 ((k1 : Int) ≤ ((l2.length : Nat) : Int)) h7 <| P2 (AllFl (List.map I l2)) (allFl_3 _) <| P2 ((List.take ((Int.toNat k1) - 0) (List.drop 0 l2)).length = ([] : List Int).length + ((Int.toNat k1) - 0)) (by first | (simp <;> omega) | (simp only [List.length_append, List.length_take, List.length_drop, List.length_nil] <;> omega)) <| P2 ((([] : List Int).length + ((Int.toNat k1) - 0)) * 8 ≤ 70368744177664) (by have := h8; first | (simp at this ⊢ <;> omega) | (simp only [List.length_append, List.length_take, List.length_drop, List.length_nil] at this ⊢ <;> omega)) <| P2 (List.map I ([] : List Int) ++ List.take ((Int.toNat k1) - 0) (List.drop 0 (List.map I l2)) = List.map I (List.take ((Int.toNat k1) - 0) (List.drop 0 l2))) (by simp [List.map_take, List.map_drop]) <| P1 (apL (List.take ((Int.toNat k1) - 0) (List.drop 0 l2)) [n0]) <| P1 (apB h9) <| P1 (apM I (List.take ((Int.toNat k1) - 0) (List.drop 0 l2)) [n0]) <| P2 ((0 : Int) ≤ k1) h10 <| P2 ((k1 : Int) ≤ ((l2.length : Nat) : Int)) h11 <| P2 (AllFl (List.map I l2)) (allFl_3 _) <| P2 ((((List.take ((Int.toNat k1) - 0) (List.drop 0 l2)) ++ [n0]) ++ (List.take (l2.length - (Int.toNat k1)) (List.drop (Int.toNat k1) l2))).length = ((List.take ((Int.toNat k1) - 0) (List.drop 0 l2)) ++ [n0]).length + (l2.length - (Int.toNat k1))) (by first | (simp <;> omega) | (simp only [List.length_append, List.length_take, List.length_drop, List.length_nil] <;> omega)) <| P2 ((((List.take ((Int.toNat k1) - 0) (List.drop 0 l2)) ++ [n0]).length + (l2.length - (Int.toNat k1))) * 8 ≤ 70368744177664) (by have := h12; first | (simp at this ⊢ <;> omega) | (simp only [List.length_append, List.length_take, List.length_drop, List.length_nil] at this ⊢ <;> omega)) <| P2 (List.map I ((List.take ((Int.toNat k1) - 0) (List.drop 0 l2)) ++ [n0]) ++ List.take (l2.length - (Int.toNat k1)) (List.drop (Int.toNat k1) (List.map I l2)) = List.map I (((List.take ((Int.toNat k1) - 0) (List.drop 0 l2)) ++ [n0]) ++ (List.take (l2.length - (Int.toNat k1)) (List.drop (Int.toNat k1) l2)))) (by simp [List.map_take, List.map_drop]) <| P0)))
      (fun h2 H =>
        eCk H fun h3 H =>
        eCk H fun h4 H =>
        eCk H fun h5 H =>
        eCk H fun h6 H =>
        eCk H fun h7 H =>
        eCk H fun h8 H =>
        eCk H fun h9 H =>
        eN H <| gE func78 [rg [hF 3], rg [{ i := 4, keep := true, n := (List.take ((Int.toNat k1) - 0) (List.drop 0 l2)).length, xs := List.map I (List.take ((Int.toNat k1) - 0) (List.drop 0 l2)) }], rg [hA 3 (((List.take ((Int.toNat k1) - 0) (List.drop 0 l2)) ++ [n0]).length) (List.map I ((List.take ((Int.toNat k1) - 0) (List.drop 0 l2)) ++ [n0]))], rg [{ i := 4, keep := true, n := (((List.take ((Int.toNat k1) - 0) (List.drop 0 l2)) ++ [n0]) ++ (List.take (l2.length - (Int.toNat k1)) (List.drop (Int.toNat k1) l2))).length, xs := List.map I (((List.take ((Int.toNat k1) - 0) (List.drop 0 l2)) ++ [n0]) ++ (List.take (l2.length - (Int.toNat k1)) (List.drop (Int.toNat k1) l2))) }]] (by kernel_rfl) (P2 ((decide (k1 < ((l2.length : Nat) : Int))) = false) (decide_eq_false h2) <| P2 ((0 : Int) ≤ k1) h3 <| P2 ((k1 : Int) ≤ ((l2.length : Nat) : Int)) h4 <| P2 (AllFl (List.map I l2)) (allFl_3 _) <| P2 ((List.take ((Int.toNat k1) - 0) (List.drop 0 l2)).length = ([] : List Int).length + ((Int.toNat k1) - 0)) (by first | (simp <;> omega) | (simp only [List.length_append, List.length_take, List.length_drop, List.length_nil] <;> omega)) <| P2 ((([] : List Int).length + ((Int.toNat k1) - 0)) * 8 ≤ 70368744177664) (by have := h5; first | (simp at this ⊢ <;> omega) | (simp only [List.length_append, List.length_take, List.length_drop, List.length_nil] at this ⊢ <;> omega)) <| P2 (List.map I ([] : List Int) ++ List.take ((Int.toNat k1) - 0) (List.drop 0 (List.map I l2)) = List.map I (List.take ((Int.toNat k1) - 0) (List.drop 0 l2))) (by simp [List.map_take, List.map_drop]) <| P1 (apL (List.take ((Int.toNat k1) - 0) (List.drop 0 l2)) [n0]) <| P1 (apB h6) <| P1 (apM I (List.take ((Int.toNat k1) - 0) (List.drop 0 l2)) [n0]) <| P2 ((0 : Int) ≤ k1) h7 <| P2 ((k1 : Int) ≤ ((l2.length : Nat) : Int)) h8 <| P2 (AllFl (List.map I l2)) (allFl_3 _) <| P2 ((((List.take ((Int.toNat k1) - 0) (List.drop 0 l2)) ++ [n0]) ++ (List.take (l2.length - (Int.toNat k1)) (List.drop (Int.toNat k1) l2))).length = ((List.take ((Int.toNat k1) - 0) (List.drop 0 l2)) ++ [n0]).length + (l2.length - (Int.toNat k1))) (by first | (simp <;> omega) | (simp only [List.length_append, List.length_take, List.length_drop, List.length_nil] <;> omega)) <| P2 ((((List.take ((Int.toNat k1) - 0) (List.drop 0 l2)) ++ [n0]).length + (l2.length - (Int.toNat k1))) * 8 ≤ 70368744177664) (by have := h9; first | (simp at this ⊢ <;> omega) | (simp only [List.length_append, List.length_take, List.length_drop, List.length_nil] at this ⊢ <;> omega)) <| P2 (List.map I ((List.take ((Int.toNat k1) - 0) (List.drop 0 l2)) ++ [n0]) ++ List.take (l2.length - (Int.toNat k1)) (List.drop (Int.toNat k1) (List.map I l2)) = List.map I (((List.take ((Int.toNat k1) - 0) (List.drop 0 l2)) ++ [n0]) ++ (List.take (l2.length - (Int.toNat k1)) (List.drop (Int.toNat k1) l2)))) (by simp [List.map_take, List.map_drop]) <| P0)))
theorem ws_l1Put_c0 : ∀ s r, loop Bs_l1Put_c0 s = some r → Wc X 78 1 (Ks_l1Put_c0 s) (Zs_l1Put_c0 s) (Rs_l1Put_c0 r) (Ns_l1Put_c0 r) := Nx.all (ns_l1Put_c0)
theorem cs_l1Put_c0 {a0 : (List Int)} {a1 : Int} {r : (List Int)} (H : Ds_l1Put_c0 a0 a1 = some r) : Ct X.P X.gl 78 [.ref 0 1 none, I a1] [⟨false, false, 1, a0.length, List.map I a0⟩] (Rs_l1Put_c0 r) (Ns_l1Put_c0 r) :=
  Ct.of func78 (c := bdy f78) (by kernel_rfl) (by kernel_rfl) <|
  gO [.whole 0, r0, r0, .canon [0, 1] [0, 1, 5]] (by kernel_rfl) P0 (ws_l1Put_c0 _ _ H)
/-!   loop example/g00886/spec l1Cur  edges -/
def Rs_l1Cur_edges (r : (List Int) × Gs_l1Cur) : List D := [ow 1 I r.1]
def Ns_l1Cur_edges (r : (List Int) × Gs_l1Cur) : List Root := [⟨false, true, 3, 1, [.agg [sl 1 (D.int .u8) r.2.code, I r.2.at_, .int .u64 r.2.seed]]⟩]
noncomputable def Ks_l1Cur_edges : Ss_l1Cur_edges → List Item
  | .h1 .. => nav 300 3 [] [.code (bdy f65)]
def Zs_l1Cur_edges : Ss_l1Cur_edges → St
  | .h1 k0 b1 b2 l3 => ⟨sts 33 [(0, .ptr 0 3 0 0), (3, .ptr 1 5 0 0), (5, .ref 2 1 none), (6, I k0)], [some ⟨false, true, 3, 1, [.agg [sl 1 (D.int .u8) b1.code, I b1.at_, .int .u64 b1.seed]]⟩, some ⟨false, true, 5, 1, [.agg [I b2.Width, I b2.Height, sl 1 I b2.Terrain, sl 1 I b2.Rivers, sl 1 I b2.Roads]]⟩, some ⟨false, false, 1, l3.length, List.map I l3⟩]⟩
abbrev Qs_l1Cur_edges := Nx X 65 1 Ks_l1Cur_edges Zs_l1Cur_edges Rs_l1Cur_edges Ns_l1Cur_edges
theorem ns_l1Cur_edges : ∀ s o, Bs_l1Cur_edges s = some o → Qs_l1Cur_edges (Ks_l1Cur_edges s) (Zs_l1Cur_edges s) o
  | .h1 k0 b1 b2 l3, o, H =>
    eIf H (fun h1 H =>
      eBind H fun r2 hr2 H =>
      eBind H fun r3 hr3 H =>
      eBind H fun r4 hr4 H =>
      eBind H fun r5 hr5 H =>
      gN [rg [hT 1], rg [hC 2 true [] (RI r2) [], hC 3 true [0] (Rs_l1Cur_pick r3) (Ns_l1Cur_pick r3), hC 5 true [0] (Rs_l1Cur_pick r4) (Ns_l1Cur_pick r4)]] (by kernel_rfl) (P2 ((decide (k0 > 0)) = true) (decide_eq_true h1) <| P1 (cs_mSize hr2) <| PI (1 : Nat) <| P1 (cs_l1Cur_pick hr3) <| PI (1 : Nat) <| P1 (cs_l1Cur_pick hr4) <| P0) <|
      eIf H (fun h6 H =>
        eBind H fun r7 hr7 H =>
        eBind H fun r8 hr8 H =>
        eN H fun r hn => gO [rg [hC 3 true [] (RI r5) [], hT 4], rg [hC 4 true [] (RI r7) [], hC 5 true [2] (Rs_l1Put_c0 r8) (Ns_l1Put_c0 r8)], r0, .canon [0, 1, 3] [0, 3, 5, 6]] (by kernel_rfl) (P1 (cs_mNext hr5) <| P2 ((decide (r5 ≥ 0)) = true) (decide_eq_true h6) <| P1 (cs_mEdge hr7) <| P1 (cs_l1Put_c0 hr8) <| P0) hn)
      (fun h6 H =>
        eN H fun r hn => gO [rg [hC 3 true [] (RI r5) [], hF 4], r0, .canon [0, 1, 2] [0, 3, 5, 6]] (by kernel_rfl) (P1 (cs_mNext hr5) <| P2 ((decide (r5 ≥ 0)) = false) (decide_eq_false h6) <| P0) hn))
    (fun h1 H =>
      eN H <| gE func65 [rg [hF 1], r0] (by kernel_rfl) (P2 ((decide (k0 > 0)) = false) (decide_eq_false h1) <| P0))
theorem ws_l1Cur_edges : ∀ s r, loop Bs_l1Cur_edges s = some r → Wc X 65 1 (Ks_l1Cur_edges s) (Zs_l1Cur_edges s) (Rs_l1Cur_edges r) (Ns_l1Cur_edges r) := Nx.all (ns_l1Cur_edges)
theorem cs_l1Cur_edges {a0 : Gs_l1Cur} {a1 : Gi_Map} {r : (List Int) × Gs_l1Cur} (H : Ds_l1Cur_edges a0 a1 = some r) : Ct X.P X.gl 65 [.ptr 0 3 0 0, .agg [I a1.Width, I a1.Height, sl 1 I a1.Terrain, sl 1 I a1.Rivers, sl 1 I a1.Roads]] [⟨false, true, 3, 1, [.agg [sl 1 (D.int .u8) a0.code, I a0.at_, .int .u64 a0.seed]]⟩] (Rs_l1Cur_edges r) (Ns_l1Cur_edges r) :=
  Ct.of func65 (c := bdy f65) (by kernel_rfl) (by kernel_rfl) <|
  eBind H fun r1 hr1 H =>
  gO [r0, r0, rg [hC 1 true [0] (Rs_l1Cur_pick r1) (Ns_l1Cur_pick r1)], .own 5 1, .canon [0, 1, 2] [0, 3, 5, 6]] (by kernel_rfl) (PI (1 : Nat) <| P1 (cs_l1Cur_pick hr1) <| P0) (ws_l1Cur_edges _ _ H)
/-! loop example/g00886/spec mSize -/
theorem cs_mSize_u0_2_3_4 {a0 : Gi_Map} {r : Int} (H : Ds_mSize a0 = some r) : Ct X.P X.gl 47 [.agg [I a0.Width, I a0.Height, .hid, .hid, .hid]] [] (RI r) [] :=
  Ct.of func47 (c := bdy f47) (by kernel_rfl) (by kernel_rfl) <|
  eW RI (fun _ => []) H <| gE func47 [r0, r0] (by kernel_rfl) P0
/-! loop example/g00886/spec mHex -/
def Rs_mHex_u0_2_3_4 (r : Gi_Hex) : List D := [.agg [I r.Q, I r.R]]
theorem cs_mHex_u0_2_3_4 {a0 : Gi_Map} {a1 : Int} {r : Gi_Hex} (H : Ds_mHex a0 a1 = some r) : Ct X.P X.gl 90 [.agg [I a0.Width, I a0.Height, .hid, .hid, .hid], I a1] [] (Rs_mHex_u0_2_3_4 r) [] :=
  Ct.of func90 (c := bdy f90) (by kernel_rfl) (by kernel_rfl) <|
  eCk H fun h1 H =>
  eCk H fun h2 H =>
  eW Rs_mHex_u0_2_3_4 (fun _ => []) H <| gE func90 [r0, r0] (by kernel_rfl) (P2 (¬ (a0.Width : Int) = 0) h1 <| P2 (¬ (a0.Width : Int) = 0) h2 <| P0)
/-! loop example/g00886/spec mIndex -/
theorem cs_mIndex_u0_2_3_4 {a0 : Gi_Map} {a1 : Gi_Hex} {r : Int} (H : Ds_mIndex a0 a1 = some r) : Ct X.P X.gl 88 [.agg [I a0.Width, I a0.Height, .hid, .hid, .hid], .agg [I a1.Q, I a1.R]] [] (RI r) [] :=
  Ct.of func88 (c := bdy f88) (by kernel_rfl) (by kernel_rfl) <|
  eBind H fun r1 hr1 H =>
  gS [r0] (by kernel_rfl) P0 <|
  eIf H (fun h2 H =>
    eBind H fun r3 hr3 H =>
    eIf H (fun h4 H =>
      eW RI (fun _ => []) H <| gE func88 [rg [{ i := 5, call := some { cl := true, auto := true, ins := [], res := (RB r1), G' := [] }, dec := some true }, { i := 13, call := some { cl := true, auto := true, ins := [], res := (RB r3), G' := [] }, dec := some true }], r0] (by kernel_rfl) (P1 (cs_l1In hr1) <| P2 (r1 = true) (h2) <| P1 (cs_l1In hr3) <| P2 (r3 = true) (h4) <| P0))
    (fun h4 H =>
      eW RI (fun _ => []) H <| gE func88 [rg [{ i := 5, call := some { cl := true, auto := true, ins := [], res := (RB r1), G' := [] }, dec := some true }, { i := 13, call := some { cl := true, auto := true, ins := [], res := (RB r3), G' := [] }, dec := some false }], r0] (by kernel_rfl) (P1 (cs_l1In hr1) <| P2 (r1 = true) (h2) <| P1 (cs_l1In hr3) <| P2 (r3 = false) (eqF h4) <| P0)))
  (fun h2 H =>
    eW RI (fun _ => []) H <| gE func88 [rg [{ i := 5, call := some { cl := true, auto := true, ins := [], res := (RB r1), G' := [] }, dec := some false }], r0] (by kernel_rfl) (P1 (cs_l1In hr1) <| P2 (r1 = false) (eqF h2) <| P0))
/-! loop example/g00886/spec mNext -/
theorem cs_mNext_u0_2_3_4 {a0 : Gi_Map} {a1 : Int} {a2 : Int} {r : Int} (H : Ds_mNext a0 a1 a2 = some r) : Ct X.P X.gl 77 [.agg [I a0.Width, I a0.Height, .hid, .hid, .hid], I a1, I a2] [] (RI r) [] :=
  Ct.of func77 (c := bdy f77) (by kernel_rfl) (by kernel_rfl) <|
  eBind H fun r1 hr1 H =>
  eBind H fun r2 hr2 H =>
  eBind H fun r3 hr3 H =>
  eW RI (fun _ => []) H <| gE func77 [r0, rg [{ i := 3, call := some { cl := true, ins := [], args := [.agg [I a0.Width, I a0.Height, .hid, .hid, .hid], I a1], res := Rs_mHex_u0_2_3_4 r1, G' := [] } }, hC 5 true [] (Rs_hStep r2) [], { i := 6, call := some { cl := true, ins := [], args := [.agg [I a0.Width, I a0.Height, .hid, .hid, .hid], .agg [I r2.Q, I r2.R]], res := RI r3, G' := [] } }]] (by kernel_rfl) (PI (a0.Width : Int) <| PI (a0.Height : Int) <| PI (a1 : Int) <| P1 (cs_mHex_u0_2_3_4 hr1) <| P1 (cs_hStep hr2) <| PI (a0.Width : Int) <| PI (a0.Height : Int) <| PI (r2.Q : Int) <| PI (r2.R : Int) <| P1 (cs_mIndex_u0_2_3_4 hr3) <| P0)
/-! loop example/g00886/spec mEdge -/
theorem cs_mEdge_u0_2_3_4 {a0 : Gi_Map} {a1 : Int} {a2 : Int} {r : Int} (H : Ds_mEdge a0 a1 a2 = some r) : Ct X.P X.gl 79 [.agg [I a0.Width, I a0.Height, .hid, .hid, .hid], I a1, I a2] [] (RI r) [] :=
  Ct.of func79 (c := bdy f79) (by kernel_rfl) (by kernel_rfl) <|
  gS [r0] (by kernel_rfl) P0 <|
  eIf H (fun h1 H =>
    eW RI (fun _ => []) H <| gE func79 [rg [hT 1], r0] (by kernel_rfl) (P2 ((decide (a2 < 3)) = true) (decide_eq_true h1) <| P0))
  (fun h1 H =>
    eBind H fun r2 hr2 H =>
    eW RI (fun _ => []) H <| gE func79 [rg [hF 1], rg [{ i := 3, call := some { cl := true, ins := [], args := [.agg [I a0.Width, I a0.Height, .hid, .hid, .hid], I a1, I a2], res := RI r2, G' := [] } }]] (by kernel_rfl) (P2 ((decide (a2 < 3)) = false) (decide_eq_false h1) <| PI (a0.Width : Int) <| PI (a0.Height : Int) <| PI (a1 : Int) <| PI (a2 : Int) <| P1 (cs_mNext_u0_2_3_4 hr2) <| P0))
/-!   loop example/g00886/spec l1Cur  edges -/
def Rs_l1Cur_edges_u1_2_3_4 (r : (List Int) × Gs_l1Cur) : List D := [ow 1 I r.1]
def Ns_l1Cur_edges_u1_2_3_4 (r : (List Int) × Gs_l1Cur) : List Root := [⟨false, true, 3, 1, [.agg [sl 1 (D.int .u8) r.2.code, I r.2.at_, .int .u64 r.2.seed]]⟩]
noncomputable def Ks_l1Cur_edges_u1_2_3_4 : Ss_l1Cur_edges → List Item
  | .h1 .. => nav 300 3 [] [.code (bdy f65)]
def Zs_l1Cur_edges_u1_2_3_4 : Ss_l1Cur_edges → St
  | .h1 k0 b1 b2 l3 => ⟨sts 33 [(0, .ptr 0 3 0 0), (3, .ptr 1 5 0 0), (5, .ref 2 1 none), (6, I k0)], [some ⟨false, true, 3, 1, [.agg [sl 1 (D.int .u8) b1.code, I b1.at_, .int .u64 b1.seed]]⟩, some ⟨false, true, 5, 1, [.agg [I b2.Width, I b2.Height, .hid, .hid, .hid]]⟩, some ⟨false, false, 1, l3.length, List.map I l3⟩]⟩
abbrev Qs_l1Cur_edges_u1_2_3_4 := Nx X 65 1 Ks_l1Cur_edges_u1_2_3_4 Zs_l1Cur_edges_u1_2_3_4 Rs_l1Cur_edges_u1_2_3_4 Ns_l1Cur_edges_u1_2_3_4
theorem ns_l1Cur_edges_u1_2_3_4 : ∀ s o, Bs_l1Cur_edges s = some o → Qs_l1Cur_edges_u1_2_3_4 (Ks_l1Cur_edges_u1_2_3_4 s) (Zs_l1Cur_edges_u1_2_3_4 s) o
  | .h1 k0 b1 b2 l3, o, H =>
    eIf H (fun h1 H =>
      eBind H fun r2 hr2 H =>
      eBind H fun r3 hr3 H =>
      eBind H fun r4 hr4 H =>
      eBind H fun r5 hr5 H =>
      gN [rg [hT 1], rg [{ i := 2, call := some { cl := true, ins := [], args := [.agg [I b2.Width, I b2.Height, .hid, .hid, .hid]], res := RI r2, G' := [] } }, hC 3 true [0] (Rs_l1Cur_pick r3) (Ns_l1Cur_pick r3), hC 5 true [0] (Rs_l1Cur_pick r4) (Ns_l1Cur_pick r4)]] (by kernel_rfl) (P2 ((decide (k0 > 0)) = true) (decide_eq_true h1) <| PI (b2.Width : Int) <| PI (b2.Height : Int) <| P1 (cs_mSize_u0_2_3_4 hr2) <| PI (1 : Nat) <| P1 (cs_l1Cur_pick hr3) <| PI (1 : Nat) <| P1 (cs_l1Cur_pick hr4) <| P0) <|
      eIf H (fun h6 H =>
        eBind H fun r7 hr7 H =>
        eBind H fun r8 hr8 H =>
        eN H fun r hn => gO [rg [{ i := 3, call := some { cl := true, ins := [], args := [.agg [I b2.Width, I b2.Height, .hid, .hid, .hid], I r3.1, I r4.1], res := RI r5, G' := [] } }, hT 4], rg [{ i := 4, call := some { cl := true, ins := [], args := [.agg [I b2.Width, I b2.Height, .hid, .hid, .hid], I r3.1, I r4.1], res := RI r7, G' := [] } }, hC 5 true [2] (Rs_l1Put_c0 r8) (Ns_l1Put_c0 r8)], r0, .canon [0, 1, 3] [0, 3, 5, 6]] (by kernel_rfl) (PI (b2.Width : Int) <| PI (b2.Height : Int) <| PI (r3.1 : Int) <| PI (r4.1 : Int) <| P1 (cs_mNext_u0_2_3_4 hr5) <| P2 ((decide (r5 ≥ 0)) = true) (decide_eq_true h6) <| PI (b2.Width : Int) <| PI (b2.Height : Int) <| PI (r3.1 : Int) <| PI (r4.1 : Int) <| P1 (cs_mEdge_u0_2_3_4 hr7) <| P1 (cs_l1Put_c0 hr8) <| P0) hn)
      (fun h6 H =>
        eN H fun r hn => gO [rg [{ i := 3, call := some { cl := true, ins := [], args := [.agg [I b2.Width, I b2.Height, .hid, .hid, .hid], I r3.1, I r4.1], res := RI r5, G' := [] } }, hF 4], r0, .canon [0, 1, 2] [0, 3, 5, 6]] (by kernel_rfl) (PI (b2.Width : Int) <| PI (b2.Height : Int) <| PI (r3.1 : Int) <| PI (r4.1 : Int) <| P1 (cs_mNext_u0_2_3_4 hr5) <| P2 ((decide (r5 ≥ 0)) = false) (decide_eq_false h6) <| P0) hn))
    (fun h1 H =>
      eN H <| gE func65 [rg [hF 1], r0] (by kernel_rfl) (P2 ((decide (k0 > 0)) = false) (decide_eq_false h1) <| P0))
theorem ws_l1Cur_edges_u1_2_3_4 : ∀ s r, loop Bs_l1Cur_edges s = some r → Wc X 65 1 (Ks_l1Cur_edges_u1_2_3_4 s) (Zs_l1Cur_edges_u1_2_3_4 s) (Rs_l1Cur_edges_u1_2_3_4 r) (Ns_l1Cur_edges_u1_2_3_4 r) := Nx.all (ns_l1Cur_edges_u1_2_3_4)
theorem cs_l1Cur_edges_u1_2_3_4 {a0 : Gs_l1Cur} {a1 : Gi_Map} {r : (List Int) × Gs_l1Cur} (H : Ds_l1Cur_edges a0 a1 = some r) : Ct X.P X.gl 65 [.ptr 0 3 0 0, .agg [I a1.Width, I a1.Height, .hid, .hid, .hid]] [⟨false, true, 3, 1, [.agg [sl 1 (D.int .u8) a0.code, I a0.at_, .int .u64 a0.seed]]⟩] (Rs_l1Cur_edges_u1_2_3_4 r) (Ns_l1Cur_edges_u1_2_3_4 r) :=
  Ct.of func65 (c := bdy f65) (by kernel_rfl) (by kernel_rfl) <|
  eBind H fun r1 hr1 H =>
  gO [r0, r0, rg [hC 1 true [0] (Rs_l1Cur_pick r1) (Ns_l1Cur_pick r1)], .own 5 1, .canon [0, 1, 2] [0, 3, 5, 6]] (by kernel_rfl) (PI (1 : Nat) <| P1 (cs_l1Cur_pick hr1) <| P0) (ws_l1Cur_edges_u1_2_3_4 _ _ H)
/-!   loop example/g00886/spec l1Cur  mapOf -/
def Rs_l1Cur_mapOf (r : Gi_Map × Gs_l1Cur) : List D := [.agg [I r.1.Width, I r.1.Height, ow 1 I r.1.Terrain, ow 1 I r.1.Rivers, ow 1 I r.1.Roads]]
def Ns_l1Cur_mapOf (r : Gi_Map × Gs_l1Cur) : List Root := [⟨false, true, 3, 1, [.agg [sl 1 (D.int .u8) r.2.code, I r.2.at_, .int .u64 r.2.seed]]⟩]
noncomputable def Ks_l1Cur_mapOf : Ss_l1Cur_mapOf → List Item
  | .h1 .. => nav 300 3 [] [.code (bdy f53)]
  | .h2 .. => nav 300 9 [true, true] [.code (bdy f53)]
def Zs_l1Cur_mapOf : Ss_l1Cur_mapOf → St
  | .h1 terrains0 i1 b2 b3 b4 b5 b6 => ⟨sts 41 [(0, .ptr 0 3 0 0), (1, I terrains0), (4, .ptr 1 5 0 0), (5, .ptr 2 5 0 0), (6, I i1)], [some ⟨false, true, 3, 1, [.agg [sl 1 (D.int .u8) b2.code, I b2.at_, .int .u64 b2.seed]]⟩, some ⟨false, true, 5, 1, [.agg [I b3, I b4, .nil, .nil, .nil]]⟩, some ⟨false, true, 5, 1, [.agg [I b5, I b6, .nil, .nil, .nil]]⟩]⟩
  | .h2 terrains0 i1 b2 b3 b4 b5 b6 l7 => ⟨sts 41 [(0, .ptr 0 3 0 0), (1, I terrains0), (4, .ptr 1 5 0 0), (5, .ptr 2 5 0 0), (6, I i1)], [some ⟨false, true, 3, 1, [.agg [sl 1 (D.int .u8) b2.code, I b2.at_, .int .u64 b2.seed]]⟩, some ⟨false, true, 5, 1, [.agg [I b3, I b4, .nil, .nil, .nil]]⟩, some ⟨false, true, 5, 1, [.agg [I b5, I b6, .ref 3 1 none, .nil, .nil]]⟩, some ⟨false, false, 1, l7.length, List.map I l7⟩]⟩
abbrev Qs_l1Cur_mapOf := Nx X 53 1 Ks_l1Cur_mapOf Zs_l1Cur_mapOf Rs_l1Cur_mapOf Ns_l1Cur_mapOf
theorem ns_l1Cur_mapOf : ∀ s o, Bs_l1Cur_mapOf s = some o → Qs_l1Cur_mapOf (Ks_l1Cur_mapOf s) (Zs_l1Cur_mapOf s) o
  | .h1 terrains0 i1 b2 b3 b4 b5 b6, o, H =>
    have H := (Bs_l1Cur_mapOf.eq_1 ..).symm.trans H
    eBind H fun r1 hr1 H =>
    eIf H (fun h2 H =>
      eBind H fun r3 hr3 H =>
      gN [rg [{ i := 2, call := some { cl := true, ins := [], args := [.agg [I b5, I b6, sl 1 I [], sl 1 I [], sl 1 I []]], res := RI r1, G' := [] } }, hT 3], r0] (by kernel_rfl) (PI (b5 : Int) <| PI (b6 : Int) <| PI (0 : Nat) <| PI ([] : List D) <| PI (0 : Nat) <| PI ([] : List D) <| PI (0 : Nat) <| PI ([] : List D) <| P1 (cs_mSize hr1) <| P2 ((decide (i1 < r1)) = true) (decide_eq_true h2) <| P0) <|
      eIf H (fun h4 H =>
        eBind H fun r5 hr5 H =>
        eCk H fun h6 H =>
        eN H fun r hn => gO [rg [{ i := 1, call := some { cl := true, auto := true, ins := [0], res := (Rs_l1Cur_one r3), G' := (Ns_l1Cur_one r3) }, dec := some true }], rg [hC 2 true [0] (Rs_l1Cur_pick r5) (Ns_l1Cur_pick r5)], rg [hA 4 ([r5.1].length) (List.map I [r5.1])], r0, .canon [0, 1, 2, 4] [0, 1, 4, 5, 6]] (by kernel_rfl) (PI (1 : Nat) <| P1 (cs_l1Cur_one hr3) <| P2 (r3.1 = true) (h4) <| PI (1 : Nat) <| P1 (cs_l1Cur_pick hr5) <| P2 ([r5.1].length = 0 + [r5.1].length) (by simp <;> omega) <| P2 ((0 + [r5.1].length) * 8 ≤ 70368744177664) (by have := h6; simp at this ⊢ <;> omega) <| P2 (([] : List D) ++ List.map I [r5.1] = List.map I [r5.1]) (by simp) <| P0) hn)
      (fun h4 H =>
        eCk H fun h5 H =>
        eN H fun r hn => gO [rg [{ i := 1, call := some { cl := true, auto := true, ins := [0], res := (Rs_l1Cur_one r3), G' := (Ns_l1Cur_one r3) }, dec := some false }], rg [hA 4 ([0].length) (List.map I [0])], r0, .canon [0, 1, 2, 4] [0, 1, 4, 5, 6]] (by kernel_rfl) (PI (1 : Nat) <| P1 (cs_l1Cur_one hr3) <| P2 (r3.1 = false) (eqF h4) <| P2 ([0].length = 0 + [0].length) (by simp <;> omega) <| P2 ((0 + [0].length) * 8 ≤ 70368744177664) (by have := h5; simp at this ⊢ <;> omega) <| P2 (([] : List D) ++ List.map I [0] = List.map I [0]) (by simp) <| P0) hn))
    (fun h2 H =>
      eBind H fun r3 hr3 H =>
      eBind H fun r4 hr4 H =>
      eN H <| gE func53 [rg [{ i := 2, call := some { cl := true, ins := [], args := [.agg [I b5, I b6, sl 1 I [], sl 1 I [], sl 1 I []]], res := RI r1, G' := [] } }, hF 3], rg [{ i := 2, call := some { cl := true, ins := [0], args := [.ptr 0 3 0 0, .agg [I b5, I b6, sl 1 I [], sl 1 I [], sl 1 I []]], res := Rs_l1Cur_edges r3, G' := Ns_l1Cur_edges r3 } }], rg [{ i := 2, call := some { cl := true, ins := [0], args := [.ptr 0 3 0 0, .agg [I b5, I b6, .hid, .hid, .hid]], res := Rs_l1Cur_edges_u1_2_3_4 r4, G' := Ns_l1Cur_edges_u1_2_3_4 r4 } }], r0] (by kernel_rfl) (PI (b5 : Int) <| PI (b6 : Int) <| PI (0 : Nat) <| PI ([] : List D) <| PI (0 : Nat) <| PI ([] : List D) <| PI (0 : Nat) <| PI ([] : List D) <| P1 (cs_mSize hr1) <| P2 ((decide (i1 < r1)) = false) (decide_eq_false h2) <| PI (0 : Nat) <| PI (0 : Nat) <| PI (b5 : Int) <| PI (b6 : Int) <| PI (0 : Nat) <| PI ([] : List D) <| PI (0 : Nat) <| PI ([] : List D) <| PI (0 : Nat) <| PI ([] : List D) <| PI (1 : Nat) <| P1 (cs_l1Cur_edges hr3) <| PI (0 : Nat) <| PI (0 : Nat) <| PI (b5 : Int) <| PI (b6 : Int) <| PI (1 : Nat) <| P1 (cs_l1Cur_edges_u1_2_3_4 hr4) <| P0))
  | .h2 terrains0 i1 b2 b3 b4 b5 b6 l7, o, H =>
    have H := (Bs_l1Cur_mapOf.eq_2 ..).symm.trans H
    eBind H fun r1 hr1 H =>
    eIf H (fun h2 H =>
      eBind H fun r3 hr3 H =>
      gN [rg [{ i := 2, call := some { cl := false, ins := [], args := [.agg [I b5, I b6, sl 1 I l7, sl 1 I [], sl 1 I []]], res := RI r1, G' := [] } }, hT 3], r0] (by kernel_rfl) (PI (b5 : Int) <| PI (b6 : Int) <| PL I l7 <| PI (0 : Nat) <| PI ([] : List D) <| PI (0 : Nat) <| PI ([] : List D) <| P1 (cs_mSize hr1) <| P2 ((decide (i1 < r1)) = true) (decide_eq_true h2) <| P0) <|
      eIf H (fun h4 H =>
        eBind H fun r5 hr5 H =>
        eCk H fun h6 H =>
        eN H fun r hn => gO [rg [{ i := 1, call := some { cl := true, auto := true, ins := [0], res := (Rs_l1Cur_one r3), G' := (Ns_l1Cur_one r3) }, dec := some true }], rg [hC 2 true [0] (Rs_l1Cur_pick r5) (Ns_l1Cur_pick r5)], rg [hA 4 ((l7 ++ [r5.1]).length) (List.map I (l7 ++ [r5.1]))], r0, .canon [0, 1, 2, 5] [0, 1, 4, 5, 6]] (by kernel_rfl) (PI (1 : Nat) <| P1 (cs_l1Cur_one hr3) <| P2 (r3.1 = true) (h4) <| PI (1 : Nat) <| P1 (cs_l1Cur_pick hr5) <| P1 (apL l7 [r5.1]) <| P1 (apB h6) <| P1 (apM I l7 [r5.1]) <| P0) hn)
      (fun h4 H =>
        eCk H fun h5 H =>
        eN H fun r hn => gO [rg [{ i := 1, call := some { cl := true, auto := true, ins := [0], res := (Rs_l1Cur_one r3), G' := (Ns_l1Cur_one r3) }, dec := some false }], rg [hA 4 ((l7 ++ [0]).length) (List.map I (l7 ++ [0]))], r0, .canon [0, 1, 2, 5] [0, 1, 4, 5, 6]] (by kernel_rfl) (PI (1 : Nat) <| P1 (cs_l1Cur_one hr3) <| P2 (r3.1 = false) (eqF h4) <| P1 (apL l7 [0]) <| P1 (apB h5) <| P1 (apM I l7 [0]) <| P0) hn))
    (fun h2 H =>
      eBind H fun r3 hr3 H =>
      eBind H fun r4 hr4 H =>
      eN H <| gE func53 [rg [{ i := 2, call := some { cl := false, ins := [], args := [.agg [I b5, I b6, sl 1 I l7, sl 1 I [], sl 1 I []]], res := RI r1, G' := [] } }, hF 3], rg [{ i := 2, call := some { cl := true, ins := [0], args := [.ptr 0 3 0 0, .agg [I b5, I b6, .hid, .hid, .hid]], res := Rs_l1Cur_edges_u1_2_3_4 r3, G' := Ns_l1Cur_edges_u1_2_3_4 r3 } }], rg [{ i := 2, call := some { cl := true, ins := [0], args := [.ptr 0 3 0 0, .agg [I b5, I b6, .hid, .hid, .hid]], res := Rs_l1Cur_edges_u1_2_3_4 r4, G' := Ns_l1Cur_edges_u1_2_3_4 r4 } }], r0] (by kernel_rfl) (PI (b5 : Int) <| PI (b6 : Int) <| PL I l7 <| PI (0 : Nat) <| PI ([] : List D) <| PI (0 : Nat) <| PI ([] : List D) <| P1 (cs_mSize hr1) <| P2 ((decide (i1 < r1)) = false) (decide_eq_false h2) <| PI (0 : Nat) <| PI (0 : Nat) <| PI (b5 : Int) <| PI (b6 : Int) <| PI (1 : Nat) <| P1 (cs_l1Cur_edges_u1_2_3_4 hr3) <| PI (0 : Nat) <| PI (0 : Nat) <| PI (b5 : Int) <| PI (b6 : Int) <| PI (1 : Nat) <| P1 (cs_l1Cur_edges_u1_2_3_4 hr4) <| P0))
theorem ws_l1Cur_mapOf : ∀ s r, loop Bs_l1Cur_mapOf s = some r → Wc X 53 1 (Ks_l1Cur_mapOf s) (Zs_l1Cur_mapOf s) (Rs_l1Cur_mapOf r) (Ns_l1Cur_mapOf r) := Nx.all (ns_l1Cur_mapOf)
theorem cs_l1Cur_mapOf {a0 : Gs_l1Cur} {a1 : Int} {r : Gi_Map × Gs_l1Cur} (H : Ds_l1Cur_mapOf a0 a1 = some r) : Ct X.P X.gl 53 [.ptr 0 3 0 0, I a1] [⟨false, true, 3, 1, [.agg [sl 1 (D.int .u8) a0.code, I a0.at_, .int .u64 a0.seed]]⟩] (Rs_l1Cur_mapOf r) (Ns_l1Cur_mapOf r) :=
  Ct.of func53 (c := bdy f53) (by kernel_rfl) (by kernel_rfl) <|
  eBind H fun r1 hr1 H =>
  eBind H fun r2 hr2 H =>
  gO [r0, rg [hC 1 true [0] (Rs_l1Cur_pick r1) (Ns_l1Cur_pick r1), hC 4 true [0] (Rs_l1Cur_pick r2) (Ns_l1Cur_pick r2)], r0, .canon [0, 1, 2] [0, 1, 4, 5, 6]] (by kernel_rfl) (PI (1 : Nat) <| P1 (cs_l1Cur_pick hr1) <| PI (1 : Nat) <| P1 (cs_l1Cur_pick hr2) <| P0) (ws_l1Cur_mapOf _ _ H)
/-!   loop example/g00886/spec l1Cur  board -/
def Rs_l1Cur_board (r : Gi_Board × Gs_l1Cur) : List D := [.agg [ow 5 goi_Terrain r.1.Rules.Terrains, ow 6 gi_Kind r.1.Rules.Kinds, I r.1.Rules.Stack, I r.1.Rules.River, I r.1.Rules.Road, I r.1.Rules.Supply, I r.1.Rules.Turns, I r.1.Map.Width, I r.1.Map.Height, ow 1 I r.1.Map.Terrain, ow 1 I r.1.Map.Rivers, ow 1 I r.1.Map.Roads]]
def Ns_l1Cur_board (r : Gi_Board × Gs_l1Cur) : List Root := [⟨false, true, 3, 1, [.agg [sl 1 (D.int .u8) r.2.code, I r.2.at_, .int .u64 r.2.seed]]⟩]
theorem cs_l1Cur_board {a0 : Gs_l1Cur} {r : Gi_Board × Gs_l1Cur} (H : Ds_l1Cur_board a0 = some r) : Ct X.P X.gl 36 [.ptr 0 3 0 0] [⟨false, true, 3, 1, [.agg [sl 1 (D.int .u8) a0.code, I a0.at_, .int .u64 a0.seed]]⟩] (Rs_l1Cur_board r) (Ns_l1Cur_board r) :=
  Ct.of func36 (c := bdy f36) (by kernel_rfl) (by kernel_rfl) <|
  eBind H fun r1 hr1 H =>
  eBind H fun r2 hr2 H =>
  eW Rs_l1Cur_board Ns_l1Cur_board H <| gE func36 [r0, rg [hC 1 true [0] (Rs_l1Cur_rules r1) (Ns_l1Cur_rules r1)], rg [hC 5 true [0] (Rs_l1Cur_mapOf r2) (Ns_l1Cur_mapOf r2)]] (by kernel_rfl) (PI (1 : Nat) <| P1 (cs_l1Cur_rules hr1) <| PI (1 : Nat) <| P1 (cs_l1Cur_mapOf hr2) <| P0)
/-!   loop example/g00886/spec l1Cur  among -/
def Rs_l1Cur_among (r : Int × Gs_l1Cur) : List D := [I r.1]
def Ns_l1Cur_among (r : Int × Gs_l1Cur) : List Root := [⟨false, true, 3, 1, [.agg [sl 1 (D.int .u8) r.2.code, I r.2.at_, .int .u64 r.2.seed]]⟩]
theorem cs_l1Cur_among {a0 : Gs_l1Cur} {a1 : (List Int)} {r : Int × Gs_l1Cur} (H : Ds_l1Cur_among a0 a1 = some r) : Ct X.P X.gl 39 [.ptr 0 3 0 0, sl 1 I a1] [⟨false, true, 3, 1, [.agg [sl 1 (D.int .u8) a0.code, I a0.at_, .int .u64 a0.seed]]⟩] (Rs_l1Cur_among r) (Ns_l1Cur_among r) :=
  Ct.of func39 (c := bdy f39) (by kernel_rfl) (by kernel_rfl) <|
  eBind H fun r1 hr1 H =>
  eCk H fun h2 H =>
  eBind H fun x3 hx3 H =>
  eW Rs_l1Cur_among Ns_l1Cur_among H <| gE func39 [r0, rg [hC 4 true [0] (Rs_l1Cur_pick r1) (Ns_l1Cur_pick r1), hE 6 (I x3)]] (by kernel_rfl) (PI (1 : Nat) <| P1 (cs_l1Cur_pick hr1) <| P1 h2 <| P1 (int_lt_of_at h2 hx3) <| P1 (at_map I hx3) <| P0)
/-!   loop example/g00886/spec l1Cur  of -/
def Rs_l1Cur_of (r : ByteArray × Gs_l1Cur) : List D := [.str r.1]
def Ns_l1Cur_of (r : ByteArray × Gs_l1Cur) : List Root := [⟨false, true, 3, 1, [.agg [sl 1 (D.int .u8) r.2.code, I r.2.at_, .int .u64 r.2.seed]]⟩]
theorem cs_l1Cur_of {a0 : Gs_l1Cur} {a1 : (List ByteArray)} {r : ByteArray × Gs_l1Cur} (H : Ds_l1Cur_of a0 a1 = some r) : Ct X.P X.gl 54 [.ptr 0 3 0 0, sl 1 D.str a1] [⟨false, true, 3, 1, [.agg [sl 1 (D.int .u8) a0.code, I a0.at_, .int .u64 a0.seed]]⟩] (Rs_l1Cur_of r) (Ns_l1Cur_of r) :=
  Ct.of func54 (c := bdy f54) (by kernel_rfl) (by kernel_rfl) <|
  eBind H fun r1 hr1 H =>
  eCk H fun h2 H =>
  eBind H fun x3 hx3 H =>
  eW Rs_l1Cur_of Ns_l1Cur_of H <| gE func54 [r0, rg [hC 4 true [0] (Rs_l1Cur_pick r1) (Ns_l1Cur_pick r1), hE 6 (D.str x3)]] (by kernel_rfl) (PI (1 : Nat) <| P1 (cs_l1Cur_pick hr1) <| P1 h2 <| P1 (int_lt_of_at h2 hx3) <| P1 (at_map D.str hx3) <| P0)
/-!   loop example/g00886/spec l1Cur  anyRules -/
def Rs_l1Cur_anyRules (r : Gi_Rules × Gs_l1Cur) : List D := [.agg [ow 5 goi_Terrain r.1.Terrains, ow 6 gi_Kind r.1.Kinds, I r.1.Stack, I r.1.River, I r.1.Road, I r.1.Supply, I r.1.Turns]]
def Ns_l1Cur_anyRules (r : Gi_Rules × Gs_l1Cur) : List Root := [⟨false, true, 3, 1, [.agg [sl 1 (D.int .u8) r.2.code, I r.2.at_, .int .u64 r.2.seed]]⟩]
theorem cs_l1Cur_anyRules {a0 : Gs_l1Cur} {r : Gi_Rules × Gs_l1Cur} (H : Ds_l1Cur_anyRules a0 = some r) : Ct X.P X.gl 37 [.ptr 0 3 0 0] [⟨false, true, 3, 1, [.agg [sl 1 (D.int .u8) a0.code, I a0.at_, .int .u64 a0.seed]]⟩] (Rs_l1Cur_anyRules r) (Ns_l1Cur_anyRules r) :=
  Ct.of func37 (c := bdy f37) (by kernel_rfl) (by kernel_rfl) <|
  eBind H fun r1 hr1 H =>
  eBind H fun r2 hr2 H =>
  gS [r0, rg [hC 1 true [0] (Rs_l1Cur_rules r1) (Ns_l1Cur_rules r1)], rg [hC 1 true [0] (Rs_l1Cur_pick r2) (Ns_l1Cur_pick r2)]] (by kernel_rfl) (PI (1 : Nat) <| P1 (cs_l1Cur_rules hr1) <| PI (1 : Nat) <| P1 (cs_l1Cur_pick hr2) <| P0) <|
  eIf H (fun h3 H =>
    eBind H fun x4 hx4 H =>
    eBind H fun r5 hr5 H =>
    eBind H fun x6 hx6 H =>
    eW Rs_l1Cur_anyRules Ns_l1Cur_anyRules H <| gE func37 [rg [hT 0], rg [{ i := 4, pre := [.take 2 (Int.toNat 0) 1 1 x4.Cost.length (List.map I x4.Cost) (List.set (List.map goi_Terrain r1.1.Terrains) (Int.toNat 0) (.agg [.str x4.Name, .ref 5 1 none, I x4.Shift, I x4.Height, .bool x4.Blocks]))], el := some (.agg [.str x4.Name, .ref 5 1 none, I x4.Shift, I x4.Height, .bool x4.Blocks]) }, { i := 7, frz := [6], call := some { cl := true, auto := true, ins := [0], res := (Rs_l1Cur_among r5), G' := (Ns_l1Cur_among r5) } }, { i := 9, xs := List.map I (List.set x4.Cost (Int.toNat 0) r5.1), n := (List.set x4.Cost (Int.toNat 0) r5.1).length, post := [.put 2 (Int.toNat 0) 1 5 (List.map goi_Terrain (List.set r1.1.Terrains (Int.toNat 0) (Gi_Terrain.mk x4.Name (List.set x4.Cost (Int.toNat 0) r5.1) x4.Shift x4.Height x4.Blocks))), .own 2 (List.set r1.1.Terrains (Int.toNat 0) (Gi_Terrain.mk x4.Name (List.set x4.Cost (Int.toNat 0) r5.1) x4.Shift x4.Height x4.Blocks)).length], xtra := [2] }], r0] (by kernel_rfl) (P2 (((r2.1 : Int) == 0) = true) (beqT h3) <| P2 ((0 : Int) ≤ 0) (by decide) <| P1 (int_lt_of_at (by decide : (0 : Int) ≤ 0) hx4) <| P2 (getCells (List.map goi_Terrain r1.1.Terrains) (Int.toNat 0) 1 1 = some [ow 1 I x4.Cost]) (getCells_at hx4 rfl) <| P2 (setCells (List.map goi_Terrain r1.1.Terrains) (Int.toNat 0) 1 [.ref 5 1 none] = List.set (List.map goi_Terrain r1.1.Terrains) (Int.toNat 0) (.agg [.str x4.Name, .ref 5 1 none, I x4.Shift, I x4.Height, .bool x4.Blocks])) (setCells_mapD hx4 rfl) <| P1 (at_set (f := goi_Terrain) (.agg [.str x4.Name, .ref 5 1 none, I x4.Shift, I x4.Height, .bool x4.Blocks]) hx4) <| PI (1 : Nat) <| P1 (cs_l1Cur_among hr5) <| P2 ((0 : Int) ≤ 0) (by decide) <| P1 (int_lt_of_at (by decide : (0 : Int) ≤ 0) hx6) <| P1 (lt_of_at hx6) <| P2 (setCells (List.map I x4.Cost) (Int.toNat 0) 0 [I r5.1] = List.map I (List.set x4.Cost (Int.toNat 0) r5.1)) (setCells_map hx6 rfl) <| P1 (setLen x4.Cost (Int.toNat 0) r5.1) <| P2 (getCells (List.set (List.map goi_Terrain r1.1.Terrains) (Int.toNat 0) (.agg [.str x4.Name, .ref 5 1 none, I x4.Shift, I x4.Height, .bool x4.Blocks])) (Int.toNat 0) 1 1 = some [.ref 5 1 none]) (getCells_set hx4 rfl) <| P2 (setCells (List.set (List.map goi_Terrain r1.1.Terrains) (Int.toNat 0) (.agg [.str x4.Name, .ref 5 1 none, I x4.Shift, I x4.Height, .bool x4.Blocks])) (Int.toNat 0) 1 [ow 1 I (List.set x4.Cost (Int.toNat 0) r5.1)] = List.map goi_Terrain (List.set r1.1.Terrains (Int.toNat 0) (Gi_Terrain.mk x4.Name (List.set x4.Cost (Int.toNat 0) r5.1) x4.Shift x4.Height x4.Blocks))) (setCells_set hx4 rfl) <| P1 (allOw_79 (List.set r1.1.Terrains (Int.toNat 0) (Gi_Terrain.mk x4.Name (List.set x4.Cost (Int.toNat 0) r5.1) x4.Shift x4.Height x4.Blocks))) <| P1 (setLen r1.1.Terrains (Int.toNat 0) (Gi_Terrain.mk x4.Name (List.set x4.Cost (Int.toNat 0) r5.1) x4.Shift x4.Height x4.Blocks)) <| P0))
  (fun h3 H =>
    gS [rg [hF 0]] (by kernel_rfl) (P2 (((r2.1 : Int) == 0) = false) (beqF h3) <| P0) <|
    eIf H (fun h4 H =>
      eBind H fun r5 hr5 H =>
      eBind H fun x6 hx6 H =>
      eW Rs_l1Cur_anyRules Ns_l1Cur_anyRules H <| gE func37 [rg [hT 0], rg [{ i := 4, frz := [5], call := some { cl := true, auto := true, ins := [0], res := (Rs_l1Cur_of r5), G' := (Ns_l1Cur_of r5) } }, hA 7 ((List.set r1.1.Terrains (Int.toNat 0) (Gi_Terrain.mk r5.1 x6.Cost x6.Shift x6.Height x6.Blocks)).length) (List.map goi_Terrain (List.set r1.1.Terrains (Int.toNat 0) (Gi_Terrain.mk r5.1 x6.Cost x6.Shift x6.Height x6.Blocks)))], r0] (by kernel_rfl) (P2 (((r2.1 : Int) == 1) = true) (beqT h4) <| PI (1 : Nat) <| P1 (cs_l1Cur_of hr5) <| P2 ((0 : Int) ≤ 0) (by decide) <| P1 (int_lt_of_at (by decide : (0 : Int) ≤ 0) hx6) <| P1 (lt_of_at hx6) <| P2 (setCells (List.map goi_Terrain r1.1.Terrains) (Int.toNat 0) 0 [.str r5.1] = List.map goi_Terrain (List.set r1.1.Terrains (Int.toNat 0) (Gi_Terrain.mk r5.1 x6.Cost x6.Shift x6.Height x6.Blocks))) (setCells_map hx6 rfl) <| P1 (setLen r1.1.Terrains (Int.toNat 0) (Gi_Terrain.mk r5.1 x6.Cost x6.Shift x6.Height x6.Blocks)) <| P0))
    (fun h4 H =>
      gS [rg [hF 0]] (by kernel_rfl) (P2 (((r2.1 : Int) == 1) = false) (beqF h4) <| P0) <|
      eIf H (fun h5 H =>
        eBind H fun r6 hr6 H =>
        eBind H fun x7 hx7 H =>
        eW Rs_l1Cur_anyRules Ns_l1Cur_anyRules H <| gE func37 [rg [hT 0], rg [{ i := 4, frz := [5], call := some { cl := true, auto := true, ins := [0], res := (Rs_l1Cur_among r6), G' := (Ns_l1Cur_among r6) } }, hA 7 ((List.set r1.1.Kinds (Int.toNat 0) (Gi_Kind.mk x7.Name x7.Strength r6.1 x7.Steps x7.Zone x7.View)).length) (List.map gi_Kind (List.set r1.1.Kinds (Int.toNat 0) (Gi_Kind.mk x7.Name x7.Strength r6.1 x7.Steps x7.Zone x7.View)))], r0] (by kernel_rfl) (P2 (((r2.1 : Int) == 2) = true) (beqT h5) <| PI (1 : Nat) <| P1 (cs_l1Cur_among hr6) <| P2 ((0 : Int) ≤ 0) (by decide) <| P1 (int_lt_of_at (by decide : (0 : Int) ≤ 0) hx7) <| P1 (lt_of_at hx7) <| P2 (setCells (List.map gi_Kind r1.1.Kinds) (Int.toNat 0) 2 [I r6.1] = List.map gi_Kind (List.set r1.1.Kinds (Int.toNat 0) (Gi_Kind.mk x7.Name x7.Strength r6.1 x7.Steps x7.Zone x7.View))) (setCells_map hx7 rfl) <| P1 (setLen r1.1.Kinds (Int.toNat 0) (Gi_Kind.mk x7.Name x7.Strength r6.1 x7.Steps x7.Zone x7.View)) <| P0))
      (fun h5 H =>
        gS [rg [hF 0]] (by kernel_rfl) (P2 (((r2.1 : Int) == 2) = false) (beqF h5) <| P0) <|
        eIf H (fun h6 H =>
          eBind H fun x7 hx7 H =>
          eCk H fun h8 H =>
          eW Rs_l1Cur_anyRules Ns_l1Cur_anyRules H <| gE func37 [rg [hT 0], rg [hE 5 (gi_Kind x7), hA 7 ((r1.1.Kinds ++ [x7]).length) (List.map gi_Kind (r1.1.Kinds ++ [x7]))], r0] (by kernel_rfl) (P2 (((r2.1 : Int) == 3) = true) (beqT h6) <| P2 ((0 : Int) ≤ 0) (by decide) <| P1 (int_lt_of_at (by decide : (0 : Int) ≤ 0) hx7) <| P1 (at_map gi_Kind hx7) <| P1 (apL r1.1.Kinds [x7]) <| P1 (apB h8) <| P1 (apM gi_Kind r1.1.Kinds [x7]) <| P0))
        (fun h6 H =>
          gS [rg [hF 0]] (by kernel_rfl) (P2 (((r2.1 : Int) == 3) = false) (beqF h6) <| P0) <|
          eIf H (fun h7 H =>
            eBind H fun r8 hr8 H =>
            eW Rs_l1Cur_anyRules Ns_l1Cur_anyRules H <| gE func37 [rg [hT 0], rg [{ i := 2, frz := [5], call := some { cl := true, auto := true, ins := [0], res := (Rs_l1Cur_among r8), G' := (Ns_l1Cur_among r8) } }], r0] (by kernel_rfl) (P2 (((r2.1 : Int) == 4) = true) (beqT h7) <| PI (1 : Nat) <| P1 (cs_l1Cur_among hr8) <| P0))
          (fun h7 H =>
            gS [rg [hF 0]] (by kernel_rfl) (P2 (((r2.1 : Int) == 4) = false) (beqF h7) <| P0) <|
            eIf H (fun h8 H =>
              eBind H fun r9 hr9 H =>
              eW Rs_l1Cur_anyRules Ns_l1Cur_anyRules H <| gE func37 [rg [hT 0], rg [{ i := 2, frz := [5], call := some { cl := true, auto := true, ins := [0], res := (Rs_l1Cur_among r9), G' := (Ns_l1Cur_among r9) } }], r0] (by kernel_rfl) (P2 (((r2.1 : Int) == 5) = true) (beqT h8) <| PI (1 : Nat) <| P1 (cs_l1Cur_among hr9) <| P0))
            (fun h8 H =>
              gS [rg [hF 0]] (by kernel_rfl) (P2 (((r2.1 : Int) == 5) = false) (beqF h8) <| P0) <|
              eIf H (fun h9 H =>
                eBind H fun r10 hr10 H =>
                eBind H fun x11 hx11 H =>
                eW Rs_l1Cur_anyRules Ns_l1Cur_anyRules H <| gE func37 [rg [hT 0], rg [{ i := 4, frz := [5], call := some { cl := true, auto := true, ins := [0], res := (Rs_l1Cur_among r10), G' := (Ns_l1Cur_among r10) } }, hA 7 ((List.set r1.1.Terrains (Int.toNat 0) (Gi_Terrain.mk x11.Name x11.Cost r10.1 x11.Height x11.Blocks)).length) (List.map goi_Terrain (List.set r1.1.Terrains (Int.toNat 0) (Gi_Terrain.mk x11.Name x11.Cost r10.1 x11.Height x11.Blocks)))], r0] (by kernel_rfl) (P2 (((r2.1 : Int) == 6) = true) (beqT h9) <| PI (1 : Nat) <| P1 (cs_l1Cur_among hr10) <| P2 ((0 : Int) ≤ 0) (by decide) <| P1 (int_lt_of_at (by decide : (0 : Int) ≤ 0) hx11) <| P1 (lt_of_at hx11) <| P2 (setCells (List.map goi_Terrain r1.1.Terrains) (Int.toNat 0) 2 [I r10.1] = List.map goi_Terrain (List.set r1.1.Terrains (Int.toNat 0) (Gi_Terrain.mk x11.Name x11.Cost r10.1 x11.Height x11.Blocks))) (setCells_map hx11 rfl) <| P1 (setLen r1.1.Terrains (Int.toNat 0) (Gi_Terrain.mk x11.Name x11.Cost r10.1 x11.Height x11.Blocks)) <| P0))
              (fun h9 H =>
                eW Rs_l1Cur_anyRules Ns_l1Cur_anyRules H <| gE func37 [rg [hF 0], r0] (by kernel_rfl) (P2 (((r2.1 : Int) == 6) = false) (beqF h9) <| P0))))))))
/-!   loop example/g00886/spec l1Cur  anyMap -/
def Rs_l1Cur_anyMap (r : Gi_Map × Gs_l1Cur) : List D := [.agg [I r.1.Width, I r.1.Height, ow 1 I r.1.Terrain, ow 1 I r.1.Rivers, ow 1 I r.1.Roads]]
def Ns_l1Cur_anyMap (r : Gi_Map × Gs_l1Cur) : List Root := [⟨false, true, 3, 1, [.agg [sl 1 (D.int .u8) r.2.code, I r.2.at_, .int .u64 r.2.seed]]⟩]
theorem cs_l1Cur_anyMap {a0 : Gs_l1Cur} {r : Gi_Map × Gs_l1Cur} (H : Ds_l1Cur_anyMap a0 = some r) : Ct X.P X.gl 38 [.ptr 0 3 0 0] [⟨false, true, 3, 1, [.agg [sl 1 (D.int .u8) a0.code, I a0.at_, .int .u64 a0.seed]]⟩] (Rs_l1Cur_anyMap r) (Ns_l1Cur_anyMap r) :=
  Ct.of func38 (c := bdy f38) (by kernel_rfl) (by kernel_rfl) <|
  eBind H fun r1 hr1 H =>
  eBind H fun r2 hr2 H =>
  gS [r0, rg [hC 1 true [0] (Rs_l1Cur_mapOf r1) (Ns_l1Cur_mapOf r1)], rg [hC 1 true [0] (Rs_l1Cur_pick r2) (Ns_l1Cur_pick r2)]] (by kernel_rfl) (PI (1 : Nat) <| P1 (cs_l1Cur_mapOf hr1) <| PI (1 : Nat) <| P1 (cs_l1Cur_pick hr2) <| P0) <|
  eIf H (fun h3 H =>
    eBind H fun r4 hr4 H =>
    eW Rs_l1Cur_anyMap Ns_l1Cur_anyMap H <| gE func38 [rg [hT 0], rg [{ i := 5, frz := [8], call := some { cl := true, auto := true, ins := [0], res := (Rs_l1Cur_among r4), G' := (Ns_l1Cur_among r4) } }], r0] (by kernel_rfl) (P2 (((r2.1 : Int) == 0) = true) (beqT h3) <| PI (1 : Nat) <| P1 (cs_l1Cur_among hr4) <| P0))
  (fun h3 H =>
    gS [rg [hF 0]] (by kernel_rfl) (P2 (((r2.1 : Int) == 0) = false) (beqF h3) <| P0) <|
    eIf H (fun h4 H =>
      eBind H fun r5 hr5 H =>
      eBind H fun x6 hx6 H =>
      eW Rs_l1Cur_anyMap Ns_l1Cur_anyMap H <| gE func38 [rg [hT 0], rg [{ i := 4, frz := [8], call := some { cl := true, auto := true, ins := [0], res := (Rs_l1Cur_among r5), G' := (Ns_l1Cur_among r5) } }, hA 6 ((List.set r1.1.Terrain (Int.toNat 0) r5.1).length) (List.map I (List.set r1.1.Terrain (Int.toNat 0) r5.1))], r0] (by kernel_rfl) (P2 (((r2.1 : Int) == 1) = true) (beqT h4) <| PI (1 : Nat) <| P1 (cs_l1Cur_among hr5) <| P2 ((0 : Int) ≤ 0) (by decide) <| P1 (int_lt_of_at (by decide : (0 : Int) ≤ 0) hx6) <| P1 (lt_of_at hx6) <| P2 (setCells (List.map I r1.1.Terrain) (Int.toNat 0) 0 [I r5.1] = List.map I (List.set r1.1.Terrain (Int.toNat 0) r5.1)) (setCells_map hx6 rfl) <| P1 (setLen r1.1.Terrain (Int.toNat 0) r5.1) <| P0))
    (fun h4 H =>
      gS [rg [hF 0]] (by kernel_rfl) (P2 (((r2.1 : Int) == 1) = false) (beqF h4) <| P0) <|
      eIf H (fun h5 H =>
        eBind H fun r6 hr6 H =>
        eBind H fun r7 hr7 H =>
        eBind H fun r8 hr8 H =>
        eCk H fun h9 H =>
        eW Rs_l1Cur_anyMap Ns_l1Cur_anyMap H <| gE func38 [rg [hT 0], rg [hC 4 false [] (RI r6) [], hC 7 false [] (RI r7) [], { i := 11, frz := [8], call := some { cl := true, auto := true, ins := [0], res := (Rs_l1Cur_among r8), G' := (Ns_l1Cur_among r8) } }, hA 13 ((r1.1.Rivers ++ [r8.1]).length) (List.map I (r1.1.Rivers ++ [r8.1]))], r0] (by kernel_rfl) (P2 (((r2.1 : Int) == 2) = true) (beqT h5) <| P1 (cs_mSize hr6) <| P1 (cs_mSize hr7) <| PI (1 : Nat) <| P1 (cs_l1Cur_among hr8) <| P1 (apL r1.1.Rivers [r8.1]) <| P1 (apB h9) <| P1 (apM I r1.1.Rivers [r8.1]) <| P0))
      (fun h5 H =>
        gS [rg [hF 0]] (by kernel_rfl) (P2 (((r2.1 : Int) == 2) = false) (beqF h5) <| P0) <|
        eIf H (fun h6 H =>
          eCk H fun h7 H =>
          eW Rs_l1Cur_anyMap Ns_l1Cur_anyMap H <| gE func38 [rg [hT 0], rg [{ i := 3, keep := true, n := ([2] ++ r1.1.Roads).length, xs := List.map I ([2] ++ r1.1.Roads) }], r0] (by kernel_rfl) (P2 (((r2.1 : Int) == 3) = true) (beqT h6) <| P2 (AllFl (List.map I r1.1.Roads)) (allFl_3 _) <| P1 (apL [2] r1.1.Roads) <| P1 (apB h7) <| P1 (apM I [2] r1.1.Roads) <| P0))
        (fun h6 H =>
          eW Rs_l1Cur_anyMap Ns_l1Cur_anyMap H <| gE func38 [rg [hF 0], r0] (by kernel_rfl) (P2 (((r2.1 : Int) == 3) = false) (beqF h6) <| P0)))))
/-!   loop example/g00886/spec l1Cur  anyBoard -/
def Rs_l1Cur_anyBoard (r : Gi_Board × Gs_l1Cur) : List D := [.agg [ow 5 goi_Terrain r.1.Rules.Terrains, ow 6 gi_Kind r.1.Rules.Kinds, I r.1.Rules.Stack, I r.1.Rules.River, I r.1.Rules.Road, I r.1.Rules.Supply, I r.1.Rules.Turns, I r.1.Map.Width, I r.1.Map.Height, ow 1 I r.1.Map.Terrain, ow 1 I r.1.Map.Rivers, ow 1 I r.1.Map.Roads]]
def Ns_l1Cur_anyBoard (r : Gi_Board × Gs_l1Cur) : List Root := [⟨false, true, 3, 1, [.agg [sl 1 (D.int .u8) r.2.code, I r.2.at_, .int .u64 r.2.seed]]⟩]
theorem cs_l1Cur_anyBoard {a0 : Gs_l1Cur} {r : Gi_Board × Gs_l1Cur} (H : Ds_l1Cur_anyBoard a0 = some r) : Ct X.P X.gl 16 [.ptr 0 3 0 0] [⟨false, true, 3, 1, [.agg [sl 1 (D.int .u8) a0.code, I a0.at_, .int .u64 a0.seed]]⟩] (Rs_l1Cur_anyBoard r) (Ns_l1Cur_anyBoard r) :=
  Ct.of func16 (c := bdy f16) (by kernel_rfl) (by kernel_rfl) <|
  eBind H fun r1 hr1 H =>
  eBind H fun r2 hr2 H =>
  gS [r0, rg [hC 1 true [0] (Rs_l1Cur_board r1) (Ns_l1Cur_board r1)], rg [hC 1 true [0] (Rs_l1Cur_pick r2) (Ns_l1Cur_pick r2)]] (by kernel_rfl) (PI (1 : Nat) <| P1 (cs_l1Cur_board hr1) <| PI (1 : Nat) <| P1 (cs_l1Cur_pick hr2) <| P0) <|
  eIf H (fun h3 H =>
    eBind H fun r4 hr4 H =>
    eW Rs_l1Cur_anyBoard Ns_l1Cur_anyBoard H <| gE func16 [rg [hT 0], rg [hC 1 true [0] (Rs_l1Cur_anyRules r4) (Ns_l1Cur_anyRules r4)], r0] (by kernel_rfl) (P2 (((r2.1 : Int) == 0) = true) (beqT h3) <| PI (1 : Nat) <| P1 (cs_l1Cur_anyRules hr4) <| P0))
  (fun h3 H =>
    gS [rg [hF 0]] (by kernel_rfl) (P2 (((r2.1 : Int) == 0) = false) (beqF h3) <| P0) <|
    eIf H (fun h4 H =>
      eBind H fun r5 hr5 H =>
      eW Rs_l1Cur_anyBoard Ns_l1Cur_anyBoard H <| gE func16 [rg [hT 0], rg [hC 1 true [0] (Rs_l1Cur_anyMap r5) (Ns_l1Cur_anyMap r5)], r0] (by kernel_rfl) (P2 (((r2.1 : Int) == 1) = true) (beqT h4) <| PI (1 : Nat) <| P1 (cs_l1Cur_anyMap hr5) <| P0))
    (fun h4 H =>
      eW Rs_l1Cur_anyBoard Ns_l1Cur_anyBoard H <| gE func16 [rg [hF 0], r0] (by kernel_rfl) (P2 (((r2.1 : Int) == 1) = false) (beqF h4) <| P0)))
/-! loop example/g00886/spec rName -/
noncomputable def Ks_rName : Ss_rName → List Item
  | .h1 .. => nav 300 2 [] [.code (bdy f66)]
def Zs_rName : Ss_rName → St
  | .h1 s0 i1 => ⟨sts 23 [(0, .str s0), (3, I i1)], []⟩
abbrev Qs_rName := Nx X 66 0 Ks_rName Zs_rName RB (fun _ => [])
theorem ns_rName : ∀ s o, Bs_rName s = some o → Qs_rName (Ks_rName s) (Zs_rName s) o
  | .h1 s0 i1, o, H =>
    eIf H (fun h1 H =>
      eCk H fun h2 H =>
      eCk H fun h3 H =>
      gN [rg [hT 3]] (by kernel_rfl) (P2 ((decide (i1 < ((ByteArray.size s0 : Nat) : Int))) = true) (decide_eq_true h1) <| P0) <|
      eIf H (fun h4 H =>
        eN H <| gE func66 [rg [{ i := 2, n := byteAt s0 (Int.toNat i1) }, hT 3], r0] (by kernel_rfl) (P2 ((0 : Int) ≤ i1) h2 <| P2 (i1 < (ByteArray.size s0 : Int)) h3 <| P2 ((s0.data.toList[(Int.toNat i1)]?.map fun b => (b.toNat : Int)) = some ((byteAt s0 (Int.toNat i1) : Nat) : Int)) (byteAt_ok (by omega)) <| P2 ((decide (((byteAt s0 (Int.toNat i1) : Nat) : Int) < 97)) = true) (decide_eq_true h4) <| P0))
      (fun h4 H =>
        eCk H fun h5 H =>
        eCk H fun h6 H =>
        eIf H (fun h7 H =>
          eN H <| gE func66 [rg [{ i := 2, n := byteAt s0 (Int.toNat i1) }, hF 3, { i := 7, n := byteAt s0 (Int.toNat i1) }, hT 8], r0] (by kernel_rfl) (P2 ((0 : Int) ≤ i1) h2 <| P2 (i1 < (ByteArray.size s0 : Int)) h3 <| P2 ((s0.data.toList[(Int.toNat i1)]?.map fun b => (b.toNat : Int)) = some ((byteAt s0 (Int.toNat i1) : Nat) : Int)) (byteAt_ok (by omega)) <| P2 ((decide (((byteAt s0 (Int.toNat i1) : Nat) : Int) < 97)) = false) (decide_eq_false h4) <| P2 ((0 : Int) ≤ i1) h5 <| P2 (i1 < (ByteArray.size s0 : Int)) h6 <| P2 ((s0.data.toList[(Int.toNat i1)]?.map fun b => (b.toNat : Int)) = some ((byteAt s0 (Int.toNat i1) : Nat) : Int)) (byteAt_ok (by omega)) <| P2 ((decide (((byteAt s0 (Int.toNat i1) : Nat) : Int) > 122)) = true) (decide_eq_true h7) <| P0))
        (fun h7 H =>
          eN H fun r hn => gO [rg [{ i := 2, n := byteAt s0 (Int.toNat i1) }, hF 3, { i := 7, n := byteAt s0 (Int.toNat i1) }, hF 8], r0, .canon [] [0, 3]] (by kernel_rfl) (P2 ((0 : Int) ≤ i1) h2 <| P2 (i1 < (ByteArray.size s0 : Int)) h3 <| P2 ((s0.data.toList[(Int.toNat i1)]?.map fun b => (b.toNat : Int)) = some ((byteAt s0 (Int.toNat i1) : Nat) : Int)) (byteAt_ok (by omega)) <| P2 ((decide (((byteAt s0 (Int.toNat i1) : Nat) : Int) < 97)) = false) (decide_eq_false h4) <| P2 ((0 : Int) ≤ i1) h5 <| P2 (i1 < (ByteArray.size s0 : Int)) h6 <| P2 ((s0.data.toList[(Int.toNat i1)]?.map fun b => (b.toNat : Int)) = some ((byteAt s0 (Int.toNat i1) : Nat) : Int)) (byteAt_ok (by omega)) <| P2 ((decide (((byteAt s0 (Int.toNat i1) : Nat) : Int) > 122)) = false) (decide_eq_false h7) <| P0) hn)))
    (fun h1 H =>
      eBind H fun r2 hr2 H =>
      eN H <| gE func66 [rg [hF 3], rg [hC 2 true [] (RB r2) []]] (by kernel_rfl) (P2 ((decide (i1 < ((ByteArray.size s0 : Nat) : Int))) = false) (decide_eq_false h1) <| P1 (cs_l1In hr2) <| P0))
theorem ws_rName : ∀ s r, loop Bs_rName s = some r → Wc X 66 0 (Ks_rName s) (Zs_rName s) (RB r) ((fun _ => []) r) := Nx.all (ns_rName)
theorem cs_rName {a0 : ByteArray} {r : Bool} (H : Ds_rName a0 = some r) : Ct X.P X.gl 66 [.str a0] [] (RB r) [] :=
  Ct.of func66 (c := bdy f66) (by kernel_rfl) (by kernel_rfl) <|
  gO [r0, r0, .canon [] [0, 3]] (by kernel_rfl) P0 (ws_rName _ _ H)
/-! loop example/g00886/spec rTerrain -/
noncomputable def Ks_rTerrain : Ss_rTerrain → List Item
  | .h1 .. => nav 300 2 [] [.code (bdy f67)]
def Zs_rTerrain : Ss_rTerrain → St
  | .h1 name0 t1 t2 t3 => ⟨sts 20 [(1, .str name0), (7, sl 5 gi_Terrain t1), (8, I t2), (9, I t3)], []⟩
abbrev Qs_rTerrain := Nx X 67 0 Ks_rTerrain Zs_rTerrain RI (fun _ => [])
theorem ns_rTerrain : ∀ s o, Bs_rTerrain s = some o → Qs_rTerrain (Ks_rTerrain s) (Zs_rTerrain s) o
  | .h1 name0 t1 t2 t3, o, H =>
    eIf H (fun h1 H =>
      eCk H fun h2 H =>
      eBind H fun x3 hx3 H =>
      gN [rg [hT 0], rg [hE 2 (gi_Terrain x3)]] (by kernel_rfl) (P2 ((decide (t3 < t2)) = true) (decide_eq_true h1) <| P1 h2 <| P1 (int_lt_of_at h2 hx3) <| P1 (at_map gi_Terrain hx3) <| P0) <|
      eIf H (fun h4 H =>
        eN H <| gE func67 [rg [hT 3], r0] (by kernel_rfl) (P2 ((x3.Name == name0) = true) (beqT h4) <| P0))
      (fun h4 H =>
        eN H fun r hn => gO [rg [hF 3], r0, .canon [] [1, 7, 8, 9]] (by kernel_rfl) (P2 ((x3.Name == name0) = false) (beqF h4) <| P0) hn))
    (fun h1 H =>
      eN H <| gE func67 [rg [hF 0], r0] (by kernel_rfl) (P2 ((decide (t3 < t2)) = false) (decide_eq_false h1) <| P0))
theorem ws_rTerrain : ∀ s r, loop Bs_rTerrain s = some r → Wc X 67 0 (Ks_rTerrain s) (Zs_rTerrain s) (RI r) ((fun _ => []) r) := Nx.all (ns_rTerrain)
theorem cs_rTerrain {a0 : (List Gi_Terrain)} {a1 : ByteArray} {r : Int} (H : Ds_rTerrain a0 a1 = some r) : Ct X.P X.gl 67 [sl 5 gi_Terrain a0, .str a1] [] (RI r) [] :=
  Ct.of func67 (c := bdy f67) (by kernel_rfl) (by kernel_rfl) <|
  gO [r0, r0, .canon [] [1, 7, 8, 9]] (by kernel_rfl) P0 (ws_rTerrain _ _ H)
/-! loop example/g00886/spec l1All -/
noncomputable def Ks_l1All : Ss_l1All → List Item
  | .h1 .. => nav 300 2 [] [.code (bdy f48)]
def Zs_l1All : Ss_l1All → St
  | .h1 lo0 vhi1 t2 t3 t4 => ⟨sts 21 [(1, I lo0), (2, I vhi1), (9, sl 1 I t2), (10, I t3), (11, I t4)], []⟩
abbrev Qs_l1All := Nx X 48 0 Ks_l1All Zs_l1All RB (fun _ => [])
theorem ns_l1All : ∀ s o, Bs_l1All s = some o → Qs_l1All (Ks_l1All s) (Zs_l1All s) o
  | .h1 lo0 vhi1 t2 t3 t4, o, H =>
    eIf H (fun h1 H =>
      eCk H fun h2 H =>
      eBind H fun x3 hx3 H =>
      eBind H fun r4 hr4 H =>
      gN [rg [hT 0], rg [hE 1 (I x3)]] (by kernel_rfl) (P2 ((decide (t4 < t3)) = true) (decide_eq_true h1) <| P1 h2 <| P1 (int_lt_of_at h2 hx3) <| P1 (at_map I hx3) <| P0) <|
      eIf H (fun h5 H =>
        eN H fun r hn => gO [rg [{ i := 3, call := some { cl := true, auto := true, ins := [], res := (RB r4), G' := [] }, dec := some true }], r0, .canon [] [1, 2, 9, 10, 11]] (by kernel_rfl) (P1 (cs_l1In hr4) <| P2 (r4 = true) (h5) <| P0) hn)
      (fun h5 H =>
        eN H <| gE func48 [rg [{ i := 3, call := some { cl := true, auto := true, ins := [], res := (RB r4), G' := [] }, dec := some false }], r0] (by kernel_rfl) (P1 (cs_l1In hr4) <| P2 (r4 = false) (eqF h5) <| P0)))
    (fun h1 H =>
      eN H <| gE func48 [rg [hF 0], r0] (by kernel_rfl) (P2 ((decide (t4 < t3)) = false) (decide_eq_false h1) <| P0))
theorem ws_l1All : ∀ s r, loop Bs_l1All s = some r → Wc X 48 0 (Ks_l1All s) (Zs_l1All s) (RB r) ((fun _ => []) r) := Nx.all (ns_l1All)
theorem cs_l1All {a0 : (List Int)} {a1 : Int} {a2 : Int} {r : Bool} (H : Ds_l1All a0 a1 a2 = some r) : Ct X.P X.gl 48 [sl 1 I a0, I a1, I a2] [] (RB r) [] :=
  Ct.of func48 (c := bdy f48) (by kernel_rfl) (by kernel_rfl) <|
  gO [r0, r0, .canon [] [1, 2, 9, 10, 11]] (by kernel_rfl) P0 (ws_l1All _ _ H)
/-! loop example/g00886/spec rKind -/
noncomputable def Ks_rKind : Ss_rKind → List Item
  | .h1 .. => nav 300 2 [] [.code (bdy f68)]
def Zs_rKind : Ss_rKind → St
  | .h1 name0 t1 t2 t3 => ⟨sts 20 [(1, .str name0), (7, sl 6 gi_Kind t1), (8, I t2), (9, I t3)], []⟩
abbrev Qs_rKind := Nx X 68 0 Ks_rKind Zs_rKind RI (fun _ => [])
theorem ns_rKind : ∀ s o, Bs_rKind s = some o → Qs_rKind (Ks_rKind s) (Zs_rKind s) o
  | .h1 name0 t1 t2 t3, o, H =>
    eIf H (fun h1 H =>
      eCk H fun h2 H =>
      eBind H fun x3 hx3 H =>
      gN [rg [hT 0], rg [hE 2 (gi_Kind x3)]] (by kernel_rfl) (P2 ((decide (t3 < t2)) = true) (decide_eq_true h1) <| P1 h2 <| P1 (int_lt_of_at h2 hx3) <| P1 (at_map gi_Kind hx3) <| P0) <|
      eIf H (fun h4 H =>
        eN H <| gE func68 [rg [hT 3], r0] (by kernel_rfl) (P2 ((x3.Name == name0) = true) (beqT h4) <| P0))
      (fun h4 H =>
        eN H fun r hn => gO [rg [hF 3], r0, .canon [] [1, 7, 8, 9]] (by kernel_rfl) (P2 ((x3.Name == name0) = false) (beqF h4) <| P0) hn))
    (fun h1 H =>
      eN H <| gE func68 [rg [hF 0], r0] (by kernel_rfl) (P2 ((decide (t3 < t2)) = false) (decide_eq_false h1) <| P0))
theorem ws_rKind : ∀ s r, loop Bs_rKind s = some r → Wc X 68 0 (Ks_rKind s) (Zs_rKind s) (RI r) ((fun _ => []) r) := Nx.all (ns_rKind)
theorem cs_rKind {a0 : (List Gi_Kind)} {a1 : ByteArray} {r : Int} (H : Ds_rKind a0 a1 = some r) : Ct X.P X.gl 68 [sl 6 gi_Kind a0, .str a1] [] (RI r) [] :=
  Ct.of func68 (c := bdy f68) (by kernel_rfl) (by kernel_rfl) <|
  gO [r0, r0, .canon [] [1, 7, 8, 9]] (by kernel_rfl) P0 (ws_rKind _ _ H)
/-! loop example/g00886/spec rGood -/
noncomputable def Ks_rGood : Ss_rGood → List Item
  | .h1 .. => nav 300 3 [false] [.code (bdy f55)]
  | .h2 .. => nav 300 5 [false, false] [.code (bdy f55)]
def Zs_rGood : Ss_rGood → St
  | .h1 t0 t1 t2 b3 => ⟨sts 137 [(1, .ptr 0 7 0 0), (20, sl 5 gi_Terrain t0), (21, I t1), (22, I t2)], [some ⟨false, true, 7, 1, [.agg [sl 5 gi_Terrain b3.Terrains, sl 6 gi_Kind b3.Kinds, I b3.Stack, I b3.River, I b3.Road, I b3.Supply, I b3.Turns]]⟩]⟩
  | .h2 t0 t1 t2 b3 => ⟨sts 137 [(1, .ptr 0 7 0 0), (69, sl 6 gi_Kind t0), (70, I t1), (71, I t2)], [some ⟨false, true, 7, 1, [.agg [sl 5 gi_Terrain b3.Terrains, sl 6 gi_Kind b3.Kinds, I b3.Stack, I b3.River, I b3.Road, I b3.Supply, I b3.Turns]]⟩]⟩
abbrev Qs_rGood := Nx X 55 0 Ks_rGood Zs_rGood RB (fun _ => [])
theorem ns_rGood : ∀ s o, Bs_rGood s = some o → Qs_rGood (Ks_rGood s) (Zs_rGood s) o
  | .h1 t0 t1 t2 b3, o, H =>
    eIf H (fun h1 H =>
      eCk H fun h2 H =>
      eBind H fun x3 hx3 H =>
      eBind H fun r4 hr4 H =>
      gN [rg [hT 0], rg [hE 2 (gi_Terrain x3)]] (by kernel_rfl) (P2 ((decide (t2 < t1)) = true) (decide_eq_true h1) <| P1 h2 <| P1 (int_lt_of_at h2 hx3) <| P1 (at_map gi_Terrain hx3) <| P0) <|
      eIf H (fun h5 H =>
        eBind H fun r6 hr6 H =>
        eIf H (fun h7 H =>
          eIf H (fun h8 H =>
            eBind H fun r9 hr9 H =>
            eIf H (fun h10 H =>
              eBind H fun r11 hr11 H =>
              eIf H (fun h12 H =>
                eBind H fun r13 hr13 H =>
                eIf H (fun h14 H =>
                  eN H fun r hn => gO [rg [{ i := 2, call := some { cl := true, auto := true, ins := [], res := (RB r4), G' := [] }, dec := some true }, hC 9 true [] (RI r6) [], hF 11, hF 20, { i := 25, call := some { cl := true, auto := true, ins := [], res := (RB r9), G' := [] }, dec := some true }, { i := 31, call := some { cl := true, auto := true, ins := [], res := (RB r11), G' := [] }, dec := some true }, { i := 37, call := some { cl := true, auto := true, ins := [], res := (RB r13), G' := [] }, dec := some true }], r0, .canon [0] [1, 20, 21, 22]] (by kernel_rfl) (P1 (cs_rName hr4) <| P2 (r4 = true) (h5) <| P1 (cs_rTerrain hr6) <| P2 (((r6 : Int) != t2) = false) (bneF h7) <| P2 (((((x3.Cost.length : Nat) : Int) : Int) != ((b3.Kinds.length : Nat) : Int)) = false) (bneF h8) <| P1 (cs_l1All hr9) <| P2 (r9 = true) (h10) <| P1 (cs_l1In hr11) <| P2 (r11 = true) (h12) <| P1 (cs_l1In hr13) <| P2 (r13 = true) (h14) <| P0) hn)
                (fun h14 H =>
                  eN H <| gE func55 [rg [{ i := 2, call := some { cl := true, auto := true, ins := [], res := (RB r4), G' := [] }, dec := some true }, hC 9 true [] (RI r6) [], hF 11, hF 20, { i := 25, call := some { cl := true, auto := true, ins := [], res := (RB r9), G' := [] }, dec := some true }, { i := 31, call := some { cl := true, auto := true, ins := [], res := (RB r11), G' := [] }, dec := some true }, { i := 37, call := some { cl := true, auto := true, ins := [], res := (RB r13), G' := [] }, dec := some false }], r0] (by kernel_rfl) (P1 (cs_rName hr4) <| P2 (r4 = true) (h5) <| P1 (cs_rTerrain hr6) <| P2 (((r6 : Int) != t2) = false) (bneF h7) <| P2 (((((x3.Cost.length : Nat) : Int) : Int) != ((b3.Kinds.length : Nat) : Int)) = false) (bneF h8) <| P1 (cs_l1All hr9) <| P2 (r9 = true) (h10) <| P1 (cs_l1In hr11) <| P2 (r11 = true) (h12) <| P1 (cs_l1In hr13) <| P2 (r13 = false) (eqF h14) <| P0)))
              (fun h12 H =>
                eN H <| gE func55 [rg [{ i := 2, call := some { cl := true, auto := true, ins := [], res := (RB r4), G' := [] }, dec := some true }, hC 9 true [] (RI r6) [], hF 11, hF 20, { i := 25, call := some { cl := true, auto := true, ins := [], res := (RB r9), G' := [] }, dec := some true }, { i := 31, call := some { cl := true, auto := true, ins := [], res := (RB r11), G' := [] }, dec := some false }], r0] (by kernel_rfl) (P1 (cs_rName hr4) <| P2 (r4 = true) (h5) <| P1 (cs_rTerrain hr6) <| P2 (((r6 : Int) != t2) = false) (bneF h7) <| P2 (((((x3.Cost.length : Nat) : Int) : Int) != ((b3.Kinds.length : Nat) : Int)) = false) (bneF h8) <| P1 (cs_l1All hr9) <| P2 (r9 = true) (h10) <| P1 (cs_l1In hr11) <| P2 (r11 = false) (eqF h12) <| P0)))
            (fun h10 H =>
              eN H <| gE func55 [rg [{ i := 2, call := some { cl := true, auto := true, ins := [], res := (RB r4), G' := [] }, dec := some true }, hC 9 true [] (RI r6) [], hF 11, hF 20, { i := 25, call := some { cl := true, auto := true, ins := [], res := (RB r9), G' := [] }, dec := some false }], r0] (by kernel_rfl) (P1 (cs_rName hr4) <| P2 (r4 = true) (h5) <| P1 (cs_rTerrain hr6) <| P2 (((r6 : Int) != t2) = false) (bneF h7) <| P2 (((((x3.Cost.length : Nat) : Int) : Int) != ((b3.Kinds.length : Nat) : Int)) = false) (bneF h8) <| P1 (cs_l1All hr9) <| P2 (r9 = false) (eqF h10) <| P0)))
          (fun h8 H =>
            eN H <| gE func55 [rg [{ i := 2, call := some { cl := true, auto := true, ins := [], res := (RB r4), G' := [] }, dec := some true }, hC 9 true [] (RI r6) [], hF 11, hT 20], r0] (by kernel_rfl) (P1 (cs_rName hr4) <| P2 (r4 = true) (h5) <| P1 (cs_rTerrain hr6) <| P2 (((r6 : Int) != t2) = false) (bneF h7) <| P2 (((((x3.Cost.length : Nat) : Int) : Int) != ((b3.Kinds.length : Nat) : Int)) = true) (bneT h8) <| P0)))
        (fun h7 H =>
          eN H <| gE func55 [rg [{ i := 2, call := some { cl := true, auto := true, ins := [], res := (RB r4), G' := [] }, dec := some true }, hC 9 true [] (RI r6) [], hT 11], r0] (by kernel_rfl) (P1 (cs_rName hr4) <| P2 (r4 = true) (h5) <| P1 (cs_rTerrain hr6) <| P2 (((r6 : Int) != t2) = true) (bneT h7) <| P0)))
      (fun h5 H =>
        eN H <| gE func55 [rg [{ i := 2, call := some { cl := true, auto := true, ins := [], res := (RB r4), G' := [] }, dec := some false }], r0] (by kernel_rfl) (P1 (cs_rName hr4) <| P2 (r4 = false) (eqF h5) <| P0)))
    (fun h1 H =>
      eN H fun r hn => gO [rg [hF 0], r0, .canon [0] [1, 69, 70, 71]] (by kernel_rfl) (P2 ((decide (t2 < t1)) = false) (decide_eq_false h1) <| P0) hn)
  | .h2 t0 t1 t2 b3, o, H =>
    eIf H (fun h1 H =>
      eCk H fun h2 H =>
      eBind H fun x3 hx3 H =>
      eBind H fun r4 hr4 H =>
      gN [rg [hT 0], rg [hE 2 (gi_Kind x3)]] (by kernel_rfl) (P2 ((decide (t2 < t1)) = true) (decide_eq_true h1) <| P1 h2 <| P1 (int_lt_of_at h2 hx3) <| P1 (at_map gi_Kind hx3) <| P0) <|
      eIf H (fun h5 H =>
        eBind H fun r6 hr6 H =>
        eIf H (fun h7 H =>
          eBind H fun r8 hr8 H =>
          eIf H (fun h9 H =>
            eBind H fun r10 hr10 H =>
            eIf H (fun h11 H =>
              eBind H fun r12 hr12 H =>
              eIf H (fun h13 H =>
                eBind H fun r14 hr14 H =>
                eIf H (fun h15 H =>
                  eN H fun r hn => gO [rg [{ i := 2, call := some { cl := true, auto := true, ins := [], res := (RB r4), G' := [] }, dec := some true }, hC 9 true [] (RI r6) [], hF 11, { i := 16, call := some { cl := true, auto := true, ins := [], res := (RB r8), G' := [] }, dec := some true }, { i := 22, call := some { cl := true, auto := true, ins := [], res := (RB r10), G' := [] }, dec := some true }, { i := 28, call := some { cl := true, auto := true, ins := [], res := (RB r12), G' := [] }, dec := some true }, { i := 34, call := some { cl := true, auto := true, ins := [], res := (RB r14), G' := [] }, dec := some true }], r0, .canon [0] [1, 69, 70, 71]] (by kernel_rfl) (P1 (cs_rName hr4) <| P2 (r4 = true) (h5) <| P1 (cs_rKind hr6) <| P2 (((r6 : Int) != t2) = false) (bneF h7) <| P1 (cs_l1In hr8) <| P2 (r8 = true) (h9) <| P1 (cs_l1In hr10) <| P2 (r10 = true) (h11) <| P1 (cs_l1In hr12) <| P2 (r12 = true) (h13) <| P1 (cs_l1In hr14) <| P2 (r14 = true) (h15) <| P0) hn)
                (fun h15 H =>
                  eN H <| gE func55 [rg [{ i := 2, call := some { cl := true, auto := true, ins := [], res := (RB r4), G' := [] }, dec := some true }, hC 9 true [] (RI r6) [], hF 11, { i := 16, call := some { cl := true, auto := true, ins := [], res := (RB r8), G' := [] }, dec := some true }, { i := 22, call := some { cl := true, auto := true, ins := [], res := (RB r10), G' := [] }, dec := some true }, { i := 28, call := some { cl := true, auto := true, ins := [], res := (RB r12), G' := [] }, dec := some true }, { i := 34, call := some { cl := true, auto := true, ins := [], res := (RB r14), G' := [] }, dec := some false }], r0] (by kernel_rfl) (P1 (cs_rName hr4) <| P2 (r4 = true) (h5) <| P1 (cs_rKind hr6) <| P2 (((r6 : Int) != t2) = false) (bneF h7) <| P1 (cs_l1In hr8) <| P2 (r8 = true) (h9) <| P1 (cs_l1In hr10) <| P2 (r10 = true) (h11) <| P1 (cs_l1In hr12) <| P2 (r12 = true) (h13) <| P1 (cs_l1In hr14) <| P2 (r14 = false) (eqF h15) <| P0)))
              (fun h13 H =>
                eN H <| gE func55 [rg [{ i := 2, call := some { cl := true, auto := true, ins := [], res := (RB r4), G' := [] }, dec := some true }, hC 9 true [] (RI r6) [], hF 11, { i := 16, call := some { cl := true, auto := true, ins := [], res := (RB r8), G' := [] }, dec := some true }, { i := 22, call := some { cl := true, auto := true, ins := [], res := (RB r10), G' := [] }, dec := some true }, { i := 28, call := some { cl := true, auto := true, ins := [], res := (RB r12), G' := [] }, dec := some false }], r0] (by kernel_rfl) (P1 (cs_rName hr4) <| P2 (r4 = true) (h5) <| P1 (cs_rKind hr6) <| P2 (((r6 : Int) != t2) = false) (bneF h7) <| P1 (cs_l1In hr8) <| P2 (r8 = true) (h9) <| P1 (cs_l1In hr10) <| P2 (r10 = true) (h11) <| P1 (cs_l1In hr12) <| P2 (r12 = false) (eqF h13) <| P0)))
            (fun h11 H =>
              eN H <| gE func55 [rg [{ i := 2, call := some { cl := true, auto := true, ins := [], res := (RB r4), G' := [] }, dec := some true }, hC 9 true [] (RI r6) [], hF 11, { i := 16, call := some { cl := true, auto := true, ins := [], res := (RB r8), G' := [] }, dec := some true }, { i := 22, call := some { cl := true, auto := true, ins := [], res := (RB r10), G' := [] }, dec := some false }], r0] (by kernel_rfl) (P1 (cs_rName hr4) <| P2 (r4 = true) (h5) <| P1 (cs_rKind hr6) <| P2 (((r6 : Int) != t2) = false) (bneF h7) <| P1 (cs_l1In hr8) <| P2 (r8 = true) (h9) <| P1 (cs_l1In hr10) <| P2 (r10 = false) (eqF h11) <| P0)))
          (fun h9 H =>
            eN H <| gE func55 [rg [{ i := 2, call := some { cl := true, auto := true, ins := [], res := (RB r4), G' := [] }, dec := some true }, hC 9 true [] (RI r6) [], hF 11, { i := 16, call := some { cl := true, auto := true, ins := [], res := (RB r8), G' := [] }, dec := some false }], r0] (by kernel_rfl) (P1 (cs_rName hr4) <| P2 (r4 = true) (h5) <| P1 (cs_rKind hr6) <| P2 (((r6 : Int) != t2) = false) (bneF h7) <| P1 (cs_l1In hr8) <| P2 (r8 = false) (eqF h9) <| P0)))
        (fun h7 H =>
          eN H <| gE func55 [rg [{ i := 2, call := some { cl := true, auto := true, ins := [], res := (RB r4), G' := [] }, dec := some true }, hC 9 true [] (RI r6) [], hT 11], r0] (by kernel_rfl) (P1 (cs_rName hr4) <| P2 (r4 = true) (h5) <| P1 (cs_rKind hr6) <| P2 (((r6 : Int) != t2) = true) (bneT h7) <| P0)))
      (fun h5 H =>
        eN H <| gE func55 [rg [{ i := 2, call := some { cl := true, auto := true, ins := [], res := (RB r4), G' := [] }, dec := some false }], r0] (by kernel_rfl) (P1 (cs_rName hr4) <| P2 (r4 = false) (eqF h5) <| P0)))
    (fun h1 H =>
      eBind H fun r2 hr2 H =>
      gN [rg [hF 0]] (by kernel_rfl) (P2 ((decide (t2 < t1)) = false) (decide_eq_false h1) <| P0) <|
      eIf H (fun h3 H =>
        eBind H fun r4 hr4 H =>
        eIf H (fun h5 H =>
          eBind H fun r6 hr6 H =>
          eIf H (fun h7 H =>
            eBind H fun r8 hr8 H =>
            eIf H (fun h9 H =>
              eBind H fun r10 hr10 H =>
              eN H <| gE func55 [rg [{ i := 2, call := some { cl := true, auto := true, ins := [], res := (RB r2), G' := [] }, dec := some true }, { i := 6, call := some { cl := true, auto := true, ins := [], res := (RB r4), G' := [] }, dec := some true }, { i := 11, call := some { cl := true, auto := true, ins := [], res := (RB r6), G' := [] }, dec := some true }, { i := 16, call := some { cl := true, auto := true, ins := [], res := (RB r8), G' := [] }, dec := some true }, hC 21 true [] (RB r10) []]] (by kernel_rfl) (P1 (cs_l1In hr2) <| P2 (r2 = true) (h3) <| P1 (cs_l1In hr4) <| P2 (r4 = true) (h5) <| P1 (cs_l1In hr6) <| P2 (r6 = true) (h7) <| P1 (cs_l1In hr8) <| P2 (r8 = true) (h9) <| P1 (cs_l1In hr10) <| P0))
            (fun h9 H =>
              eN H <| gE func55 [rg [{ i := 2, call := some { cl := true, auto := true, ins := [], res := (RB r2), G' := [] }, dec := some true }, { i := 6, call := some { cl := true, auto := true, ins := [], res := (RB r4), G' := [] }, dec := some true }, { i := 11, call := some { cl := true, auto := true, ins := [], res := (RB r6), G' := [] }, dec := some true }, { i := 16, call := some { cl := true, auto := true, ins := [], res := (RB r8), G' := [] }, dec := some false }]] (by kernel_rfl) (P1 (cs_l1In hr2) <| P2 (r2 = true) (h3) <| P1 (cs_l1In hr4) <| P2 (r4 = true) (h5) <| P1 (cs_l1In hr6) <| P2 (r6 = true) (h7) <| P1 (cs_l1In hr8) <| P2 (r8 = false) (eqF h9) <| P0)))
          (fun h7 H =>
            eN H <| gE func55 [rg [{ i := 2, call := some { cl := true, auto := true, ins := [], res := (RB r2), G' := [] }, dec := some true }, { i := 6, call := some { cl := true, auto := true, ins := [], res := (RB r4), G' := [] }, dec := some true }, { i := 11, call := some { cl := true, auto := true, ins := [], res := (RB r6), G' := [] }, dec := some false }]] (by kernel_rfl) (P1 (cs_l1In hr2) <| P2 (r2 = true) (h3) <| P1 (cs_l1In hr4) <| P2 (r4 = true) (h5) <| P1 (cs_l1In hr6) <| P2 (r6 = false) (eqF h7) <| P0)))
        (fun h5 H =>
          eN H <| gE func55 [rg [{ i := 2, call := some { cl := true, auto := true, ins := [], res := (RB r2), G' := [] }, dec := some true }, { i := 6, call := some { cl := true, auto := true, ins := [], res := (RB r4), G' := [] }, dec := some false }]] (by kernel_rfl) (P1 (cs_l1In hr2) <| P2 (r2 = true) (h3) <| P1 (cs_l1In hr4) <| P2 (r4 = false) (eqF h5) <| P0)))
      (fun h3 H =>
        eN H <| gE func55 [rg [{ i := 2, call := some { cl := true, auto := true, ins := [], res := (RB r2), G' := [] }, dec := some false }]] (by kernel_rfl) (P1 (cs_l1In hr2) <| P2 (r2 = false) (eqF h3) <| P0)))
theorem ws_rGood : ∀ s r, loop Bs_rGood s = some r → Wc X 55 0 (Ks_rGood s) (Zs_rGood s) (RB r) ((fun _ => []) r) := Nx.all (ns_rGood)
theorem cs_rGood {a0 : Gi_Rules} {r : Bool} (H : Ds_rGood a0 = some r) : Ct X.P X.gl 55 [.agg [sl 5 gi_Terrain a0.Terrains, sl 6 gi_Kind a0.Kinds, I a0.Stack, I a0.River, I a0.Road, I a0.Supply, I a0.Turns]] [] (RB r) [] :=
  Ct.of func55 (c := bdy f55) (by kernel_rfl) (by kernel_rfl) <|
  eBind H fun r1 hr1 H =>
  gS [r0] (by kernel_rfl) P0 <|
  eIf H (fun h2 H =>
    eBind H fun r3 hr3 H =>
    eIf H (fun h4 H =>
      gO [rg [{ i := 3, call := some { cl := true, auto := true, ins := [], res := (RB r1), G' := [] }, dec := some true }, { i := 9, call := some { cl := true, auto := true, ins := [], res := (RB r3), G' := [] }, dec := some true }], r0, .canon [0] [1, 20, 21, 22]] (by kernel_rfl) (P1 (cs_l1In hr1) <| P2 (r1 = true) (h2) <| P1 (cs_l1In hr3) <| P2 (r3 = true) (h4) <| P0) (ws_rGood _ _ H))
    (fun h4 H =>
      eW RB (fun _ => []) H <| gE func55 [rg [{ i := 3, call := some { cl := true, auto := true, ins := [], res := (RB r1), G' := [] }, dec := some true }, { i := 9, call := some { cl := true, auto := true, ins := [], res := (RB r3), G' := [] }, dec := some false }], r0] (by kernel_rfl) (P1 (cs_l1In hr1) <| P2 (r1 = true) (h2) <| P1 (cs_l1In hr3) <| P2 (r3 = false) (eqF h4) <| P0)))
  (fun h2 H =>
    eW RB (fun _ => []) H <| gE func55 [rg [{ i := 3, call := some { cl := true, auto := true, ins := [], res := (RB r1), G' := [] }, dec := some false }], r0] (by kernel_rfl) (P1 (cs_l1In hr1) <| P2 (r1 = false) (eqF h2) <| P0))
/-! loop example/g00886/spec l1Rising -/
noncomputable def Ks_l1Rising : Ss_l1Rising → List Item
  | .h1 .. => nav 300 2 [] [.code (bdy f80)]
def Zs_l1Rising : Ss_l1Rising → St
  | .h1 l0 lo1 vhi2 t3 t4 t5 => ⟨sts 35 [(0, sl 1 I l0), (1, I lo1), (2, I vhi2), (9, sl 1 I t3), (10, I t4), (11, I t5)], []⟩
abbrev Qs_l1Rising := Nx X 80 0 Ks_l1Rising Zs_l1Rising RB (fun _ => [])
theorem ns_l1Rising : ∀ s o, Bs_l1Rising s = some o → Qs_l1Rising (Ks_l1Rising s) (Zs_l1Rising s) o
  | .h1 l0 lo1 vhi2 t3 t4 t5, o, H =>
    eIf H (fun h1 H =>
      eCk H fun h2 H =>
      eBind H fun x3 hx3 H =>
      eBind H fun r4 hr4 H =>
      gN [rg [hT 0], rg [hE 2 (I x3)]] (by kernel_rfl) (P2 ((decide (t5 < t4)) = true) (decide_eq_true h1) <| P1 h2 <| P1 (int_lt_of_at h2 hx3) <| P1 (at_map I hx3) <| P0) <|
      eIf H (fun h5 H =>
        eIf H (fun h6 H =>
          eCk H fun h7 H =>
          eBind H fun x8 hx8 H =>
          eIf H (fun h9 H =>
            eN H <| gE func80 [rg [{ i := 3, call := some { cl := true, auto := true, ins := [], res := (RB r4), G' := [] }, dec := some true }, hT 7, hE 13 (I x8), hT 15], r0] (by kernel_rfl) (P1 (cs_l1In hr4) <| P2 (r4 = true) (h5) <| P2 ((decide (t5 > 0)) = true) (decide_eq_true h6) <| P1 h7 <| P1 (int_lt_of_at h7 hx8) <| P1 (at_map I hx8) <| P2 ((decide (x8 ≥ x3)) = true) (decide_eq_true h9) <| P0))
          (fun h9 H =>
            eN H fun r hn => gO [rg [{ i := 3, call := some { cl := true, auto := true, ins := [], res := (RB r4), G' := [] }, dec := some true }, hT 7, hE 13 (I x8), hF 15], r0, .canon [] [0, 1, 2, 9, 10, 11]] (by kernel_rfl) (P1 (cs_l1In hr4) <| P2 (r4 = true) (h5) <| P2 ((decide (t5 > 0)) = true) (decide_eq_true h6) <| P1 h7 <| P1 (int_lt_of_at h7 hx8) <| P1 (at_map I hx8) <| P2 ((decide (x8 ≥ x3)) = false) (decide_eq_false h9) <| P0) hn))
        (fun h6 H =>
          eN H fun r hn => gO [rg [{ i := 3, call := some { cl := true, auto := true, ins := [], res := (RB r4), G' := [] }, dec := some true }, hF 7], r0, .canon [] [0, 1, 2, 9, 10, 11]] (by kernel_rfl) (P1 (cs_l1In hr4) <| P2 (r4 = true) (h5) <| P2 ((decide (t5 > 0)) = false) (decide_eq_false h6) <| P0) hn))
      (fun h5 H =>
        eN H <| gE func80 [rg [{ i := 3, call := some { cl := true, auto := true, ins := [], res := (RB r4), G' := [] }, dec := some false }], r0] (by kernel_rfl) (P1 (cs_l1In hr4) <| P2 (r4 = false) (eqF h5) <| P0)))
    (fun h1 H =>
      eN H <| gE func80 [rg [hF 0], r0] (by kernel_rfl) (P2 ((decide (t5 < t4)) = false) (decide_eq_false h1) <| P0))
theorem ws_l1Rising : ∀ s r, loop Bs_l1Rising s = some r → Wc X 80 0 (Ks_l1Rising s) (Zs_l1Rising s) (RB r) ((fun _ => []) r) := Nx.all (ns_l1Rising)
theorem cs_l1Rising {a0 : (List Int)} {a1 : Int} {a2 : Int} {r : Bool} (H : Ds_l1Rising a0 a1 a2 = some r) : Ct X.P X.gl 80 [sl 1 I a0, I a1, I a2] [] (RB r) [] :=
  Ct.of func80 (c := bdy f80) (by kernel_rfl) (by kernel_rfl) <|
  gO [r0, r0, .canon [] [0, 1, 2, 9, 10, 11]] (by kernel_rfl) P0 (ws_l1Rising _ _ H)
/-! loop example/g00886/spec mEdges -/
noncomputable def Ks_mEdges : Ss_mEdges → List Item
  | .h1 .. => nav 300 2 [] [.code (bdy f69)]
def Zs_mEdges : Ss_mEdges → St
  | .h1 l0 t1 t2 t3 b4 => ⟨sts 36 [(1, sl 1 I l0), (2, .ptr 0 5 0 0), (7, sl 1 I t1), (8, I t2), (9, I t3)], [some ⟨false, true, 5, 1, [.agg [I b4.Width, I b4.Height, sl 1 I b4.Terrain, sl 1 I b4.Rivers, sl 1 I b4.Roads]]⟩]⟩
abbrev Qs_mEdges := Nx X 69 0 Ks_mEdges Zs_mEdges RB (fun _ => [])
theorem ns_mEdges : ∀ s o, Bs_mEdges s = some o → Qs_mEdges (Ks_mEdges s) (Zs_mEdges s) o
  | .h1 l0 t1 t2 t3 b4, o, H =>
    eIf H (fun h1 H =>
      eCk H fun h2 H =>
      eBind H fun x3 hx3 H =>
      eBind H fun r4 hr4 H =>
      eBind H fun r5 hr5 H =>
      gN [rg [hT 0], rg [hE 1 (I x3)]] (by kernel_rfl) (P2 ((decide (t3 < t2)) = true) (decide_eq_true h1) <| P1 h2 <| P1 (int_lt_of_at h2 hx3) <| P1 (at_map I hx3) <| P0) <|
      eIf H (fun h6 H =>
        eBind H fun r7 hr7 H =>
        eIf H (fun h8 H =>
          eN H <| gE func69 [rg [hC 2 true [] (RI r4) [], { i := 5, call := some { cl := true, auto := true, ins := [], res := (RB r5), G' := [] }, dec := some true }, hC 13 true [] (RI r7) [], hT 14], r0] (by kernel_rfl) (P1 (cs_mSize hr4) <| P1 (cs_l1In hr5) <| P2 (r5 = true) (h6) <| P2 (¬ (3 : Int) = 0) (by decide) <| P2 (¬ (3 : Int) = 0) (by decide) <| P1 (cs_mNext hr7) <| P2 ((decide (r7 < 0)) = true) (decide_eq_true h8) <| P0))
        (fun h8 H =>
          eN H fun r hn => gO [rg [hC 2 true [] (RI r4) [], { i := 5, call := some { cl := true, auto := true, ins := [], res := (RB r5), G' := [] }, dec := some true }, hC 13 true [] (RI r7) [], hF 14], r0, .canon [0] [1, 2, 7, 8, 9]] (by kernel_rfl) (P1 (cs_mSize hr4) <| P1 (cs_l1In hr5) <| P2 (r5 = true) (h6) <| P2 (¬ (3 : Int) = 0) (by decide) <| P2 (¬ (3 : Int) = 0) (by decide) <| P1 (cs_mNext hr7) <| P2 ((decide (r7 < 0)) = false) (decide_eq_false h8) <| P0) hn))
      (fun h6 H =>
        eN H <| gE func69 [rg [hC 2 true [] (RI r4) [], { i := 5, call := some { cl := true, auto := true, ins := [], res := (RB r5), G' := [] }, dec := some false }], r0] (by kernel_rfl) (P1 (cs_mSize hr4) <| P1 (cs_l1In hr5) <| P2 (r5 = false) (eqF h6) <| P0)))
    (fun h1 H =>
      eBind H fun r2 hr2 H =>
      eBind H fun r3 hr3 H =>
      eN H <| gE func69 [rg [hF 0], rg [hC 2 true [] (RI r2) [], hC 5 true [] (RB r3) []]] (by kernel_rfl) (P2 ((decide (t3 < t2)) = false) (decide_eq_false h1) <| P1 (cs_mSize hr2) <| P1 (cs_l1Rising hr3) <| P0))
theorem ws_mEdges : ∀ s r, loop Bs_mEdges s = some r → Wc X 69 0 (Ks_mEdges s) (Zs_mEdges s) (RB r) ((fun _ => []) r) := Nx.all (ns_mEdges)
theorem cs_mEdges {a0 : Gi_Map} {a1 : (List Int)} {r : Bool} (H : Ds_mEdges a0 a1 = some r) : Ct X.P X.gl 69 [.agg [I a0.Width, I a0.Height, sl 1 I a0.Terrain, sl 1 I a0.Rivers, sl 1 I a0.Roads], sl 1 I a1] [] (RB r) [] :=
  Ct.of func69 (c := bdy f69) (by kernel_rfl) (by kernel_rfl) <|
  gO [r0, r0, .canon [0] [1, 2, 7, 8, 9]] (by kernel_rfl) P0 (ws_mEdges _ _ H)
/-! loop example/g00886/spec mGood -/
theorem cs_mGood {a0 : Gi_Map} {r : Bool} (H : Ds_mGood a0 = some r) : Ct X.P X.gl 56 [.agg [I a0.Width, I a0.Height, sl 1 I a0.Terrain, sl 1 I a0.Rivers, sl 1 I a0.Roads]] [] (RB r) [] :=
  Ct.of func56 (c := bdy f56) (by kernel_rfl) (by kernel_rfl) <|
  eBind H fun r1 hr1 H =>
  gS [r0] (by kernel_rfl) P0 <|
  eIf H (fun h2 H =>
    eBind H fun r3 hr3 H =>
    eIf H (fun h4 H =>
      eBind H fun r5 hr5 H =>
      eIf H (fun h6 H =>
        eBind H fun r7 hr7 H =>
        eIf H (fun h8 H =>
          eBind H fun r9 hr9 H =>
          eIf H (fun h10 H =>
            eBind H fun r11 hr11 H =>
            eW RB (fun _ => []) H <| gE func56 [rg [{ i := 2, call := some { cl := true, auto := true, ins := [], res := (RB r1), G' := [] }, dec := some true }, { i := 6, call := some { cl := true, auto := true, ins := [], res := (RB r3), G' := [] }, dec := some true }, hC 13 true [] (RI r5) [], hT 14, { i := 19, call := some { cl := true, auto := true, ins := [], res := (RB r7), G' := [] }, dec := some true }, { i := 25, call := some { cl := true, auto := true, ins := [], res := (RB r9), G' := [] }, dec := some true }, hC 31 true [] (RB r11) []]] (by kernel_rfl) (P1 (cs_l1In hr1) <| P2 (r1 = true) (h2) <| P1 (cs_l1In hr3) <| P2 (r3 = true) (h4) <| P1 (cs_mSize hr5) <| P2 (((((a0.Terrain.length : Nat) : Int) : Int) == r5) = true) (beqT h6) <| P1 (cs_l1All hr7) <| P2 (r7 = true) (h8) <| P1 (cs_mEdges hr9) <| P2 (r9 = true) (h10) <| P1 (cs_mEdges hr11) <| P0))
          (fun h10 H =>
            eW RB (fun _ => []) H <| gE func56 [rg [{ i := 2, call := some { cl := true, auto := true, ins := [], res := (RB r1), G' := [] }, dec := some true }, { i := 6, call := some { cl := true, auto := true, ins := [], res := (RB r3), G' := [] }, dec := some true }, hC 13 true [] (RI r5) [], hT 14, { i := 19, call := some { cl := true, auto := true, ins := [], res := (RB r7), G' := [] }, dec := some true }, { i := 25, call := some { cl := true, auto := true, ins := [], res := (RB r9), G' := [] }, dec := some false }]] (by kernel_rfl) (P1 (cs_l1In hr1) <| P2 (r1 = true) (h2) <| P1 (cs_l1In hr3) <| P2 (r3 = true) (h4) <| P1 (cs_mSize hr5) <| P2 (((((a0.Terrain.length : Nat) : Int) : Int) == r5) = true) (beqT h6) <| P1 (cs_l1All hr7) <| P2 (r7 = true) (h8) <| P1 (cs_mEdges hr9) <| P2 (r9 = false) (eqF h10) <| P0)))
        (fun h8 H =>
          eW RB (fun _ => []) H <| gE func56 [rg [{ i := 2, call := some { cl := true, auto := true, ins := [], res := (RB r1), G' := [] }, dec := some true }, { i := 6, call := some { cl := true, auto := true, ins := [], res := (RB r3), G' := [] }, dec := some true }, hC 13 true [] (RI r5) [], hT 14, { i := 19, call := some { cl := true, auto := true, ins := [], res := (RB r7), G' := [] }, dec := some false }]] (by kernel_rfl) (P1 (cs_l1In hr1) <| P2 (r1 = true) (h2) <| P1 (cs_l1In hr3) <| P2 (r3 = true) (h4) <| P1 (cs_mSize hr5) <| P2 (((((a0.Terrain.length : Nat) : Int) : Int) == r5) = true) (beqT h6) <| P1 (cs_l1All hr7) <| P2 (r7 = false) (eqF h8) <| P0)))
      (fun h6 H =>
        eW RB (fun _ => []) H <| gE func56 [rg [{ i := 2, call := some { cl := true, auto := true, ins := [], res := (RB r1), G' := [] }, dec := some true }, { i := 6, call := some { cl := true, auto := true, ins := [], res := (RB r3), G' := [] }, dec := some true }, hC 13 true [] (RI r5) [], hF 14]] (by kernel_rfl) (P1 (cs_l1In hr1) <| P2 (r1 = true) (h2) <| P1 (cs_l1In hr3) <| P2 (r3 = true) (h4) <| P1 (cs_mSize hr5) <| P2 (((((a0.Terrain.length : Nat) : Int) : Int) == r5) = false) (beqF h6) <| P0)))
    (fun h4 H =>
      eW RB (fun _ => []) H <| gE func56 [rg [{ i := 2, call := some { cl := true, auto := true, ins := [], res := (RB r1), G' := [] }, dec := some true }, { i := 6, call := some { cl := true, auto := true, ins := [], res := (RB r3), G' := [] }, dec := some false }]] (by kernel_rfl) (P1 (cs_l1In hr1) <| P2 (r1 = true) (h2) <| P1 (cs_l1In hr3) <| P2 (r3 = false) (eqF h4) <| P0)))
  (fun h2 H =>
    eW RB (fun _ => []) H <| gE func56 [rg [{ i := 2, call := some { cl := true, auto := true, ins := [], res := (RB r1), G' := [] }, dec := some false }]] (by kernel_rfl) (P1 (cs_l1In hr1) <| P2 (r1 = false) (eqF h2) <| P0))
/-! loop example/g00886/spec bGood -/
theorem cs_bGood {a0 : Gi_Board} {r : Bool} (H : Ds_bGood a0 = some r) : Ct X.P X.gl 40 [.agg [sl 5 gi_Terrain a0.Rules.Terrains, sl 6 gi_Kind a0.Rules.Kinds, I a0.Rules.Stack, I a0.Rules.River, I a0.Rules.Road, I a0.Rules.Supply, I a0.Rules.Turns, I a0.Map.Width, I a0.Map.Height, sl 1 I a0.Map.Terrain, sl 1 I a0.Map.Rivers, sl 1 I a0.Map.Roads]] [] (RB r) [] :=
  Ct.of func40 (c := bdy f40) (by kernel_rfl) (by kernel_rfl) <|
  eBind H fun r1 hr1 H =>
  gS [r0] (by kernel_rfl) P0 <|
  eIf H (fun h2 H =>
    eBind H fun r3 hr3 H =>
    eIf H (fun h4 H =>
      eBind H fun r5 hr5 H =>
      eW RB (fun _ => []) H <| gE func40 [rg [{ i := 2, call := some { cl := true, auto := true, ins := [], res := (RB r1), G' := [] }, dec := some true }, { i := 6, call := some { cl := true, auto := true, ins := [], res := (RB r3), G' := [] }, dec := some true }, hC 17 true [] (RB r5) []]] (by kernel_rfl) (P1 (cs_rGood hr1) <| P2 (r1 = true) (h2) <| P1 (cs_mGood hr3) <| P2 (r3 = true) (h4) <| P1 (cs_l1All hr5) <| P0))
    (fun h4 H =>
      eW RB (fun _ => []) H <| gE func40 [rg [{ i := 2, call := some { cl := true, auto := true, ins := [], res := (RB r1), G' := [] }, dec := some true }, { i := 6, call := some { cl := true, auto := true, ins := [], res := (RB r3), G' := [] }, dec := some false }]] (by kernel_rfl) (P1 (cs_rGood hr1) <| P2 (r1 = true) (h2) <| P1 (cs_mGood hr3) <| P2 (r3 = false) (eqF h4) <| P0)))
  (fun h2 H =>
    eW RB (fun _ => []) H <| gE func40 [rg [{ i := 2, call := some { cl := true, auto := true, ins := [], res := (RB r1), G' := [] }, dec := some false }]] (by kernel_rfl) (P1 (cs_rGood hr1) <| P2 (r1 = false) (eqF h2) <| P0))
/-! loop example/g00886/spec l1Most -/
theorem cs_l1Most {a0 : Int} {a1 : Int} {r : Int} (H : Ds_l1Most a0 a1 = some r) : Ct X.P X.gl 42 [I a0, I a1] [] (RI r) [] :=
  Ct.of func42 (c := bdy f42) (by kernel_rfl) (by kernel_rfl) <|
  gS [r0] (by kernel_rfl) P0 <|
  eIf H (fun h1 H =>
    eW RI (fun _ => []) H <| gE func42 [rg [hT 2], r0] (by kernel_rfl) (P2 ((decide (a0 > a1)) = true) (decide_eq_true h1) <| P0))
  (fun h1 H =>
    eW RI (fun _ => []) H <| gE func42 [rg [hF 2], r0] (by kernel_rfl) (P2 ((decide (a0 > a1)) = false) (decide_eq_false h1) <| P0))
/-!   loop example/g00886/spec l1Cur  place -/
def Rs_l1Cur_place (r : Int × Gs_l1Cur) : List D := [I r.1]
def Ns_l1Cur_place (r : Int × Gs_l1Cur) : List Root := [⟨false, true, 3, 1, [.agg [sl 1 (D.int .u8) r.2.code, I r.2.at_, .int .u64 r.2.seed]]⟩]
theorem cs_l1Cur_place {a0 : Gs_l1Cur} {a1 : Gi_Map} {r : Int × Gs_l1Cur} (H : Ds_l1Cur_place a0 a1 = some r) : Ct X.P X.gl 41 [.ptr 0 3 0 0, .agg [I a1.Width, I a1.Height, sl 1 I a1.Terrain, sl 1 I a1.Rivers, sl 1 I a1.Roads]] [⟨false, true, 3, 1, [.agg [sl 1 (D.int .u8) a0.code, I a0.at_, .int .u64 a0.seed]]⟩] (Rs_l1Cur_place r) (Ns_l1Cur_place r) :=
  Ct.of func41 (c := bdy f41) (by kernel_rfl) (by kernel_rfl) <|
  eBind H fun r1 hr1 H =>
  gS [r0] (by kernel_rfl) P0 <|
  eIf H (fun h2 H =>
    eBind H fun r3 hr3 H =>
    eBind H fun r4 hr4 H =>
    eW Rs_l1Cur_place Ns_l1Cur_place H <| gE func41 [rg [{ i := 1, call := some { cl := true, auto := true, ins := [0], res := (Rs_l1Cur_one r1), G' := (Ns_l1Cur_one r1) }, dec := some true }], rg [hC 2 true [] (RI r3) [], { i := 4, frz := [2], call := some { cl := true, auto := true, ins := [0], res := (Rs_l1Cur_among r4), G' := (Ns_l1Cur_among r4) } }]] (by kernel_rfl) (PI (1 : Nat) <| P1 (cs_l1Cur_one hr1) <| P2 (r1.1 = true) (h2) <| P1 (cs_mSize hr3) <| PI (1 : Nat) <| P1 (cs_l1Cur_among hr4) <| P0))
  (fun h2 H =>
    eBind H fun r3 hr3 H =>
    eBind H fun r4 hr4 H =>
    eBind H fun r5 hr5 H =>
    eW Rs_l1Cur_place Ns_l1Cur_place H <| gE func41 [rg [{ i := 1, call := some { cl := true, auto := true, ins := [0], res := (Rs_l1Cur_one r1), G' := (Ns_l1Cur_one r1) }, dec := some false }], rg [hC 2 true [] (RI r3) [], hC 3 true [] (RI r4) [], hC 4 true [0] (Rs_l1Cur_pick r5) (Ns_l1Cur_pick r5)]] (by kernel_rfl) (PI (1 : Nat) <| P1 (cs_l1Cur_one hr1) <| P2 (r1.1 = false) (eqF h2) <| P1 (cs_mSize hr3) <| P1 (cs_l1Most hr4) <| PI (1 : Nat) <| P1 (cs_l1Cur_pick hr5) <| P0))
/-!   loop example/g00886/spec l1Cur  works -/
def Rs_l1Cur_works (r : Gi_Works × Gs_l1Cur) : List D := [.agg [I r.1.Side, I r.1.At, I r.1.Points, ow 1 I r.1.Queue]]
def Ns_l1Cur_works (r : Gi_Works × Gs_l1Cur) : List Root := [⟨false, true, 3, 1, [.agg [sl 1 (D.int .u8) r.2.code, I r.2.at_, .int .u64 r.2.seed]]⟩]
noncomputable def Ks_l1Cur_works : Ss_l1Cur_works → List Item
  | .h1 .. => nav 300 5 [false] [.code (bdy f17)]
  | .h2 .. => nav 300 8 [false, true] [.code (bdy f17)]
  | .h3 .. => nav 300 11 [false, false, false, false, false, true] [.code (bdy f17)]
  | .h4 .. => nav 300 14 [false, true, false, false, false, false, true] [.code (bdy f17)]
def Zs_l1Cur_works : Ss_l1Cur_works → St
  | .h1 k0 b1 b2 b3 b4 b5 b6 b7 b8 => ⟨sts 78 [(0, .ptr 0 3 0 0), (3, .ptr 1 12 0 0), (4, .ptr 2 4 0 0), (5, .ptr 3 4 0 0), (6, I k0)], [some ⟨false, true, 3, 1, [.agg [sl 1 (D.int .u8) b1.code, I b1.at_, .int .u64 b1.seed]]⟩, some ⟨false, true, 12, 1, [.agg [sl 5 gi_Terrain b2.Rules.Terrains, sl 6 gi_Kind b2.Rules.Kinds, I b2.Rules.Stack, I b2.Rules.River, I b2.Rules.Road, I b2.Rules.Supply, I b2.Rules.Turns, I b2.Map.Width, I b2.Map.Height, sl 1 I b2.Map.Terrain, sl 1 I b2.Map.Rivers, sl 1 I b2.Map.Roads]]⟩, some ⟨false, true, 4, 1, [.agg [I b3, I b4, I b5, .nil]]⟩, some ⟨false, true, 4, 1, [.agg [I b6, I b7, I b8, .nil]]⟩]⟩
  | .h2 k0 b1 b2 b3 b4 b5 b6 b7 b8 l9 => ⟨sts 78 [(0, .ptr 0 3 0 0), (3, .ptr 1 12 0 0), (4, .ptr 2 4 0 0), (5, .ptr 3 4 0 0), (6, I k0)], [some ⟨false, true, 3, 1, [.agg [sl 1 (D.int .u8) b1.code, I b1.at_, .int .u64 b1.seed]]⟩, some ⟨false, true, 12, 1, [.agg [sl 5 gi_Terrain b2.Rules.Terrains, sl 6 gi_Kind b2.Rules.Kinds, I b2.Rules.Stack, I b2.Rules.River, I b2.Rules.Road, I b2.Rules.Supply, I b2.Rules.Turns, I b2.Map.Width, I b2.Map.Height, sl 1 I b2.Map.Terrain, sl 1 I b2.Map.Rivers, sl 1 I b2.Map.Roads]]⟩, some ⟨false, true, 4, 1, [.agg [I b3, I b4, I b5, .nil]]⟩, some ⟨false, true, 4, 1, [.agg [I b6, I b7, I b8, .ref 4 1 none]]⟩, some ⟨false, false, 1, l9.length, List.map I l9⟩]⟩
  | .h3 b0 b1 b2 b3 b4 b5 b6 => ⟨sts 78 [(0, .ptr 0 3 0 0), (4, .ptr 1 4 0 0), (5, .ptr 2 4 0 0)], [some ⟨false, true, 3, 1, [.agg [sl 1 (D.int .u8) b0.code, I b0.at_, .int .u64 b0.seed]]⟩, some ⟨false, true, 4, 1, [.agg [I b1, I b2, I b3, .nil]]⟩, some ⟨false, true, 4, 1, [.agg [I b4, I b5, I b6, .nil]]⟩]⟩
  | .h4 b0 b1 b2 b3 b4 b5 b6 l7 => ⟨sts 78 [(0, .ptr 0 3 0 0), (4, .ptr 1 4 0 0), (5, .ptr 2 4 0 0)], [some ⟨false, true, 3, 1, [.agg [sl 1 (D.int .u8) b0.code, I b0.at_, .int .u64 b0.seed]]⟩, some ⟨false, true, 4, 1, [.agg [I b1, I b2, I b3, .nil]]⟩, some ⟨false, true, 4, 1, [.agg [I b4, I b5, I b6, .ref 3 1 none]]⟩, some ⟨false, false, 1, l7.length, List.map I l7⟩]⟩
abbrev Qs_l1Cur_works := Nx X 17 1 Ks_l1Cur_works Zs_l1Cur_works Rs_l1Cur_works Ns_l1Cur_works
theorem ns_l1Cur_works : ∀ s o, Bs_l1Cur_works s = some o → Qs_l1Cur_works (Ks_l1Cur_works s) (Zs_l1Cur_works s) o
  | .h1 k0 b1 b2 b3 b4 b5 b6 b7 b8, o, H =>
    eIf H (fun h1 H =>
      eBind H fun r2 hr2 H =>
      eCk H fun h3 H =>
      eN H fun r hn => gO [rg [hT 1], rg [hC 7 true [0] (Rs_l1Cur_pick r2) (Ns_l1Cur_pick r2), hA 9 ([r2.1].length) (List.map I [r2.1])], r0, .canon [0, 1, 2, 3, 5] [0, 3, 4, 5, 6]] (by kernel_rfl) (P2 ((decide (k0 > 0)) = true) (decide_eq_true h1) <| PI (1 : Nat) <| P1 (cs_l1Cur_pick hr2) <| P2 ([r2.1].length = 0 + [r2.1].length) (by simp <;> omega) <| P2 ((0 + [r2.1].length) * 8 ≤ 70368744177664) (by have := h3; simp at this ⊢ <;> omega) <| P2 (([] : List D) ++ List.map I [r2.1] = List.map I [r2.1]) (by simp) <| P0) hn)
    (fun h1 H =>
      eBind H fun r2 hr2 H =>
      gN [rg [hF 1], rg [hC 1 true [0] (Rs_l1Cur_pick r2) (Ns_l1Cur_pick r2)]] (by kernel_rfl) (P2 ((decide (k0 > 0)) = false) (decide_eq_false h1) <| PI (1 : Nat) <| P1 (cs_l1Cur_pick hr2) <| P0) <|
      eIf H (fun h3 H =>
        eBind H fun r4 hr4 H =>
        eN H <| gE func17 [rg [hT 0], rg [{ i := 2, frz := [4], call := some { cl := true, auto := true, ins := [0], res := (Rs_l1Cur_among r4), G' := (Ns_l1Cur_among r4) } }], r0] (by kernel_rfl) (P2 (((r2.1 : Int) == 0) = true) (beqT h3) <| PI (1 : Nat) <| P1 (cs_l1Cur_among hr4) <| P0))
      (fun h3 H =>
        gN [rg [hF 0]] (by kernel_rfl) (P2 (((r2.1 : Int) == 0) = false) (beqF h3) <| P0) <|
        eIf H (fun h4 H =>
          eBind H fun r5 hr5 H =>
          eN H <| gE func17 [rg [hT 0], rg [{ i := 2, frz := [4], call := some { cl := true, auto := true, ins := [0], res := (Rs_l1Cur_among r5), G' := (Ns_l1Cur_among r5) } }], r0] (by kernel_rfl) (P2 (((r2.1 : Int) == 1) = true) (beqT h4) <| PI (1 : Nat) <| P1 (cs_l1Cur_among hr5) <| P0))
        (fun h4 H =>
          gN [rg [hF 0]] (by kernel_rfl) (P2 (((r2.1 : Int) == 1) = false) (beqF h4) <| P0) <|
          eIf H (fun h5 H =>
            eBind H fun r6 hr6 H =>
            eCk H fun h7 H =>
            eN H <| gE func17 [rg [hT 0], rg [{ i := 4, frz := [4], call := some { cl := true, auto := true, ins := [0], res := (Rs_l1Cur_among r6), G' := (Ns_l1Cur_among r6) } }, hA 6 ([r6.1].length) (List.map I [r6.1])], r0] (by kernel_rfl) (P2 (((r2.1 : Int) == 2) = true) (beqT h5) <| PI (1 : Nat) <| P1 (cs_l1Cur_among hr6) <| P2 ([r6.1].length = 0 + [r6.1].length) (by simp <;> omega) <| P2 ((0 + [r6.1].length) * 8 ≤ 70368744177664) (by have := h7; simp at this ⊢ <;> omega) <| P2 (([] : List D) ++ List.map I [r6.1] = List.map I [r6.1]) (by simp) <| P0))
          (fun h5 H =>
            gN [rg [hF 0]] (by kernel_rfl) (P2 (((r2.1 : Int) == 2) = false) (beqF h5) <| P0) <|
            eIf H (fun h6 H =>
              eN H fun r hn => gO [rg [hT 0], .canon [0, 2, 3] [0, 4, 5]] (by kernel_rfl) (P2 (((r2.1 : Int) == 3) = true) (beqT h6) <| P0) hn)
            (fun h6 H =>
              eN H <| gE func17 [rg [hF 0], r0] (by kernel_rfl) (P2 (((r2.1 : Int) == 3) = false) (beqF h6) <| P0))))))
  | .h2 k0 b1 b2 b3 b4 b5 b6 b7 b8 l9, o, H =>
    eIf H (fun h1 H =>
      eBind H fun r2 hr2 H =>
      eCk H fun h3 H =>
      eN H fun r hn => gO [rg [hT 1], rg [hC 7 true [0] (Rs_l1Cur_pick r2) (Ns_l1Cur_pick r2), hA 9 ((l9 ++ [r2.1]).length) (List.map I (l9 ++ [r2.1]))], r0, .canon [0, 1, 2, 3, 6] [0, 3, 4, 5, 6]] (by kernel_rfl) (P2 ((decide (k0 > 0)) = true) (decide_eq_true h1) <| PI (1 : Nat) <| P1 (cs_l1Cur_pick hr2) <| P1 (apL l9 [r2.1]) <| P1 (apB h3) <| P1 (apM I l9 [r2.1]) <| P0) hn)
    (fun h1 H =>
      eBind H fun r2 hr2 H =>
      gN [rg [hF 1], rg [hC 1 true [0] (Rs_l1Cur_pick r2) (Ns_l1Cur_pick r2)]] (by kernel_rfl) (P2 ((decide (k0 > 0)) = false) (decide_eq_false h1) <| PI (1 : Nat) <| P1 (cs_l1Cur_pick hr2) <| P0) <|
      eIf H (fun h3 H =>
        eBind H fun r4 hr4 H =>
        eN H <| gE func17 [rg [hT 0], rg [{ i := 2, frz := [5], call := some { cl := true, auto := true, ins := [0], res := (Rs_l1Cur_among r4), G' := (Ns_l1Cur_among r4) } }], r0] (by kernel_rfl) (P2 (((r2.1 : Int) == 0) = true) (beqT h3) <| PI (1 : Nat) <| P1 (cs_l1Cur_among hr4) <| P0))
      (fun h3 H =>
        gN [rg [hF 0]] (by kernel_rfl) (P2 (((r2.1 : Int) == 0) = false) (beqF h3) <| P0) <|
        eIf H (fun h4 H =>
          eBind H fun r5 hr5 H =>
          eN H <| gE func17 [rg [hT 0], rg [{ i := 2, frz := [5], call := some { cl := true, auto := true, ins := [0], res := (Rs_l1Cur_among r5), G' := (Ns_l1Cur_among r5) } }], r0] (by kernel_rfl) (P2 (((r2.1 : Int) == 1) = true) (beqT h4) <| PI (1 : Nat) <| P1 (cs_l1Cur_among hr5) <| P0))
        (fun h4 H =>
          gN [rg [hF 0]] (by kernel_rfl) (P2 (((r2.1 : Int) == 1) = false) (beqF h4) <| P0) <|
          eIf H (fun h5 H =>
            eBind H fun r6 hr6 H =>
            eCk H fun h7 H =>
            eN H <| gE func17 [rg [hT 0], rg [{ i := 4, frz := [5], call := some { cl := true, auto := true, ins := [0], res := (Rs_l1Cur_among r6), G' := (Ns_l1Cur_among r6) } }, hA 6 ((l9 ++ [r6.1]).length) (List.map I (l9 ++ [r6.1]))], r0] (by kernel_rfl) (P2 (((r2.1 : Int) == 2) = true) (beqT h5) <| PI (1 : Nat) <| P1 (cs_l1Cur_among hr6) <| P1 (apL l9 [r6.1]) <| P1 (apB h7) <| P1 (apM I l9 [r6.1]) <| P0))
          (fun h5 H =>
            gN [rg [hF 0]] (by kernel_rfl) (P2 (((r2.1 : Int) == 2) = false) (beqF h5) <| P0) <|
            eIf H (fun h6 H =>
              eN H fun r hn => gO [rg [hT 0], .canon [0, 2, 3, 4] [0, 4, 5]] (by kernel_rfl) (P2 (((r2.1 : Int) == 3) = true) (beqT h6) <| P0) hn)
            (fun h6 H =>
              eN H <| gE func17 [rg [hF 0], r0] (by kernel_rfl) (P2 (((r2.1 : Int) == 3) = false) (beqF h6) <| P0))))))
  | .h3 b0 b1 b2 b3 b4 b5 b6, o, H =>
    eBind H fun r1 hr1 H =>
    eIf H (fun h2 H =>
      eCk H fun h3 H =>
      eN H fun r hn => gO [rg [hC 4 true [0] (Rs_l1Cur_pick r1) (Ns_l1Cur_pick r1), hT 6], rg [hA 3 ([0].length) (List.map I [0])], .canon [0, 1, 2, 4] [0, 4, 5]] (by kernel_rfl) (PI (1 : Nat) <| P1 (cs_l1Cur_pick hr1) <| P2 ((decide (0 < (IntKind.wrap .i64 (8 + r1.1)))) = true) (decide_eq_true h2) <| P2 ([0].length = 0 + [0].length) (by simp <;> omega) <| P2 ((0 + [0].length) * 8 ≤ 70368744177664) (by have := h3; simp at this ⊢ <;> omega) <| P2 (([] : List D) ++ List.map I [0] = List.map I [0]) (by simp) <| P0) hn)
    (fun h2 H =>
      eN H <| gE func17 [rg [hC 4 true [0] (Rs_l1Cur_pick r1) (Ns_l1Cur_pick r1), hF 6], r0] (by kernel_rfl) (PI (1 : Nat) <| P1 (cs_l1Cur_pick hr1) <| P2 ((decide (0 < (IntKind.wrap .i64 (8 + r1.1)))) = false) (decide_eq_false h2) <| P0))
  | .h4 b0 b1 b2 b3 b4 b5 b6 l7, o, H =>
    eBind H fun r1 hr1 H =>
    eIf H (fun h2 H =>
      eCk H fun h3 H =>
      eN H fun r hn => gO [rg [hC 4 true [0] (Rs_l1Cur_pick r1) (Ns_l1Cur_pick r1), hT 6], rg [hA 3 ((l7 ++ [0]).length) (List.map I (l7 ++ [0]))], .canon [0, 1, 2, 5] [0, 4, 5]] (by kernel_rfl) (PI (1 : Nat) <| P1 (cs_l1Cur_pick hr1) <| P2 ((decide (((l7.length : Nat) : Int) < (IntKind.wrap .i64 (8 + r1.1)))) = true) (decide_eq_true h2) <| P1 (apL l7 [0]) <| P1 (apB h3) <| P1 (apM I l7 [0]) <| P0) hn)
    (fun h2 H =>
      eN H <| gE func17 [rg [hC 4 true [0] (Rs_l1Cur_pick r1) (Ns_l1Cur_pick r1), hF 6], r0] (by kernel_rfl) (PI (1 : Nat) <| P1 (cs_l1Cur_pick hr1) <| P2 ((decide (((l7.length : Nat) : Int) < (IntKind.wrap .i64 (8 + r1.1)))) = false) (decide_eq_false h2) <| P0))
theorem ws_l1Cur_works : ∀ s r, loop Bs_l1Cur_works s = some r → Wc X 17 1 (Ks_l1Cur_works s) (Zs_l1Cur_works s) (Rs_l1Cur_works r) (Ns_l1Cur_works r) := Nx.all (ns_l1Cur_works)
theorem cs_l1Cur_works {a0 : Gs_l1Cur} {a1 : Gi_Board} {r : Gi_Works × Gs_l1Cur} (H : Ds_l1Cur_works a0 a1 = some r) : Ct X.P X.gl 17 [.ptr 0 3 0 0, .agg [sl 5 gi_Terrain a1.Rules.Terrains, sl 6 gi_Kind a1.Rules.Kinds, I a1.Rules.Stack, I a1.Rules.River, I a1.Rules.Road, I a1.Rules.Supply, I a1.Rules.Turns, I a1.Map.Width, I a1.Map.Height, sl 1 I a1.Map.Terrain, sl 1 I a1.Map.Rivers, sl 1 I a1.Map.Roads]] [⟨false, true, 3, 1, [.agg [sl 1 (D.int .u8) a0.code, I a0.at_, .int .u64 a0.seed]]⟩] (Rs_l1Cur_works r) (Ns_l1Cur_works r) :=
  Ct.of func17 (c := bdy f17) (by kernel_rfl) (by kernel_rfl) <|
  eBind H fun r1 hr1 H =>
  eBind H fun r2 hr2 H =>
  eBind H fun r3 hr3 H =>
  gS [r0, rg [hC 1 true [0] (Rs_l1Cur_pick r1) (Ns_l1Cur_pick r1), { i := 4, frz := [3], call := some { cl := true, auto := true, ins := [0], res := (Rs_l1Cur_among r2), G' := (Ns_l1Cur_among r2) } }]] (by kernel_rfl) (PI (1 : Nat) <| P1 (cs_l1Cur_pick hr1) <| PI (1 : Nat) <| P1 (cs_l1Cur_among hr2) <| P0) <|
  eIf H (fun h4 H =>
    eBind H fun r5 hr5 H =>
    eBind H fun r6 hr6 H =>
    gO [rg [{ i := 1, call := some { cl := true, auto := true, ins := [], res := (RB r3), G' := [] }, dec := some true }], rg [hC 3 true [0] (Rs_l1Cur_place r5) (Ns_l1Cur_place r5)], rg [hC 1 true [0] (Rs_l1Cur_pick r6) (Ns_l1Cur_pick r6)], .canon [0, 1, 2, 4] [0, 3, 4, 5, 6]] (by kernel_rfl) (P1 (cs_bGood hr3) <| P2 (r3 = true) (h4) <| PI (1 : Nat) <| P1 (cs_l1Cur_place hr5) <| PI (1 : Nat) <| P1 (cs_l1Cur_pick hr6) <| P0) (ws_l1Cur_works _ _ H))
  (fun h4 H =>
    eW Rs_l1Cur_works Ns_l1Cur_works H <| gE func17 [rg [{ i := 1, call := some { cl := true, auto := true, ins := [], res := (RB r3), G' := [] }, dec := some false }], r0] (by kernel_rfl) (P1 (cs_bGood hr3) <| P2 (r3 = false) (eqF h4) <| P0))
/-!   loop example/g00886/spec l1Cur  kindOn -/
def Rs_l1Cur_kindOn (r : Int × Gs_l1Cur) : List D := [I r.1]
def Ns_l1Cur_kindOn (r : Int × Gs_l1Cur) : List Root := [⟨false, true, 3, 1, [.agg [sl 1 (D.int .u8) r.2.code, I r.2.at_, .int .u64 r.2.seed]]⟩]
theorem cs_l1Cur_kindOn {a0 : Gs_l1Cur} {a1 : Gi_Board} {r : Int × Gs_l1Cur} (H : Ds_l1Cur_kindOn a0 a1 = some r) : Ct X.P X.gl 18 [.ptr 0 3 0 0, .agg [sl 5 gi_Terrain a1.Rules.Terrains, sl 6 gi_Kind a1.Rules.Kinds, I a1.Rules.Stack, I a1.Rules.River, I a1.Rules.Road, I a1.Rules.Supply, I a1.Rules.Turns, I a1.Map.Width, I a1.Map.Height, sl 1 I a1.Map.Terrain, sl 1 I a1.Map.Rivers, sl 1 I a1.Map.Roads]] [⟨false, true, 3, 1, [.agg [sl 1 (D.int .u8) a0.code, I a0.at_, .int .u64 a0.seed]]⟩] (Rs_l1Cur_kindOn r) (Ns_l1Cur_kindOn r) :=
  Ct.of func18 (c := bdy f18) (by kernel_rfl) (by kernel_rfl) <|
  eBind H fun r1 hr1 H =>
  eBind H fun r2 hr2 H =>
  eBind H fun r3 hr3 H =>
  eW Rs_l1Cur_kindOn Ns_l1Cur_kindOn H <| gE func18 [r0, rg [hC 5 true [] (RI r1) [], hC 6 true [0] (Rs_l1Cur_pick r2) (Ns_l1Cur_pick r2), hC 8 true [0] (Rs_l1Cur_pick r3) (Ns_l1Cur_pick r3)]] (by kernel_rfl) (P1 (cs_l1Most hr1) <| PI (1 : Nat) <| P1 (cs_l1Cur_pick hr2) <| PI (1 : Nat) <| P1 (cs_l1Cur_pick hr3) <| P2 (¬ (23 : Int) = 0) (by decide) <| P0)
/-! loop example/g00886/spec DrawAppendKind -/
def Rs_DrawAppendKind (r : Gi_Board × Gi_Works × Int) : List D := [.agg [sl 5 gi_Terrain r.1.Rules.Terrains, sl 6 gi_Kind r.1.Rules.Kinds, I r.1.Rules.Stack, I r.1.Rules.River, I r.1.Rules.Road, I r.1.Rules.Supply, I r.1.Rules.Turns, I r.1.Map.Width, I r.1.Map.Height, sl 1 I r.1.Map.Terrain, sl 1 I r.1.Map.Rivers, sl 1 I r.1.Map.Roads], .agg [I r.2.1.Side, I r.2.1.At, I r.2.1.Points, ow 1 I r.2.1.Queue], I r.2.2]
theorem cs_DrawAppendKind {a0 : (List Int)} {r : Gi_Board × Gi_Works × Int} (H : Ds_DrawAppendKind a0 = some r) : Ct X.P X.gl 4 [sl 1 (D.int .u8) a0] [] (Rs_DrawAppendKind r) [] :=
  Ct.of func4 (c := bdy f4) (by kernel_rfl) (by kernel_rfl) <|
  eBind H fun r1 hr1 H =>
  eBind H fun r2 hr2 H =>
  eBind H fun r3 hr3 H =>
  eW Rs_DrawAppendKind (fun _ => []) H <| gE func4 [r0, r0, rg [hC 1 true [2] (Rs_l1Cur_anyBoard r1) (Ns_l1Cur_anyBoard r1)], rg [{ i := 3, frz := [3, 4, 12, 13, 14], call := some { cl := true, ins := [2], args := [.ptr 0 3 0 0, .agg [sl 5 gi_Terrain r1.1.Rules.Terrains, sl 6 gi_Kind r1.1.Rules.Kinds, I r1.1.Rules.Stack, I r1.1.Rules.River, I r1.1.Rules.Road, I r1.1.Rules.Supply, I r1.1.Rules.Turns, I r1.1.Map.Width, I r1.1.Map.Height, sl 1 I r1.1.Map.Terrain, sl 1 I r1.1.Map.Rivers, sl 1 I r1.1.Map.Roads]], res := Rs_l1Cur_works r2, G' := Ns_l1Cur_works r2 }, post := [.er 3 (List.map gi_Terrain r1.1.Rules.Terrains)], xtra := [3] }, hC 6 true [2] (Rs_l1Cur_kindOn r3) (Ns_l1Cur_kindOn r3)]] (by kernel_rfl) (PI (1 : Nat) <| P1 (cs_l1Cur_anyBoard hr1) <| PI (0 : Nat) <| PI (0 : Nat) <| PE ero_79 r1.1.Rules.Terrains <| PL gi_Kind r1.1.Rules.Kinds <| PI (r1.1.Rules.Stack : Int) <| PI (r1.1.Rules.River : Int) <| PI (r1.1.Rules.Road : Int) <| PI (r1.1.Rules.Supply : Int) <| PI (r1.1.Rules.Turns : Int) <| PI (r1.1.Map.Width : Int) <| PI (r1.1.Map.Height : Int) <| PL I r1.1.Map.Terrain <| PL I r1.1.Map.Rivers <| PL I r1.1.Map.Roads <| PI (1 : Nat) <| P1 (cs_l1Cur_works hr2) <| P2 (erL (List.map goi_Terrain r1.1.Rules.Terrains) = erL (List.map gi_Terrain r1.1.Rules.Terrains)) (erL_map2 ero_79 r1.1.Rules.Terrains) <| PI (1 : Nat) <| P1 (cs_l1Cur_kindOn hr3) <| P0)
/-! loop example/g00886/impl inRange -/
theorem ci_inRange {a0 : Int} {a1 : Int} {a2 : Int} {r : Bool} (H : Di_inRange a0 a1 a2 = some r) : Ct X.P X.gl 45 [I a0, I a1, I a2] [] (RB r) [] :=
  Ct.of func45 (c := bdy f45) (by kernel_rfl) (by kernel_rfl) <|
  gS [r0] (by kernel_rfl) P0 <|
  eIf H (fun h1 H =>
    eW RB (fun _ => []) H <| gE func45 [rg [hT 2]] (by kernel_rfl) (P2 ((decide (a1 ≤ a0)) = true) (decide_eq_true h1) <| P0))
  (fun h1 H =>
    eW RB (fun _ => []) H <| gE func45 [rg [hF 2]] (by kernel_rfl) (P2 ((decide (a1 ≤ a0)) = false) (decide_eq_false h1) <| P0))
/-! loop example/g00886/impl isName -/
noncomputable def Ki_isName : Si_isName → List Item
  | .h1 .. => nav 300 2 [] [.code (bdy f81)]
def Zi_isName : Si_isName → St
  | .h1 s0 i1 => ⟨sts 23 [(0, .str s0), (3, I i1)], []⟩
abbrev Qi_isName := Nx X 81 0 Ki_isName Zi_isName RB (fun _ => [])
theorem ni_isName : ∀ s o, Bi_isName s = some o → Qi_isName (Ki_isName s) (Zi_isName s) o
  | .h1 s0 i1, o, H =>
    eIf H (fun h1 H =>
      eCk H fun h2 H =>
      eCk H fun h3 H =>
      gN [rg [hT 3]] (by kernel_rfl) (P2 ((decide (i1 < ((ByteArray.size s0 : Nat) : Int))) = true) (decide_eq_true h1) <| P0) <|
      eIf H (fun h4 H =>
        eN H <| gE func81 [rg [{ i := 2, n := byteAt s0 (Int.toNat i1) }, hT 3], r0] (by kernel_rfl) (P2 ((0 : Int) ≤ i1) h2 <| P2 (i1 < (ByteArray.size s0 : Int)) h3 <| P2 ((s0.data.toList[(Int.toNat i1)]?.map fun b => (b.toNat : Int)) = some ((byteAt s0 (Int.toNat i1) : Nat) : Int)) (byteAt_ok (by omega)) <| P2 ((decide (((byteAt s0 (Int.toNat i1) : Nat) : Int) < 97)) = true) (decide_eq_true h4) <| P0))
      (fun h4 H =>
        eCk H fun h5 H =>
        eCk H fun h6 H =>
        eIf H (fun h7 H =>
          eN H <| gE func81 [rg [{ i := 2, n := byteAt s0 (Int.toNat i1) }, hF 3, { i := 7, n := byteAt s0 (Int.toNat i1) }, hT 8], r0] (by kernel_rfl) (P2 ((0 : Int) ≤ i1) h2 <| P2 (i1 < (ByteArray.size s0 : Int)) h3 <| P2 ((s0.data.toList[(Int.toNat i1)]?.map fun b => (b.toNat : Int)) = some ((byteAt s0 (Int.toNat i1) : Nat) : Int)) (byteAt_ok (by omega)) <| P2 ((decide (((byteAt s0 (Int.toNat i1) : Nat) : Int) < 97)) = false) (decide_eq_false h4) <| P2 ((0 : Int) ≤ i1) h5 <| P2 (i1 < (ByteArray.size s0 : Int)) h6 <| P2 ((s0.data.toList[(Int.toNat i1)]?.map fun b => (b.toNat : Int)) = some ((byteAt s0 (Int.toNat i1) : Nat) : Int)) (byteAt_ok (by omega)) <| P2 ((decide (((byteAt s0 (Int.toNat i1) : Nat) : Int) > 122)) = true) (decide_eq_true h7) <| P0))
        (fun h7 H =>
          eN H fun r hn => gO [rg [{ i := 2, n := byteAt s0 (Int.toNat i1) }, hF 3, { i := 7, n := byteAt s0 (Int.toNat i1) }, hF 8], r0, .canon [] [0, 3]] (by kernel_rfl) (P2 ((0 : Int) ≤ i1) h2 <| P2 (i1 < (ByteArray.size s0 : Int)) h3 <| P2 ((s0.data.toList[(Int.toNat i1)]?.map fun b => (b.toNat : Int)) = some ((byteAt s0 (Int.toNat i1) : Nat) : Int)) (byteAt_ok (by omega)) <| P2 ((decide (((byteAt s0 (Int.toNat i1) : Nat) : Int) < 97)) = false) (decide_eq_false h4) <| P2 ((0 : Int) ≤ i1) h5 <| P2 (i1 < (ByteArray.size s0 : Int)) h6 <| P2 ((s0.data.toList[(Int.toNat i1)]?.map fun b => (b.toNat : Int)) = some ((byteAt s0 (Int.toNat i1) : Nat) : Int)) (byteAt_ok (by omega)) <| P2 ((decide (((byteAt s0 (Int.toNat i1) : Nat) : Int) > 122)) = false) (decide_eq_false h7) <| P0) hn)))
    (fun h1 H =>
      eBind H fun r2 hr2 H =>
      eN H <| gE func81 [rg [hF 3], rg [hC 2 true [] (RB r2) []]] (by kernel_rfl) (P2 ((decide (i1 < ((ByteArray.size s0 : Nat) : Int))) = false) (decide_eq_false h1) <| P1 (ci_inRange hr2) <| P0))
theorem wi_isName : ∀ s r, loop Bi_isName s = some r → Wc X 81 0 (Ki_isName s) (Zi_isName s) (RB r) ((fun _ => []) r) := Nx.all (ni_isName)
theorem ci_isName {a0 : ByteArray} {r : Bool} (H : Di_isName a0 = some r) : Ct X.P X.gl 81 [.str a0] [] (RB r) [] :=
  Ct.of func81 (c := bdy f81) (by kernel_rfl) (by kernel_rfl) <|
  gO [r0, r0, .canon [] [0, 3]] (by kernel_rfl) P0 (wi_isName _ _ H)
/-! loop example/g00886/impl goodTerrain 1 -/
theorem ci_goodTerrain_1 {a0 : Int} {r : Bool} (H : Di_goodTerrain_1 a0 = some r) : Ct X.P X.gl 82 [I a0] [] (RB r) [] :=
  Ct.of func82 (c := bdy f82) (by kernel_rfl) (by kernel_rfl) <|
  eBind H fun r1 hr1 H =>
  eW RB (fun _ => []) H <| gE func82 [r0, rg [hC 1 true [] (RB r1) []]] (by kernel_rfl) (P1 (ci_inRange hr1) <| P0)
/-! slices IndexFunc   int int  -/
noncomputable def Kslices_IndexFunc_int_i_goodTerrain_1 : Sslices_IndexFunc_int_i_goodTerrain_1 → List Item
  | .h1 .. => nav 300 2 [] [.code (bdy f76)]
def Zslices_IndexFunc_int_i_goodTerrain_1 : Sslices_IndexFunc_int_i_goodTerrain_1 → St
  | .h1 s0 t1 t2 => ⟨sts 19 [(0, sl 1 I s0), (1, .fn 82 []), (7, I t1), (8, I t2)], []⟩
abbrev Qslices_IndexFunc_int_i_goodTerrain_1 := Nx X 76 0 Kslices_IndexFunc_int_i_goodTerrain_1 Zslices_IndexFunc_int_i_goodTerrain_1 RI (fun _ => [])
theorem nslices_IndexFunc_int_i_goodTerrain_1 : ∀ s o, Bslices_IndexFunc_int_i_goodTerrain_1 s = some o → Qslices_IndexFunc_int_i_goodTerrain_1 (Kslices_IndexFunc_int_i_goodTerrain_1 s) (Zslices_IndexFunc_int_i_goodTerrain_1 s) o
  | .h1 s0 t1 t2, o, H =>
    eIf H (fun h1 H =>
      eCk H fun h2 H =>
      eBind H fun x3 hx3 H =>
      eBind H fun r4 hr4 H =>
      gN [rg [hT 0], r0] (by kernel_rfl) (P2 ((decide (t2 < t1)) = true) (decide_eq_true h1) <| P0) <|
      eIf H (fun h5 H =>
        eN H <| gE func76 [rg [hE 4 (I x3), { i := 5, call := some { cl := true, auto := true, ins := [], res := (RB r4), G' := [] }, dec := some true }], r0] (by kernel_rfl) (P1 h2 <| P1 (int_lt_of_at h2 hx3) <| P1 (at_map I hx3) <| P1 (ci_goodTerrain_1 hr4) <| P2 (r4 = true) (h5) <| P0))
      (fun h5 H =>
        eN H fun r hn => gO [rg [hE 4 (I x3), { i := 5, call := some { cl := true, auto := true, ins := [], res := (RB r4), G' := [] }, dec := some false }], r0, .canon [] [0, 1, 7, 8]] (by kernel_rfl) (P1 h2 <| P1 (int_lt_of_at h2 hx3) <| P1 (at_map I hx3) <| P1 (ci_goodTerrain_1 hr4) <| P2 (r4 = false) (eqF h5) <| P0) hn))
    (fun h1 H =>
      eN H <| gE func76 [rg [hF 0], r0] (by kernel_rfl) (P2 ((decide (t2 < t1)) = false) (decide_eq_false h1) <| P0))
theorem wslices_IndexFunc_int_i_goodTerrain_1 : ∀ s r, loop Bslices_IndexFunc_int_i_goodTerrain_1 s = some r → Wc X 76 0 (Kslices_IndexFunc_int_i_goodTerrain_1 s) (Zslices_IndexFunc_int_i_goodTerrain_1 s) (RI r) ((fun _ => []) r) := Nx.all (nslices_IndexFunc_int_i_goodTerrain_1)
theorem cslices_IndexFunc_int_i_goodTerrain_1 {a0 : (List Int)} {r : Int} (H : Dslices_IndexFunc_int_i_goodTerrain_1 a0 = some r) : Ct X.P X.gl 76 [sl 1 I a0, .fn 82 []] [] (RI r) [] :=
  Ct.of func76 (c := bdy f76) (by kernel_rfl) (by kernel_rfl) <|
  gO [r0, r0, .canon [] [0, 1, 7, 8]] (by kernel_rfl) P0 (wslices_IndexFunc_int_i_goodTerrain_1 _ _ H)
/-! slices ContainsFunc   int int  -/
theorem cslices_ContainsFunc_int_i_goodTerrain_1 {a0 : (List Int)} {r : Bool} (H : Dslices_ContainsFunc_int_i_goodTerrain_1 a0 = some r) : Ct X.P X.gl 60 [sl 1 I a0, .fn 82 []] [] (RB r) [] :=
  Ct.of func60 (c := bdy f60) (by kernel_rfl) (by kernel_rfl) <|
  eBind H fun r1 hr1 H =>
  eW RB (fun _ => []) H <| gE func60 [r0, rg [hC 2 true [] (RI r1) []]] (by kernel_rfl) (P1 (cslices_IndexFunc_int_i_goodTerrain_1 hr1) <| P0)
/-! loop example/g00886/impl goodTerrain -/
theorem ci_goodTerrain {a0 : Gi_Terrain} {a1 : Int} {r : Bool} (H : Di_goodTerrain a0 a1 = some r) : Ct X.P X.gl 70 [.agg [.str a0.Name, sl 1 I a0.Cost, I a0.Shift, I a0.Height, .bool a0.Blocks], I a1] [] (RB r) [] :=
  Ct.of func70 (c := bdy f70) (by kernel_rfl) (by kernel_rfl) <|
  eBind H fun r1 hr1 H =>
  gS [r0] (by kernel_rfl) P0 <|
  eIf H (fun h2 H =>
    eIf H (fun h3 H =>
      eBind H fun r4 hr4 H =>
      eIf H (fun h5 H =>
        eBind H fun r6 hr6 H =>
        eIf H (fun h7 H =>
          eBind H fun r8 hr8 H =>
          eW RB (fun _ => []) H <| gE func70 [rg [{ i := 2, call := some { cl := true, auto := true, ins := [], res := (RB r1), G' := [] }, dec := some true }, hF 9, { i := 14, call := some { cl := true, auto := true, ins := [], res := (RB r4), G' := [] }, dec := some true }, { i := 20, call := some { cl := true, auto := true, ins := [], res := (RB r6), G' := [] }, dec := some true }], rg [hC 2 true [] (RB r8) []]] (by kernel_rfl) (P1 (ci_isName hr1) <| P2 (r1 = true) (h2) <| P2 (((((a0.Cost.length : Nat) : Int) : Int) != a1) = false) (bneF h3) <| P1 (ci_inRange hr4) <| P2 (r4 = true) (h5) <| P1 (ci_inRange hr6) <| P2 (r6 = true) (h7) <| P1 (cslices_ContainsFunc_int_i_goodTerrain_1 hr8) <| P0))
        (fun h7 H =>
          eW RB (fun _ => []) H <| gE func70 [rg [{ i := 2, call := some { cl := true, auto := true, ins := [], res := (RB r1), G' := [] }, dec := some true }, hF 9, { i := 14, call := some { cl := true, auto := true, ins := [], res := (RB r4), G' := [] }, dec := some true }, { i := 20, call := some { cl := true, auto := true, ins := [], res := (RB r6), G' := [] }, dec := some false }], r0] (by kernel_rfl) (P1 (ci_isName hr1) <| P2 (r1 = true) (h2) <| P2 (((((a0.Cost.length : Nat) : Int) : Int) != a1) = false) (bneF h3) <| P1 (ci_inRange hr4) <| P2 (r4 = true) (h5) <| P1 (ci_inRange hr6) <| P2 (r6 = false) (eqF h7) <| P0)))
      (fun h5 H =>
        eW RB (fun _ => []) H <| gE func70 [rg [{ i := 2, call := some { cl := true, auto := true, ins := [], res := (RB r1), G' := [] }, dec := some true }, hF 9, { i := 14, call := some { cl := true, auto := true, ins := [], res := (RB r4), G' := [] }, dec := some false }], r0] (by kernel_rfl) (P1 (ci_isName hr1) <| P2 (r1 = true) (h2) <| P2 (((((a0.Cost.length : Nat) : Int) : Int) != a1) = false) (bneF h3) <| P1 (ci_inRange hr4) <| P2 (r4 = false) (eqF h5) <| P0)))
    (fun h3 H =>
      eW RB (fun _ => []) H <| gE func70 [rg [{ i := 2, call := some { cl := true, auto := true, ins := [], res := (RB r1), G' := [] }, dec := some true }, hT 9], r0] (by kernel_rfl) (P1 (ci_isName hr1) <| P2 (r1 = true) (h2) <| P2 (((((a0.Cost.length : Nat) : Int) : Int) != a1) = true) (bneT h3) <| P0)))
  (fun h2 H =>
    eW RB (fun _ => []) H <| gE func70 [rg [{ i := 2, call := some { cl := true, auto := true, ins := [], res := (RB r1), G' := [] }, dec := some false }], r0] (by kernel_rfl) (P1 (ci_isName hr1) <| P2 (r1 = false) (eqF h2) <| P0))
/-! loop example/g00886/impl terrainIndex 1 -/
theorem ci_terrainIndex_1 {a0 : Gi_Terrain} {a1 : ByteArray} {r : Bool} (H : Di_terrainIndex_1 a0 a1 = some r) : Ct X.P X.gl 84 [.agg [.str a0.Name, sl 1 I a0.Cost, I a0.Shift, I a0.Height, .bool a0.Blocks], .fptr 1 [.agg [.str a1]] 0 0] [] (RB r) [] :=
  Ct.of func84 (c := bdy f84) (by kernel_rfl) (by kernel_rfl) <|
  eW RB (fun _ => []) H <| gE func84 [r0, r0] (by kernel_rfl) P0
/-! slices IndexFunc   loop example/g00886/impl Terrain loop example/g00886/impl Terrain  -/
noncomputable def Kslices_IndexFunc_i_Terrain_i_terrainIndex_1 : Sslices_IndexFunc_i_Terrain_i_terrainIndex_1 → List Item
  | .h1 .. => nav 300 2 [] [.code (bdy f83)]
def Zslices_IndexFunc_i_Terrain_i_terrainIndex_1 : Sslices_IndexFunc_i_Terrain_i_terrainIndex_1 → St
  | .h1 s0 f1 t2 t3 => ⟨sts 19 [(0, sl 5 gi_Terrain s0), (1, .fn 84 [.fptr 1 [.agg [.str f1]] 0 0]), (7, I t2), (8, I t3)], []⟩
abbrev Qslices_IndexFunc_i_Terrain_i_terrainIndex_1 := Nx X 83 0 Kslices_IndexFunc_i_Terrain_i_terrainIndex_1 Zslices_IndexFunc_i_Terrain_i_terrainIndex_1 RI (fun _ => [])
theorem nslices_IndexFunc_i_Terrain_i_terrainIndex_1 : ∀ s o, Bslices_IndexFunc_i_Terrain_i_terrainIndex_1 s = some o → Qslices_IndexFunc_i_Terrain_i_terrainIndex_1 (Kslices_IndexFunc_i_Terrain_i_terrainIndex_1 s) (Zslices_IndexFunc_i_Terrain_i_terrainIndex_1 s) o
  | .h1 s0 f1 t2 t3, o, H =>
    eIf H (fun h1 H =>
      eCk H fun h2 H =>
      eBind H fun x3 hx3 H =>
      eBind H fun r4 hr4 H =>
      gN [rg [hT 0], r0] (by kernel_rfl) (P2 ((decide (t3 < t2)) = true) (decide_eq_true h1) <| P0) <|
      eIf H (fun h5 H =>
        eN H <| gE func83 [rg [hE 4 (gi_Terrain x3), { i := 5, call := some { cl := true, auto := true, ins := [], res := (RB r4), G' := [] }, dec := some true }], r0] (by kernel_rfl) (P1 h2 <| P1 (int_lt_of_at h2 hx3) <| P1 (at_map gi_Terrain hx3) <| P1 (ci_terrainIndex_1 hr4) <| P2 (r4 = true) (h5) <| P0))
      (fun h5 H =>
        eN H fun r hn => gO [rg [hE 4 (gi_Terrain x3), { i := 5, call := some { cl := true, auto := true, ins := [], res := (RB r4), G' := [] }, dec := some false }], r0, .canon [] [0, 1, 7, 8]] (by kernel_rfl) (P1 h2 <| P1 (int_lt_of_at h2 hx3) <| P1 (at_map gi_Terrain hx3) <| P1 (ci_terrainIndex_1 hr4) <| P2 (r4 = false) (eqF h5) <| P0) hn))
    (fun h1 H =>
      eN H <| gE func83 [rg [hF 0], r0] (by kernel_rfl) (P2 ((decide (t3 < t2)) = false) (decide_eq_false h1) <| P0))
theorem wslices_IndexFunc_i_Terrain_i_terrainIndex_1 : ∀ s r, loop Bslices_IndexFunc_i_Terrain_i_terrainIndex_1 s = some r → Wc X 83 0 (Kslices_IndexFunc_i_Terrain_i_terrainIndex_1 s) (Zslices_IndexFunc_i_Terrain_i_terrainIndex_1 s) (RI r) ((fun _ => []) r) := Nx.all (nslices_IndexFunc_i_Terrain_i_terrainIndex_1)
theorem cslices_IndexFunc_i_Terrain_i_terrainIndex_1 {a0 : (List Gi_Terrain)} {a100 : ByteArray} {r : Int} (H : Dslices_IndexFunc_i_Terrain_i_terrainIndex_1 a0 a100 = some r) : Ct X.P X.gl 83 [sl 5 gi_Terrain a0, .fn 84 [.fptr 1 [.agg [.str a100]] 0 0]] [] (RI r) [] :=
  Ct.of func83 (c := bdy f83) (by kernel_rfl) (by kernel_rfl) <|
  gO [r0, r0, .canon [] [0, 1, 7, 8]] (by kernel_rfl) P0 (wslices_IndexFunc_i_Terrain_i_terrainIndex_1 _ _ H)
/-! loop example/g00886/impl terrainIndex -/
theorem ci_terrainIndex {a0 : (List Gi_Terrain)} {a1 : ByteArray} {r : Int} (H : Di_terrainIndex a0 a1 = some r) : Ct X.P X.gl 71 [sl 5 gi_Terrain a0, .str a1] [] (RI r) [] :=
  Ct.of func71 (c := bdy f71) (by kernel_rfl) (by kernel_rfl) <|
  eBind H fun r1 hr1 H =>
  eW RI (fun _ => []) H <| gE func71 [r0, rg [hC 2 false [] (RI r1) []]] (by kernel_rfl) (P1 (cslices_IndexFunc_i_Terrain_i_terrainIndex_1 hr1) <| P0)
/-! loop example/g00886/impl goodKind -/
theorem ci_goodKind {a0 : Gi_Kind} {r : Bool} (H : Di_goodKind a0 = some r) : Ct X.P X.gl 72 [.agg [.str a0.Name, I a0.Strength, I a0.Moves, I a0.Steps, .bool a0.Zone, I a0.View]] [] (RB r) [] :=
  Ct.of func72 (c := bdy f72) (by kernel_rfl) (by kernel_rfl) <|
  eBind H fun r1 hr1 H =>
  gS [r0] (by kernel_rfl) P0 <|
  eIf H (fun h2 H =>
    eBind H fun r3 hr3 H =>
    eIf H (fun h4 H =>
      eBind H fun r5 hr5 H =>
      eIf H (fun h6 H =>
        eBind H fun r7 hr7 H =>
        eIf H (fun h8 H =>
          eBind H fun r9 hr9 H =>
          eW RB (fun _ => []) H <| gE func72 [rg [{ i := 2, call := some { cl := true, auto := true, ins := [], res := (RB r1), G' := [] }, dec := some true }, { i := 6, call := some { cl := true, auto := true, ins := [], res := (RB r3), G' := [] }, dec := some true }, { i := 11, call := some { cl := true, auto := true, ins := [], res := (RB r5), G' := [] }, dec := some true }, { i := 16, call := some { cl := true, auto := true, ins := [], res := (RB r7), G' := [] }, dec := some true }, hC 21 true [] (RB r9) []]] (by kernel_rfl) (P1 (ci_isName hr1) <| P2 (r1 = true) (h2) <| P1 (ci_inRange hr3) <| P2 (r3 = true) (h4) <| P1 (ci_inRange hr5) <| P2 (r5 = true) (h6) <| P1 (ci_inRange hr7) <| P2 (r7 = true) (h8) <| P1 (ci_inRange hr9) <| P0))
        (fun h8 H =>
          eW RB (fun _ => []) H <| gE func72 [rg [{ i := 2, call := some { cl := true, auto := true, ins := [], res := (RB r1), G' := [] }, dec := some true }, { i := 6, call := some { cl := true, auto := true, ins := [], res := (RB r3), G' := [] }, dec := some true }, { i := 11, call := some { cl := true, auto := true, ins := [], res := (RB r5), G' := [] }, dec := some true }, { i := 16, call := some { cl := true, auto := true, ins := [], res := (RB r7), G' := [] }, dec := some false }]] (by kernel_rfl) (P1 (ci_isName hr1) <| P2 (r1 = true) (h2) <| P1 (ci_inRange hr3) <| P2 (r3 = true) (h4) <| P1 (ci_inRange hr5) <| P2 (r5 = true) (h6) <| P1 (ci_inRange hr7) <| P2 (r7 = false) (eqF h8) <| P0)))
      (fun h6 H =>
        eW RB (fun _ => []) H <| gE func72 [rg [{ i := 2, call := some { cl := true, auto := true, ins := [], res := (RB r1), G' := [] }, dec := some true }, { i := 6, call := some { cl := true, auto := true, ins := [], res := (RB r3), G' := [] }, dec := some true }, { i := 11, call := some { cl := true, auto := true, ins := [], res := (RB r5), G' := [] }, dec := some false }]] (by kernel_rfl) (P1 (ci_isName hr1) <| P2 (r1 = true) (h2) <| P1 (ci_inRange hr3) <| P2 (r3 = true) (h4) <| P1 (ci_inRange hr5) <| P2 (r5 = false) (eqF h6) <| P0)))
    (fun h4 H =>
      eW RB (fun _ => []) H <| gE func72 [rg [{ i := 2, call := some { cl := true, auto := true, ins := [], res := (RB r1), G' := [] }, dec := some true }, { i := 6, call := some { cl := true, auto := true, ins := [], res := (RB r3), G' := [] }, dec := some false }]] (by kernel_rfl) (P1 (ci_isName hr1) <| P2 (r1 = true) (h2) <| P1 (ci_inRange hr3) <| P2 (r3 = false) (eqF h4) <| P0)))
  (fun h2 H =>
    eW RB (fun _ => []) H <| gE func72 [rg [{ i := 2, call := some { cl := true, auto := true, ins := [], res := (RB r1), G' := [] }, dec := some false }]] (by kernel_rfl) (P1 (ci_isName hr1) <| P2 (r1 = false) (eqF h2) <| P0))
/-! loop example/g00886/impl kindIndex 1 -/
theorem ci_kindIndex_1 {a0 : Gi_Kind} {a1 : ByteArray} {r : Bool} (H : Di_kindIndex_1 a0 a1 = some r) : Ct X.P X.gl 86 [.agg [.str a0.Name, I a0.Strength, I a0.Moves, I a0.Steps, .bool a0.Zone, I a0.View], .fptr 1 [.agg [.str a1]] 0 0] [] (RB r) [] :=
  Ct.of func86 (c := bdy f86) (by kernel_rfl) (by kernel_rfl) <|
  eW RB (fun _ => []) H <| gE func86 [r0, r0] (by kernel_rfl) P0
/-! slices IndexFunc   loop example/g00886/impl Kind loop example/g00886/impl Kind  -/
noncomputable def Kslices_IndexFunc_i_Kind_i_kindIndex_1 : Sslices_IndexFunc_i_Kind_i_kindIndex_1 → List Item
  | .h1 .. => nav 300 2 [] [.code (bdy f85)]
def Zslices_IndexFunc_i_Kind_i_kindIndex_1 : Sslices_IndexFunc_i_Kind_i_kindIndex_1 → St
  | .h1 s0 f1 t2 t3 => ⟨sts 19 [(0, sl 6 gi_Kind s0), (1, .fn 86 [.fptr 1 [.agg [.str f1]] 0 0]), (7, I t2), (8, I t3)], []⟩
abbrev Qslices_IndexFunc_i_Kind_i_kindIndex_1 := Nx X 85 0 Kslices_IndexFunc_i_Kind_i_kindIndex_1 Zslices_IndexFunc_i_Kind_i_kindIndex_1 RI (fun _ => [])
theorem nslices_IndexFunc_i_Kind_i_kindIndex_1 : ∀ s o, Bslices_IndexFunc_i_Kind_i_kindIndex_1 s = some o → Qslices_IndexFunc_i_Kind_i_kindIndex_1 (Kslices_IndexFunc_i_Kind_i_kindIndex_1 s) (Zslices_IndexFunc_i_Kind_i_kindIndex_1 s) o
  | .h1 s0 f1 t2 t3, o, H =>
    eIf H (fun h1 H =>
      eCk H fun h2 H =>
      eBind H fun x3 hx3 H =>
      eBind H fun r4 hr4 H =>
      gN [rg [hT 0], r0] (by kernel_rfl) (P2 ((decide (t3 < t2)) = true) (decide_eq_true h1) <| P0) <|
      eIf H (fun h5 H =>
        eN H <| gE func85 [rg [hE 4 (gi_Kind x3), { i := 5, call := some { cl := true, auto := true, ins := [], res := (RB r4), G' := [] }, dec := some true }], r0] (by kernel_rfl) (P1 h2 <| P1 (int_lt_of_at h2 hx3) <| P1 (at_map gi_Kind hx3) <| P1 (ci_kindIndex_1 hr4) <| P2 (r4 = true) (h5) <| P0))
      (fun h5 H =>
        eN H fun r hn => gO [rg [hE 4 (gi_Kind x3), { i := 5, call := some { cl := true, auto := true, ins := [], res := (RB r4), G' := [] }, dec := some false }], r0, .canon [] [0, 1, 7, 8]] (by kernel_rfl) (P1 h2 <| P1 (int_lt_of_at h2 hx3) <| P1 (at_map gi_Kind hx3) <| P1 (ci_kindIndex_1 hr4) <| P2 (r4 = false) (eqF h5) <| P0) hn))
    (fun h1 H =>
      eN H <| gE func85 [rg [hF 0], r0] (by kernel_rfl) (P2 ((decide (t3 < t2)) = false) (decide_eq_false h1) <| P0))
theorem wslices_IndexFunc_i_Kind_i_kindIndex_1 : ∀ s r, loop Bslices_IndexFunc_i_Kind_i_kindIndex_1 s = some r → Wc X 85 0 (Kslices_IndexFunc_i_Kind_i_kindIndex_1 s) (Zslices_IndexFunc_i_Kind_i_kindIndex_1 s) (RI r) ((fun _ => []) r) := Nx.all (nslices_IndexFunc_i_Kind_i_kindIndex_1)
theorem cslices_IndexFunc_i_Kind_i_kindIndex_1 {a0 : (List Gi_Kind)} {a100 : ByteArray} {r : Int} (H : Dslices_IndexFunc_i_Kind_i_kindIndex_1 a0 a100 = some r) : Ct X.P X.gl 85 [sl 6 gi_Kind a0, .fn 86 [.fptr 1 [.agg [.str a100]] 0 0]] [] (RI r) [] :=
  Ct.of func85 (c := bdy f85) (by kernel_rfl) (by kernel_rfl) <|
  gO [r0, r0, .canon [] [0, 1, 7, 8]] (by kernel_rfl) P0 (wslices_IndexFunc_i_Kind_i_kindIndex_1 _ _ H)
/-! loop example/g00886/impl kindIndex -/
theorem ci_kindIndex {a0 : (List Gi_Kind)} {a1 : ByteArray} {r : Int} (H : Di_kindIndex a0 a1 = some r) : Ct X.P X.gl 73 [sl 6 gi_Kind a0, .str a1] [] (RI r) [] :=
  Ct.of func73 (c := bdy f73) (by kernel_rfl) (by kernel_rfl) <|
  eBind H fun r1 hr1 H =>
  eW RI (fun _ => []) H <| gE func73 [r0, rg [hC 2 false [] (RI r1) []]] (by kernel_rfl) (P1 (cslices_IndexFunc_i_Kind_i_kindIndex_1 hr1) <| P0)
/-! loop example/g00886/impl IsRules -/
noncomputable def Ki_IsRules : Si_IsRules → List Item
  | .h1 .. => nav 300 3 [false] [.code (bdy f58)]
  | .h2 .. => nav 300 5 [false, false] [.code (bdy f58)]
def Zi_IsRules : Si_IsRules → St
  | .h1 t0 t1 t2 b3 => ⟨sts 87 [(1, .ptr 0 7 0 0), (20, sl 5 gi_Terrain t0), (21, I t1), (22, I t2)], [some ⟨false, true, 7, 1, [.agg [sl 5 gi_Terrain b3.Terrains, sl 6 gi_Kind b3.Kinds, I b3.Stack, I b3.River, I b3.Road, I b3.Supply, I b3.Turns]]⟩]⟩
  | .h2 t0 t1 t2 b3 => ⟨sts 87 [(1, .ptr 0 7 0 0), (44, sl 6 gi_Kind t0), (45, I t1), (46, I t2)], [some ⟨false, true, 7, 1, [.agg [sl 5 gi_Terrain b3.Terrains, sl 6 gi_Kind b3.Kinds, I b3.Stack, I b3.River, I b3.Road, I b3.Supply, I b3.Turns]]⟩]⟩
abbrev Qi_IsRules := Nx X 58 0 Ki_IsRules Zi_IsRules RB (fun _ => [])
theorem ni_IsRules : ∀ s o, Bi_IsRules s = some o → Qi_IsRules (Ki_IsRules s) (Zi_IsRules s) o
  | .h1 t0 t1 t2 b3, o, H =>
    eIf H (fun h1 H =>
      eCk H fun h2 H =>
      eBind H fun x3 hx3 H =>
      eBind H fun r4 hr4 H =>
      gN [rg [hT 0], rg [hE 2 (gi_Terrain x3)]] (by kernel_rfl) (P2 ((decide (t2 < t1)) = true) (decide_eq_true h1) <| P1 h2 <| P1 (int_lt_of_at h2 hx3) <| P1 (at_map gi_Terrain hx3) <| P0) <|
      eIf H (fun h5 H =>
        eBind H fun r6 hr6 H =>
        eIf H (fun h7 H =>
          eN H fun r hn => gO [rg [{ i := 4, call := some { cl := true, auto := true, ins := [], res := (RB r4), G' := [] }, dec := some true }, hC 11 true [] (RI r6) [], hF 13], r0, .canon [0] [1, 20, 21, 22]] (by kernel_rfl) (P1 (ci_goodTerrain hr4) <| P2 (r4 = true) (h5) <| P1 (ci_terrainIndex hr6) <| P2 (((r6 : Int) != t2) = false) (bneF h7) <| P0) hn)
        (fun h7 H =>
          eN H <| gE func58 [rg [{ i := 4, call := some { cl := true, auto := true, ins := [], res := (RB r4), G' := [] }, dec := some true }, hC 11 true [] (RI r6) [], hT 13], r0] (by kernel_rfl) (P1 (ci_goodTerrain hr4) <| P2 (r4 = true) (h5) <| P1 (ci_terrainIndex hr6) <| P2 (((r6 : Int) != t2) = true) (bneT h7) <| P0)))
      (fun h5 H =>
        eN H <| gE func58 [rg [{ i := 4, call := some { cl := true, auto := true, ins := [], res := (RB r4), G' := [] }, dec := some false }], r0] (by kernel_rfl) (P1 (ci_goodTerrain hr4) <| P2 (r4 = false) (eqF h5) <| P0)))
    (fun h1 H =>
      eN H fun r hn => gO [rg [hF 0], r0, .canon [0] [1, 44, 45, 46]] (by kernel_rfl) (P2 ((decide (t2 < t1)) = false) (decide_eq_false h1) <| P0) hn)
  | .h2 t0 t1 t2 b3, o, H =>
    eIf H (fun h1 H =>
      eCk H fun h2 H =>
      eBind H fun x3 hx3 H =>
      eBind H fun r4 hr4 H =>
      gN [rg [hT 0], rg [hE 2 (gi_Kind x3)]] (by kernel_rfl) (P2 ((decide (t2 < t1)) = true) (decide_eq_true h1) <| P1 h2 <| P1 (int_lt_of_at h2 hx3) <| P1 (at_map gi_Kind hx3) <| P0) <|
      eIf H (fun h5 H =>
        eBind H fun r6 hr6 H =>
        eIf H (fun h7 H =>
          eN H fun r hn => gO [rg [{ i := 1, call := some { cl := true, auto := true, ins := [], res := (RB r4), G' := [] }, dec := some true }, hC 8 true [] (RI r6) [], hF 10], r0, .canon [0] [1, 44, 45, 46]] (by kernel_rfl) (P1 (ci_goodKind hr4) <| P2 (r4 = true) (h5) <| P1 (ci_kindIndex hr6) <| P2 (((r6 : Int) != t2) = false) (bneF h7) <| P0) hn)
        (fun h7 H =>
          eN H <| gE func58 [rg [{ i := 1, call := some { cl := true, auto := true, ins := [], res := (RB r4), G' := [] }, dec := some true }, hC 8 true [] (RI r6) [], hT 10], r0] (by kernel_rfl) (P1 (ci_goodKind hr4) <| P2 (r4 = true) (h5) <| P1 (ci_kindIndex hr6) <| P2 (((r6 : Int) != t2) = true) (bneT h7) <| P0)))
      (fun h5 H =>
        eN H <| gE func58 [rg [{ i := 1, call := some { cl := true, auto := true, ins := [], res := (RB r4), G' := [] }, dec := some false }], r0] (by kernel_rfl) (P1 (ci_goodKind hr4) <| P2 (r4 = false) (eqF h5) <| P0)))
    (fun h1 H =>
      eBind H fun r2 hr2 H =>
      gN [rg [hF 0]] (by kernel_rfl) (P2 ((decide (t2 < t1)) = false) (decide_eq_false h1) <| P0) <|
      eIf H (fun h3 H =>
        eBind H fun r4 hr4 H =>
        eIf H (fun h5 H =>
          eBind H fun r6 hr6 H =>
          eIf H (fun h7 H =>
            eBind H fun r8 hr8 H =>
            eIf H (fun h9 H =>
              eBind H fun r10 hr10 H =>
              eN H <| gE func58 [rg [{ i := 2, call := some { cl := true, auto := true, ins := [], res := (RB r2), G' := [] }, dec := some true }, { i := 6, call := some { cl := true, auto := true, ins := [], res := (RB r4), G' := [] }, dec := some true }, { i := 11, call := some { cl := true, auto := true, ins := [], res := (RB r6), G' := [] }, dec := some true }, { i := 16, call := some { cl := true, auto := true, ins := [], res := (RB r8), G' := [] }, dec := some true }, hC 21 true [] (RB r10) []]] (by kernel_rfl) (P1 (ci_inRange hr2) <| P2 (r2 = true) (h3) <| P1 (ci_inRange hr4) <| P2 (r4 = true) (h5) <| P1 (ci_inRange hr6) <| P2 (r6 = true) (h7) <| P1 (ci_inRange hr8) <| P2 (r8 = true) (h9) <| P1 (ci_inRange hr10) <| P0))
            (fun h9 H =>
              eN H <| gE func58 [rg [{ i := 2, call := some { cl := true, auto := true, ins := [], res := (RB r2), G' := [] }, dec := some true }, { i := 6, call := some { cl := true, auto := true, ins := [], res := (RB r4), G' := [] }, dec := some true }, { i := 11, call := some { cl := true, auto := true, ins := [], res := (RB r6), G' := [] }, dec := some true }, { i := 16, call := some { cl := true, auto := true, ins := [], res := (RB r8), G' := [] }, dec := some false }]] (by kernel_rfl) (P1 (ci_inRange hr2) <| P2 (r2 = true) (h3) <| P1 (ci_inRange hr4) <| P2 (r4 = true) (h5) <| P1 (ci_inRange hr6) <| P2 (r6 = true) (h7) <| P1 (ci_inRange hr8) <| P2 (r8 = false) (eqF h9) <| P0)))
          (fun h7 H =>
            eN H <| gE func58 [rg [{ i := 2, call := some { cl := true, auto := true, ins := [], res := (RB r2), G' := [] }, dec := some true }, { i := 6, call := some { cl := true, auto := true, ins := [], res := (RB r4), G' := [] }, dec := some true }, { i := 11, call := some { cl := true, auto := true, ins := [], res := (RB r6), G' := [] }, dec := some false }]] (by kernel_rfl) (P1 (ci_inRange hr2) <| P2 (r2 = true) (h3) <| P1 (ci_inRange hr4) <| P2 (r4 = true) (h5) <| P1 (ci_inRange hr6) <| P2 (r6 = false) (eqF h7) <| P0)))
        (fun h5 H =>
          eN H <| gE func58 [rg [{ i := 2, call := some { cl := true, auto := true, ins := [], res := (RB r2), G' := [] }, dec := some true }, { i := 6, call := some { cl := true, auto := true, ins := [], res := (RB r4), G' := [] }, dec := some false }]] (by kernel_rfl) (P1 (ci_inRange hr2) <| P2 (r2 = true) (h3) <| P1 (ci_inRange hr4) <| P2 (r4 = false) (eqF h5) <| P0)))
      (fun h3 H =>
        eN H <| gE func58 [rg [{ i := 2, call := some { cl := true, auto := true, ins := [], res := (RB r2), G' := [] }, dec := some false }]] (by kernel_rfl) (P1 (ci_inRange hr2) <| P2 (r2 = false) (eqF h3) <| P0)))
theorem wi_IsRules : ∀ s r, loop Bi_IsRules s = some r → Wc X 58 0 (Ki_IsRules s) (Zi_IsRules s) (RB r) ((fun _ => []) r) := Nx.all (ni_IsRules)
theorem ci_IsRules {a0 : Gi_Rules} {r : Bool} (H : Di_IsRules a0 = some r) : Ct X.P X.gl 58 [.agg [sl 5 gi_Terrain a0.Terrains, sl 6 gi_Kind a0.Kinds, I a0.Stack, I a0.River, I a0.Road, I a0.Supply, I a0.Turns]] [] (RB r) [] :=
  Ct.of func58 (c := bdy f58) (by kernel_rfl) (by kernel_rfl) <|
  eBind H fun r1 hr1 H =>
  gS [r0] (by kernel_rfl) P0 <|
  eIf H (fun h2 H =>
    eBind H fun r3 hr3 H =>
    eIf H (fun h4 H =>
      gO [rg [{ i := 3, call := some { cl := true, auto := true, ins := [], res := (RB r1), G' := [] }, dec := some true }, { i := 9, call := some { cl := true, auto := true, ins := [], res := (RB r3), G' := [] }, dec := some true }], r0, .canon [0] [1, 20, 21, 22]] (by kernel_rfl) (P1 (ci_inRange hr1) <| P2 (r1 = true) (h2) <| P1 (ci_inRange hr3) <| P2 (r3 = true) (h4) <| P0) (wi_IsRules _ _ H))
    (fun h4 H =>
      eW RB (fun _ => []) H <| gE func58 [rg [{ i := 3, call := some { cl := true, auto := true, ins := [], res := (RB r1), G' := [] }, dec := some true }, { i := 9, call := some { cl := true, auto := true, ins := [], res := (RB r3), G' := [] }, dec := some false }], r0] (by kernel_rfl) (P1 (ci_inRange hr1) <| P2 (r1 = true) (h2) <| P1 (ci_inRange hr3) <| P2 (r3 = false) (eqF h4) <| P0)))
  (fun h2 H =>
    eW RB (fun _ => []) H <| gE func58 [rg [{ i := 3, call := some { cl := true, auto := true, ins := [], res := (RB r1), G' := [] }, dec := some false }], r0] (by kernel_rfl) (P1 (ci_inRange hr1) <| P2 (r1 = false) (eqF h2) <| P0))
/-! loop example/g00886/impl isIndex -/
theorem ci_isIndex {a0 : Int} {a1 : Int} {r : Bool} (H : Di_isIndex a0 a1 = some r) : Ct X.P X.gl 20 [I a0, I a1] [] (RB r) [] :=
  Ct.of func20 (c := bdy f20) (by kernel_rfl) (by kernel_rfl) <|
  eBind H fun r1 hr1 H =>
  eW RB (fun _ => []) H <| gE func20 [r0, rg [hC 3 true [] (RB r1) []]] (by kernel_rfl) (P1 (ci_inRange hr1) <| P0)
/-! loop example/g00886/impl increasing -/
noncomputable def Ki_increasing : Si_increasing → List Item
  | .h1 .. => nav 300 2 [] [.code (bdy f74)]
def Zi_increasing : Si_increasing → St
  | .h1 list0 i1 => ⟨sts 20 [(0, sl 1 I list0), (3, I i1)], []⟩
abbrev Qi_increasing := Nx X 74 0 Ki_increasing Zi_increasing RB (fun _ => [])
theorem ni_increasing : ∀ s o, Bi_increasing s = some o → Qi_increasing (Ki_increasing s) (Zi_increasing s) o
  | .h1 list0 i1, o, H =>
    eIf H (fun h1 H =>
      eCk H fun h2 H =>
      eBind H fun x3 hx3 H =>
      eCk H fun h4 H =>
      eBind H fun x5 hx5 H =>
      gN [rg [hT 3]] (by kernel_rfl) (P2 ((decide (i1 < ((list0.length : Nat) : Int))) = true) (decide_eq_true h1) <| P0) <|
      eIf H (fun h6 H =>
        eN H <| gE func74 [rg [hE 4 (I x3), hE 8 (I x5), hT 9], r0] (by kernel_rfl) (P1 h2 <| P1 (int_lt_of_at h2 hx3) <| P1 (at_map I hx3) <| P1 h4 <| P1 (int_lt_of_at h4 hx5) <| P1 (at_map I hx5) <| P2 ((decide (x3 ≥ x5)) = true) (decide_eq_true h6) <| P0))
      (fun h6 H =>
        eN H fun r hn => gO [rg [hE 4 (I x3), hE 8 (I x5), hF 9], r0, .canon [] [0, 3]] (by kernel_rfl) (P1 h2 <| P1 (int_lt_of_at h2 hx3) <| P1 (at_map I hx3) <| P1 h4 <| P1 (int_lt_of_at h4 hx5) <| P1 (at_map I hx5) <| P2 ((decide (x3 ≥ x5)) = false) (decide_eq_false h6) <| P0) hn))
    (fun h1 H =>
      eN H <| gE func74 [rg [hF 3], r0] (by kernel_rfl) (P2 ((decide (i1 < ((list0.length : Nat) : Int))) = false) (decide_eq_false h1) <| P0))
theorem wi_increasing : ∀ s r, loop Bi_increasing s = some r → Wc X 74 0 (Ki_increasing s) (Zi_increasing s) (RB r) ((fun _ => []) r) := Nx.all (ni_increasing)
theorem ci_increasing {a0 : (List Int)} {r : Bool} (H : Di_increasing a0 = some r) : Ct X.P X.gl 74 [sl 1 I a0] [] (RB r) [] :=
  Ct.of func74 (c := bdy f74) (by kernel_rfl) (by kernel_rfl) <|
  gO [r0, r0, .canon [] [0, 3]] (by kernel_rfl) P0 (wi_increasing _ _ H)
/-! loop example/g00886/impl hexOf -/
def Ri_hexOf (r : Gi_Hex) : List D := [.agg [I r.Q, I r.R]]
theorem ci_hexOf {a0 : Gi_Map} {a1 : Int} {r : Gi_Hex} (H : Di_hexOf a0 a1 = some r) : Ct X.P X.gl 93 [.agg [I a0.Width, I a0.Height, sl 1 I a0.Terrain, sl 1 I a0.Rivers, sl 1 I a0.Roads], I a1] [] (Ri_hexOf r) [] :=
  Ct.of func93 (c := bdy f93) (by kernel_rfl) (by kernel_rfl) <|
  eCk H fun h1 H =>
  eCk H fun h2 H =>
  eW Ri_hexOf (fun _ => []) H <| gE func93 [r0, r0] (by kernel_rfl) (P2 (¬ (a0.Width : Int) = 0) h1 <| P2 (¬ (a0.Width : Int) = 0) h2 <| P0)
/-! loop example/g00886/impl stepBy -/
def Ri_stepBy (r : Gi_Hex) : List D := [.agg [I r.Q, I r.R]]
theorem ci_stepBy {a0 : Gi_Hex} {a1 : Int} {a2 : Int} {r : Gi_Hex} (H : Di_stepBy a0 a1 a2 = some r) : Ct X.P X.gl 92 [.agg [I a0.Q, I a0.R], I a1, I a2] [] (Ri_stepBy r) [] :=
  Ct.of func92 (c := bdy f92) (by kernel_rfl) (by kernel_rfl) <|
  eCk H fun h1 H =>
  eBind H fun x2 hx2 H =>
  eCk H fun h3 H =>
  eBind H fun x4 hx4 H =>
  eW Ri_stepBy (fun _ => []) H <| gE func92 [r0, rg [{ i := 6, xs := [I x2.Q] }, { i := 15, xs := [I x4.R] }]] (by kernel_rfl) (P1 h1 <| P2 (a1 < ((6 : Nat) : Int)) (int_lt_of_at h1 hx2) <| P2 (getCells gc0 0 (0 + Int.toNat a1 * 2 + 0) 1 = some [I x2.Q]) (flat_at (enc := gi_Hex) (w := 2) (off := 0) (fun _ => rfl) hx2 (by omega) (by decide)) <| P1 h3 <| P2 (a1 < ((6 : Nat) : Int)) (int_lt_of_at h3 hx4) <| P2 (getCells gc0 0 (0 + Int.toNat a1 * 2 + 1) 1 = some [I x4.R]) (flat_at (enc := gi_Hex) (w := 2) (off := 1) (fun _ => rfl) hx4 (by omega) (by decide)) <| P0)
/-! loop example/g00886/impl indexOf -/
theorem ci_indexOf {a0 : Gi_Map} {a1 : Gi_Hex} {r : Int} (H : Di_indexOf a0 a1 = some r) : Ct X.P X.gl 91 [.agg [I a0.Width, I a0.Height, sl 1 I a0.Terrain, sl 1 I a0.Rivers, sl 1 I a0.Roads], .agg [I a1.Q, I a1.R]] [] (RI r) [] :=
  Ct.of func91 (c := bdy f91) (by kernel_rfl) (by kernel_rfl) <|
  eBind H fun r1 hr1 H =>
  gS [r0] (by kernel_rfl) P0 <|
  eIf H (fun h2 H =>
    eBind H fun r3 hr3 H =>
    eIf H (fun h4 H =>
      eW RI (fun _ => []) H <| gE func91 [rg [{ i := 4, call := some { cl := true, auto := true, ins := [], res := (RB r1), G' := [] }, dec := some true }, { i := 11, call := some { cl := true, auto := true, ins := [], res := (RB r3), G' := [] }, dec := some true }], r0] (by kernel_rfl) (P1 (ci_isIndex hr1) <| P2 (r1 = true) (h2) <| P1 (ci_isIndex hr3) <| P2 (r3 = true) (h4) <| P0))
    (fun h4 H =>
      eW RI (fun _ => []) H <| gE func91 [rg [{ i := 4, call := some { cl := true, auto := true, ins := [], res := (RB r1), G' := [] }, dec := some true }, { i := 11, call := some { cl := true, auto := true, ins := [], res := (RB r3), G' := [] }, dec := some false }], r0] (by kernel_rfl) (P1 (ci_isIndex hr1) <| P2 (r1 = true) (h2) <| P1 (ci_isIndex hr3) <| P2 (r3 = false) (eqF h4) <| P0)))
  (fun h2 H =>
    eW RI (fun _ => []) H <| gE func91 [rg [{ i := 4, call := some { cl := true, auto := true, ins := [], res := (RB r1), G' := [] }, dec := some false }], r0] (by kernel_rfl) (P1 (ci_isIndex hr1) <| P2 (r1 = false) (eqF h2) <| P0))
/-! loop example/g00886/impl nextTo -/
theorem ci_nextTo {a0 : Gi_Map} {a1 : Int} {a2 : Int} {r : Int} (H : Di_nextTo a0 a1 a2 = some r) : Ct X.P X.gl 87 [.agg [I a0.Width, I a0.Height, sl 1 I a0.Terrain, sl 1 I a0.Rivers, sl 1 I a0.Roads], I a1, I a2] [] (RI r) [] :=
  Ct.of func87 (c := bdy f87) (by kernel_rfl) (by kernel_rfl) <|
  eBind H fun r1 hr1 H =>
  eBind H fun r2 hr2 H =>
  eBind H fun r3 hr3 H =>
  eW RI (fun _ => []) H <| gE func87 [r0, rg [hC 3 true [] (Ri_hexOf r1) [], hC 5 true [] (Ri_stepBy r2) [], hC 6 true [] (RI r3) []]] (by kernel_rfl) (P1 (ci_hexOf hr1) <| P1 (ci_stepBy hr2) <| P1 (ci_indexOf hr3) <| P0)
/-! loop example/g00886/impl isEdge -/
theorem ci_isEdge {a0 : Gi_Map} {a1 : Int} {r : Bool} (H : Di_isEdge a0 a1 = some r) : Ct X.P X.gl 75 [.agg [I a0.Width, I a0.Height, sl 1 I a0.Terrain, sl 1 I a0.Rivers, sl 1 I a0.Roads], I a1] [] (RB r) [] :=
  Ct.of func75 (c := bdy f75) (by kernel_rfl) (by kernel_rfl) <|
  eBind H fun r1 hr1 H =>
  gS [r0] (by kernel_rfl) P0 <|
  eIf H (fun h2 H =>
    eBind H fun r3 hr3 H =>
    eW RB (fun _ => []) H <| gE func75 [rg [{ i := 8, call := some { cl := true, auto := true, ins := [], res := (RB r1), G' := [] }, dec := some true }, hC 15 true [] (RI r3) []]] (by kernel_rfl) (P1 (ci_inRange hr1) <| P2 (r1 = true) (h2) <| P2 (¬ (3 : Int) = 0) (by decide) <| P2 (¬ (3 : Int) = 0) (by decide) <| P1 (ci_nextTo hr3) <| P0))
  (fun h2 H =>
    eW RB (fun _ => []) H <| gE func75 [rg [{ i := 8, call := some { cl := true, auto := true, ins := [], res := (RB r1), G' := [] }, dec := some false }]] (by kernel_rfl) (P1 (ci_inRange hr1) <| P2 (r1 = false) (eqF h2) <| P0))
/-! loop example/g00886/impl IsMap -/
noncomputable def Ki_IsMap : Si_IsMap → List Item
  | .h1 .. => nav 300 3 [false] [.code (bdy f59)]
  | .h2 .. => nav 300 5 [false, false] [.code (bdy f59)]
  | .h3 .. => nav 300 9 [false, false, true, false] [.code (bdy f59)]
def Zi_IsMap : Si_IsMap → St
  | .h1 t0 t1 t2 b3 => ⟨sts 66 [(1, .ptr 0 5 0 0), (31, sl 1 I t0), (32, I t1), (33, I t2)], [some ⟨false, true, 5, 1, [.agg [I b3.Width, I b3.Height, sl 1 I b3.Terrain, sl 1 I b3.Rivers, sl 1 I b3.Roads]]⟩]⟩
  | .h2 t0 t1 b2 l3 => ⟨sts 66 [(1, .ptr 0 5 0 0), (45, .ref 1 1 none), (46, I t0), (47, I t1)], [some ⟨false, true, 5, 1, [.agg [I b2.Width, I b2.Height, sl 1 I b2.Terrain, sl 1 I b2.Rivers, sl 1 I b2.Roads]]⟩, some ⟨false, false, 1, l3.length, List.map (sl 1 I) l3⟩]⟩
  | .h3 t0 t1 t2 t3 t4 b5 l6 => ⟨sts 66 [(1, .ptr 0 5 0 0), (45, .ref 1 1 none), (46, I t0), (47, I t1), (54, sl 1 I t2), (55, I t3), (56, I t4)], [some ⟨false, true, 5, 1, [.agg [I b5.Width, I b5.Height, sl 1 I b5.Terrain, sl 1 I b5.Rivers, sl 1 I b5.Roads]]⟩, some ⟨false, false, 1, l6.length, List.map (sl 1 I) l6⟩]⟩
abbrev Qi_IsMap := Nx X 59 0 Ki_IsMap Zi_IsMap RB (fun _ => [])
theorem ni_IsMap : ∀ s o, Bi_IsMap s = some o → Qi_IsMap (Ki_IsMap s) (Zi_IsMap s) o
  | .h1 t0 t1 t2 b3, o, H =>
    eIf H (fun h1 H =>
      eCk H fun h2 H =>
      eBind H fun x3 hx3 H =>
      eBind H fun r4 hr4 H =>
      gN [rg [hT 0], rg [hE 1 (I x3)]] (by kernel_rfl) (P2 ((decide (t2 < t1)) = true) (decide_eq_true h1) <| P1 h2 <| P1 (int_lt_of_at h2 hx3) <| P1 (at_map I hx3) <| P0) <|
      eIf H (fun h5 H =>
        eN H fun r hn => gO [rg [{ i := 1, call := some { cl := true, auto := true, ins := [], res := (RB r4), G' := [] }, dec := some true }], r0, .canon [0] [1, 31, 32, 33]] (by kernel_rfl) (P1 (ci_isIndex hr4) <| P2 (r4 = true) (h5) <| P0) hn)
      (fun h5 H =>
        eN H <| gE func59 [rg [{ i := 1, call := some { cl := true, auto := true, ins := [], res := (RB r4), G' := [] }, dec := some false }], r0] (by kernel_rfl) (P1 (ci_isIndex hr4) <| P2 (r4 = false) (eqF h5) <| P0)))
    (fun h1 H =>
      eN H fun r hn => gO [rg [hF 0], r0, .canon [0, 1] [1, 45, 46, 47]] (by kernel_rfl) (P2 ((decide (t2 < t1)) = false) (decide_eq_false h1) <| P0) hn)
  | .h2 t0 t1 b2 l3, o, H =>
    eIf H (fun h1 H =>
      eCk H fun h2 H =>
      eBind H fun x3 hx3 H =>
      eBind H fun r4 hr4 H =>
      gN [rg [hT 0], rg [hE 1 ((sl 1 I) x3)]] (by kernel_rfl) (P2 ((decide (t1 < t0)) = true) (decide_eq_true h1) <| P1 h2 <| P1 (int_lt_of_at h2 hx3) <| P1 (at_map (sl 1 I) hx3) <| P0) <|
      eIf H (fun h5 H =>
        eN H fun r hn => gO [rg [{ i := 1, call := some { cl := true, auto := true, ins := [], res := (RB r4), G' := [] }, dec := some true }], r0, .canon [0, 1] [1, 45, 46, 47, 54, 55, 56]] (by kernel_rfl) (P1 (ci_increasing hr4) <| P2 (r4 = true) (h5) <| P0) hn)
      (fun h5 H =>
        eN H <| gE func59 [rg [{ i := 1, call := some { cl := true, auto := true, ins := [], res := (RB r4), G' := [] }, dec := some false }], r0] (by kernel_rfl) (P1 (ci_increasing hr4) <| P2 (r4 = false) (eqF h5) <| P0)))
    (fun h1 H =>
      eN H <| gE func59 [rg [hF 0], r0] (by kernel_rfl) (P2 ((decide (t1 < t0)) = false) (decide_eq_false h1) <| P0))
  | .h3 t0 t1 t2 t3 t4 b5 l6, o, H =>
    eIf H (fun h1 H =>
      eCk H fun h2 H =>
      eBind H fun x3 hx3 H =>
      eBind H fun r4 hr4 H =>
      gN [rg [hT 0], rg [hE 1 (I x3)]] (by kernel_rfl) (P2 ((decide (t4 < t3)) = true) (decide_eq_true h1) <| P1 h2 <| P1 (int_lt_of_at h2 hx3) <| P1 (at_map I hx3) <| P0) <|
      eIf H (fun h5 H =>
        eN H fun r hn => gO [rg [{ i := 2, call := some { cl := true, auto := true, ins := [], res := (RB r4), G' := [] }, dec := some true }], r0, .canon [0, 1] [1, 45, 46, 47, 54, 55, 56]] (by kernel_rfl) (P1 (ci_isEdge hr4) <| P2 (r4 = true) (h5) <| P0) hn)
      (fun h5 H =>
        eN H <| gE func59 [rg [{ i := 2, call := some { cl := true, auto := true, ins := [], res := (RB r4), G' := [] }, dec := some false }], r0] (by kernel_rfl) (P1 (ci_isEdge hr4) <| P2 (r4 = false) (eqF h5) <| P0)))
    (fun h1 H =>
      eN H fun r hn => gO [rg [hF 0], r0, .canon [0, 1] [1, 45, 46, 47]] (by kernel_rfl) (P2 ((decide (t4 < t3)) = false) (decide_eq_false h1) <| P0) hn)
theorem wi_IsMap : ∀ s r, loop Bi_IsMap s = some r → Wc X 59 0 (Ki_IsMap s) (Zi_IsMap s) (RB r) ((fun _ => []) r) := Nx.all (ni_IsMap)
theorem ci_IsMap {a0 : Gi_Map} {r : Bool} (H : Di_IsMap a0 = some r) : Ct X.P X.gl 59 [.agg [I a0.Width, I a0.Height, sl 1 I a0.Terrain, sl 1 I a0.Rivers, sl 1 I a0.Roads]] [] (RB r) [] :=
  Ct.of func59 (c := bdy f59) (by kernel_rfl) (by kernel_rfl) <|
  eBind H fun r1 hr1 H =>
  gS [r0] (by kernel_rfl) P0 <|
  eIf H (fun h2 H =>
    eBind H fun r3 hr3 H =>
    eIf H (fun h4 H =>
      eIf H (fun h5 H =>
        gO [rg [{ i := 2, call := some { cl := true, auto := true, ins := [], res := (RB r1), G' := [] }, dec := some true }, { i := 7, call := some { cl := true, auto := true, ins := [], res := (RB r3), G' := [] }, dec := some true }, hF 19], r0, .canon [0] [1, 31, 32, 33]] (by kernel_rfl) (P1 (ci_inRange hr1) <| P2 (r1 = true) (h2) <| P1 (ci_inRange hr3) <| P2 (r3 = true) (h4) <| P2 (((((a0.Terrain.length : Nat) : Int) : Int) != (IntKind.wrap .i64 (a0.Width * a0.Height))) = false) (bneF h5) <| P0) (wi_IsMap _ _ H))
      (fun h5 H =>
        eW RB (fun _ => []) H <| gE func59 [rg [{ i := 2, call := some { cl := true, auto := true, ins := [], res := (RB r1), G' := [] }, dec := some true }, { i := 7, call := some { cl := true, auto := true, ins := [], res := (RB r3), G' := [] }, dec := some true }, hT 19], r0] (by kernel_rfl) (P1 (ci_inRange hr1) <| P2 (r1 = true) (h2) <| P1 (ci_inRange hr3) <| P2 (r3 = true) (h4) <| P2 (((((a0.Terrain.length : Nat) : Int) : Int) != (IntKind.wrap .i64 (a0.Width * a0.Height))) = true) (bneT h5) <| P0)))
    (fun h4 H =>
      eW RB (fun _ => []) H <| gE func59 [rg [{ i := 2, call := some { cl := true, auto := true, ins := [], res := (RB r1), G' := [] }, dec := some true }, { i := 7, call := some { cl := true, auto := true, ins := [], res := (RB r3), G' := [] }, dec := some false }], r0] (by kernel_rfl) (P1 (ci_inRange hr1) <| P2 (r1 = true) (h2) <| P1 (ci_inRange hr3) <| P2 (r3 = false) (eqF h4) <| P0)))
  (fun h2 H =>
    eW RB (fun _ => []) H <| gE func59 [rg [{ i := 2, call := some { cl := true, auto := true, ins := [], res := (RB r1), G' := [] }, dec := some false }], r0] (by kernel_rfl) (P1 (ci_inRange hr1) <| P2 (r1 = false) (eqF h2) <| P0))
/-! loop example/g00886/impl IsBoard 1 -/
theorem ci_IsBoard_1 {a0 : Int} {a1 : Gi_Board} {r : Bool} (H : Di_IsBoard_1 a0 a1 = some r) : Ct X.P X.gl 61 [I a0, .fptr 12 [.agg [sl 5 gi_Terrain a1.Rules.Terrains, sl 6 gi_Kind a1.Rules.Kinds, I a1.Rules.Stack, I a1.Rules.River, I a1.Rules.Road, I a1.Rules.Supply, I a1.Rules.Turns, I a1.Map.Width, I a1.Map.Height, sl 1 I a1.Map.Terrain, sl 1 I a1.Map.Rivers, sl 1 I a1.Map.Roads]] 0 0] [] (RB r) [] :=
  Ct.of func61 (c := bdy f61) (by kernel_rfl) (by kernel_rfl) <|
  eW RB (fun _ => []) H <| gE func61 [r0, r0] (by kernel_rfl) P0
/-! slices IndexFunc   int int  -/
noncomputable def Kslices_IndexFunc_int_i_IsBoard_1 : Sslices_IndexFunc_int_i_IsBoard_1 → List Item
  | .h1 .. => nav 300 2 [] [.code (bdy f76)]
def Zslices_IndexFunc_int_i_IsBoard_1 : Sslices_IndexFunc_int_i_IsBoard_1 → St
  | .h1 s0 f1 t2 t3 => ⟨sts 19 [(0, sl 1 I s0), (1, .fn 61 [.fptr 12 [.agg [sl 5 gi_Terrain f1.Rules.Terrains, sl 6 gi_Kind f1.Rules.Kinds, I f1.Rules.Stack, I f1.Rules.River, I f1.Rules.Road, I f1.Rules.Supply, I f1.Rules.Turns, I f1.Map.Width, I f1.Map.Height, sl 1 I f1.Map.Terrain, sl 1 I f1.Map.Rivers, sl 1 I f1.Map.Roads]] 0 0]), (7, I t2), (8, I t3)], []⟩
abbrev Qslices_IndexFunc_int_i_IsBoard_1 := Nx X 76 0 Kslices_IndexFunc_int_i_IsBoard_1 Zslices_IndexFunc_int_i_IsBoard_1 RI (fun _ => [])
theorem nslices_IndexFunc_int_i_IsBoard_1 : ∀ s o, Bslices_IndexFunc_int_i_IsBoard_1 s = some o → Qslices_IndexFunc_int_i_IsBoard_1 (Kslices_IndexFunc_int_i_IsBoard_1 s) (Zslices_IndexFunc_int_i_IsBoard_1 s) o
  | .h1 s0 f1 t2 t3, o, H =>
    eIf H (fun h1 H =>
      eCk H fun h2 H =>
      eBind H fun x3 hx3 H =>
      eBind H fun r4 hr4 H =>
      gN [rg [hT 0], r0] (by kernel_rfl) (P2 ((decide (t3 < t2)) = true) (decide_eq_true h1) <| P0) <|
      eIf H (fun h5 H =>
        eN H <| gE func76 [rg [hE 4 (I x3), { i := 5, call := some { cl := true, auto := true, ins := [], res := (RB r4), G' := [] }, dec := some true }], r0] (by kernel_rfl) (P1 h2 <| P1 (int_lt_of_at h2 hx3) <| P1 (at_map I hx3) <| P1 (ci_IsBoard_1 hr4) <| P2 (r4 = true) (h5) <| P0))
      (fun h5 H =>
        eN H fun r hn => gO [rg [hE 4 (I x3), { i := 5, call := some { cl := true, auto := true, ins := [], res := (RB r4), G' := [] }, dec := some false }], r0, .canon [] [0, 1, 7, 8]] (by kernel_rfl) (P1 h2 <| P1 (int_lt_of_at h2 hx3) <| P1 (at_map I hx3) <| P1 (ci_IsBoard_1 hr4) <| P2 (r4 = false) (eqF h5) <| P0) hn))
    (fun h1 H =>
      eN H <| gE func76 [rg [hF 0], r0] (by kernel_rfl) (P2 ((decide (t3 < t2)) = false) (decide_eq_false h1) <| P0))
theorem wslices_IndexFunc_int_i_IsBoard_1 : ∀ s r, loop Bslices_IndexFunc_int_i_IsBoard_1 s = some r → Wc X 76 0 (Kslices_IndexFunc_int_i_IsBoard_1 s) (Zslices_IndexFunc_int_i_IsBoard_1 s) (RI r) ((fun _ => []) r) := Nx.all (nslices_IndexFunc_int_i_IsBoard_1)
theorem cslices_IndexFunc_int_i_IsBoard_1 {a0 : (List Int)} {a100 : Gi_Board} {r : Int} (H : Dslices_IndexFunc_int_i_IsBoard_1 a0 a100 = some r) : Ct X.P X.gl 76 [sl 1 I a0, .fn 61 [.fptr 12 [.agg [sl 5 gi_Terrain a100.Rules.Terrains, sl 6 gi_Kind a100.Rules.Kinds, I a100.Rules.Stack, I a100.Rules.River, I a100.Rules.Road, I a100.Rules.Supply, I a100.Rules.Turns, I a100.Map.Width, I a100.Map.Height, sl 1 I a100.Map.Terrain, sl 1 I a100.Map.Rivers, sl 1 I a100.Map.Roads]] 0 0]] [] (RI r) [] :=
  Ct.of func76 (c := bdy f76) (by kernel_rfl) (by kernel_rfl) <|
  gO [r0, r0, .canon [] [0, 1, 7, 8]] (by kernel_rfl) P0 (wslices_IndexFunc_int_i_IsBoard_1 _ _ H)
/-! slices ContainsFunc   int int  -/
theorem cslices_ContainsFunc_int_i_IsBoard_1 {a0 : (List Int)} {a100 : Gi_Board} {r : Bool} (H : Dslices_ContainsFunc_int_i_IsBoard_1 a0 a100 = some r) : Ct X.P X.gl 60 [sl 1 I a0, .fn 61 [.fptr 12 [.agg [sl 5 gi_Terrain a100.Rules.Terrains, sl 6 gi_Kind a100.Rules.Kinds, I a100.Rules.Stack, I a100.Rules.River, I a100.Rules.Road, I a100.Rules.Supply, I a100.Rules.Turns, I a100.Map.Width, I a100.Map.Height, sl 1 I a100.Map.Terrain, sl 1 I a100.Map.Rivers, sl 1 I a100.Map.Roads]] 0 0]] [] (RB r) [] :=
  Ct.of func60 (c := bdy f60) (by kernel_rfl) (by kernel_rfl) <|
  eBind H fun r1 hr1 H =>
  eW RB (fun _ => []) H <| gE func60 [r0, rg [hC 2 true [] (RI r1) []]] (by kernel_rfl) (P1 (cslices_IndexFunc_int_i_IsBoard_1 hr1) <| P0)
/-! loop example/g00886/impl IsBoard -/
theorem ci_IsBoard {a0 : Gi_Board} {r : Bool} (H : Di_IsBoard a0 = some r) : Ct X.P X.gl 43 [.agg [sl 5 gi_Terrain a0.Rules.Terrains, sl 6 gi_Kind a0.Rules.Kinds, I a0.Rules.Stack, I a0.Rules.River, I a0.Rules.Road, I a0.Rules.Supply, I a0.Rules.Turns, I a0.Map.Width, I a0.Map.Height, sl 1 I a0.Map.Terrain, sl 1 I a0.Map.Rivers, sl 1 I a0.Map.Roads]] [] (RB r) [] :=
  Ct.of func43 (c := bdy f43) (by kernel_rfl) (by kernel_rfl) <|
  eBind H fun r1 hr1 H =>
  gS [r0] (by kernel_rfl) P0 <|
  eIf H (fun h2 H =>
    eBind H fun r3 hr3 H =>
    eIf H (fun h4 H =>
      eBind H fun r5 hr5 H =>
      eW RB (fun _ => []) H <| gE func43 [rg [{ i := 2, call := some { cl := true, auto := true, ins := [], res := (RB r1), G' := [] }, dec := some true }, { i := 7, call := some { cl := true, auto := true, ins := [], res := (RB r3), G' := [] }, dec := some true }], rg [hC 4 false [] (RB r5) []]] (by kernel_rfl) (P1 (ci_IsRules hr1) <| P2 (r1 = true) (h2) <| P1 (ci_IsMap hr3) <| P2 (r3 = true) (h4) <| P1 (cslices_ContainsFunc_int_i_IsBoard_1 hr5) <| P0))
    (fun h4 H =>
      eW RB (fun _ => []) H <| gE func43 [rg [{ i := 2, call := some { cl := true, auto := true, ins := [], res := (RB r1), G' := [] }, dec := some true }, { i := 7, call := some { cl := true, auto := true, ins := [], res := (RB r3), G' := [] }, dec := some false }], r0] (by kernel_rfl) (P1 (ci_IsRules hr1) <| P2 (r1 = true) (h2) <| P1 (ci_IsMap hr3) <| P2 (r3 = false) (eqF h4) <| P0)))
  (fun h2 H =>
    eW RB (fun _ => []) H <| gE func43 [rg [{ i := 2, call := some { cl := true, auto := true, ins := [], res := (RB r1), G' := [] }, dec := some false }], r0] (by kernel_rfl) (P1 (ci_IsRules hr1) <| P2 (r1 = false) (eqF h2) <| P0))
/-! loop example/g00886/impl isSide -/
theorem ci_isSide {a0 : Int} {r : Bool} (H : Di_isSide a0 = some r) : Ct X.P X.gl 62 [I a0] [] (RB r) [] :=
  Ct.of func62 (c := bdy f62) (by kernel_rfl) (by kernel_rfl) <|
  eBind H fun r1 hr1 H =>
  eW RB (fun _ => []) H <| gE func62 [r0, rg [hC 1 true [] (RB r1) []]] (by kernel_rfl) (P1 (ci_inRange hr1) <| P0)
/-! loop example/g00886/impl sizeOf -/
theorem ci_sizeOf {a0 : Gi_Board} {r : Int} (H : Di_sizeOf a0 = some r) : Ct X.P X.gl 63 [.agg [sl 5 gi_Terrain a0.Rules.Terrains, sl 6 gi_Kind a0.Rules.Kinds, I a0.Rules.Stack, I a0.Rules.River, I a0.Rules.Road, I a0.Rules.Supply, I a0.Rules.Turns, I a0.Map.Width, I a0.Map.Height, sl 1 I a0.Map.Terrain, sl 1 I a0.Map.Rivers, sl 1 I a0.Map.Roads]] [] (RI r) [] :=
  Ct.of func63 (c := bdy f63) (by kernel_rfl) (by kernel_rfl) <|
  eW RI (fun _ => []) H <| gE func63 [r0, r0] (by kernel_rfl) P0
/-! loop example/g00886/impl goodWorks 1 -/
theorem ci_goodWorks_1 {a0 : Int} {a1 : Gi_Board} {r : Bool} (H : Di_goodWorks_1 a0 a1 = some r) : Ct X.P X.gl 64 [I a0, .fptr 12 [.agg [sl 5 gi_Terrain a1.Rules.Terrains, sl 6 gi_Kind a1.Rules.Kinds, I a1.Rules.Stack, I a1.Rules.River, I a1.Rules.Road, I a1.Rules.Supply, I a1.Rules.Turns, I a1.Map.Width, I a1.Map.Height, sl 1 I a1.Map.Terrain, sl 1 I a1.Map.Rivers, sl 1 I a1.Map.Roads]] 0 0] [] (RB r) [] :=
  Ct.of func64 (c := bdy f64) (by kernel_rfl) (by kernel_rfl) <|
  eBind H fun r1 hr1 H =>
  eW RB (fun _ => []) H <| gE func64 [r0, rg [hC 5 true [] (RB r1) []]] (by kernel_rfl) (P1 (ci_isIndex hr1) <| P0)
/-! slices IndexFunc   int int  -/
noncomputable def Kslices_IndexFunc_int_i_goodWorks_1 : Sslices_IndexFunc_int_i_goodWorks_1 → List Item
  | .h1 .. => nav 300 2 [] [.code (bdy f76)]
def Zslices_IndexFunc_int_i_goodWorks_1 : Sslices_IndexFunc_int_i_goodWorks_1 → St
  | .h1 s0 f1 t2 t3 => ⟨sts 19 [(0, sl 1 I s0), (1, .fn 64 [.fptr 12 [.agg [sl 5 gi_Terrain f1.Rules.Terrains, sl 6 gi_Kind f1.Rules.Kinds, I f1.Rules.Stack, I f1.Rules.River, I f1.Rules.Road, I f1.Rules.Supply, I f1.Rules.Turns, I f1.Map.Width, I f1.Map.Height, sl 1 I f1.Map.Terrain, sl 1 I f1.Map.Rivers, sl 1 I f1.Map.Roads]] 0 0]), (7, I t2), (8, I t3)], []⟩
abbrev Qslices_IndexFunc_int_i_goodWorks_1 := Nx X 76 0 Kslices_IndexFunc_int_i_goodWorks_1 Zslices_IndexFunc_int_i_goodWorks_1 RI (fun _ => [])
theorem nslices_IndexFunc_int_i_goodWorks_1 : ∀ s o, Bslices_IndexFunc_int_i_goodWorks_1 s = some o → Qslices_IndexFunc_int_i_goodWorks_1 (Kslices_IndexFunc_int_i_goodWorks_1 s) (Zslices_IndexFunc_int_i_goodWorks_1 s) o
  | .h1 s0 f1 t2 t3, o, H =>
    eIf H (fun h1 H =>
      eCk H fun h2 H =>
      eBind H fun x3 hx3 H =>
      eBind H fun r4 hr4 H =>
      gN [rg [hT 0], r0] (by kernel_rfl) (P2 ((decide (t3 < t2)) = true) (decide_eq_true h1) <| P0) <|
      eIf H (fun h5 H =>
        eN H <| gE func76 [rg [hE 4 (I x3), { i := 5, call := some { cl := true, auto := true, ins := [], res := (RB r4), G' := [] }, dec := some true }], r0] (by kernel_rfl) (P1 h2 <| P1 (int_lt_of_at h2 hx3) <| P1 (at_map I hx3) <| P1 (ci_goodWorks_1 hr4) <| P2 (r4 = true) (h5) <| P0))
      (fun h5 H =>
        eN H fun r hn => gO [rg [hE 4 (I x3), { i := 5, call := some { cl := true, auto := true, ins := [], res := (RB r4), G' := [] }, dec := some false }], r0, .canon [] [0, 1, 7, 8]] (by kernel_rfl) (P1 h2 <| P1 (int_lt_of_at h2 hx3) <| P1 (at_map I hx3) <| P1 (ci_goodWorks_1 hr4) <| P2 (r4 = false) (eqF h5) <| P0) hn))
    (fun h1 H =>
      eN H <| gE func76 [rg [hF 0], r0] (by kernel_rfl) (P2 ((decide (t3 < t2)) = false) (decide_eq_false h1) <| P0))
theorem wslices_IndexFunc_int_i_goodWorks_1 : ∀ s r, loop Bslices_IndexFunc_int_i_goodWorks_1 s = some r → Wc X 76 0 (Kslices_IndexFunc_int_i_goodWorks_1 s) (Zslices_IndexFunc_int_i_goodWorks_1 s) (RI r) ((fun _ => []) r) := Nx.all (nslices_IndexFunc_int_i_goodWorks_1)
theorem cslices_IndexFunc_int_i_goodWorks_1 {a0 : (List Int)} {a100 : Gi_Board} {r : Int} (H : Dslices_IndexFunc_int_i_goodWorks_1 a0 a100 = some r) : Ct X.P X.gl 76 [sl 1 I a0, .fn 64 [.fptr 12 [.agg [sl 5 gi_Terrain a100.Rules.Terrains, sl 6 gi_Kind a100.Rules.Kinds, I a100.Rules.Stack, I a100.Rules.River, I a100.Rules.Road, I a100.Rules.Supply, I a100.Rules.Turns, I a100.Map.Width, I a100.Map.Height, sl 1 I a100.Map.Terrain, sl 1 I a100.Map.Rivers, sl 1 I a100.Map.Roads]] 0 0]] [] (RI r) [] :=
  Ct.of func76 (c := bdy f76) (by kernel_rfl) (by kernel_rfl) <|
  gO [r0, r0, .canon [] [0, 1, 7, 8]] (by kernel_rfl) P0 (wslices_IndexFunc_int_i_goodWorks_1 _ _ H)
/-! slices ContainsFunc   int int  -/
theorem cslices_ContainsFunc_int_i_goodWorks_1 {a0 : (List Int)} {a100 : Gi_Board} {r : Bool} (H : Dslices_ContainsFunc_int_i_goodWorks_1 a0 a100 = some r) : Ct X.P X.gl 60 [sl 1 I a0, .fn 64 [.fptr 12 [.agg [sl 5 gi_Terrain a100.Rules.Terrains, sl 6 gi_Kind a100.Rules.Kinds, I a100.Rules.Stack, I a100.Rules.River, I a100.Rules.Road, I a100.Rules.Supply, I a100.Rules.Turns, I a100.Map.Width, I a100.Map.Height, sl 1 I a100.Map.Terrain, sl 1 I a100.Map.Rivers, sl 1 I a100.Map.Roads]] 0 0]] [] (RB r) [] :=
  Ct.of func60 (c := bdy f60) (by kernel_rfl) (by kernel_rfl) <|
  eBind H fun r1 hr1 H =>
  eW RB (fun _ => []) H <| gE func60 [r0, rg [hC 2 true [] (RI r1) []]] (by kernel_rfl) (P1 (cslices_IndexFunc_int_i_goodWorks_1 hr1) <| P0)
/-! loop example/g00886/impl goodWorks -/
theorem ci_goodWorks {a0 : Gi_Board} {a1 : Gi_Works} {r : Bool} (H : Di_goodWorks a0 a1 = some r) : Ct X.P X.gl 44 [.agg [sl 5 gi_Terrain a0.Rules.Terrains, sl 6 gi_Kind a0.Rules.Kinds, I a0.Rules.Stack, I a0.Rules.River, I a0.Rules.Road, I a0.Rules.Supply, I a0.Rules.Turns, I a0.Map.Width, I a0.Map.Height, sl 1 I a0.Map.Terrain, sl 1 I a0.Map.Rivers, sl 1 I a0.Map.Roads], .agg [I a1.Side, I a1.At, I a1.Points, sl 1 I a1.Queue]] [] (RB r) [] :=
  Ct.of func44 (c := bdy f44) (by kernel_rfl) (by kernel_rfl) <|
  eBind H fun r1 hr1 H =>
  gS [r0] (by kernel_rfl) P0 <|
  eIf H (fun h2 H =>
    eBind H fun r3 hr3 H =>
    eBind H fun r4 hr4 H =>
    eIf H (fun h5 H =>
      eBind H fun r6 hr6 H =>
      eIf H (fun h7 H =>
        eIf H (fun h8 H =>
          eW RB (fun _ => []) H <| gE func44 [rg [{ i := 2, call := some { cl := true, auto := true, ins := [], res := (RB r1), G' := [] }, dec := some true }, hC 8 true [] (RI r3) [], { i := 9, call := some { cl := true, auto := true, ins := [], res := (RB r4), G' := [] }, dec := some true }, { i := 15, call := some { cl := true, auto := true, ins := [], res := (RB r6), G' := [] }, dec := some true }, hT 22], r0] (by kernel_rfl) (P1 (ci_isSide hr1) <| P2 (r1 = true) (h2) <| P1 (ci_sizeOf hr3) <| P1 (ci_isIndex hr4) <| P2 (r4 = true) (h5) <| P1 (ci_inRange hr6) <| P2 (r6 = true) (h7) <| P2 ((decide (((a1.Queue.length : Nat) : Int) > 8)) = true) (decide_eq_true h8) <| P0))
        (fun h8 H =>
          eBind H fun r9 hr9 H =>
          eW RB (fun _ => []) H <| gE func44 [rg [{ i := 2, call := some { cl := true, auto := true, ins := [], res := (RB r1), G' := [] }, dec := some true }, hC 8 true [] (RI r3) [], { i := 9, call := some { cl := true, auto := true, ins := [], res := (RB r4), G' := [] }, dec := some true }, { i := 15, call := some { cl := true, auto := true, ins := [], res := (RB r6), G' := [] }, dec := some true }, hF 22], rg [hC 3 false [] (RB r9) []]] (by kernel_rfl) (P1 (ci_isSide hr1) <| P2 (r1 = true) (h2) <| P1 (ci_sizeOf hr3) <| P1 (ci_isIndex hr4) <| P2 (r4 = true) (h5) <| P1 (ci_inRange hr6) <| P2 (r6 = true) (h7) <| P2 ((decide (((a1.Queue.length : Nat) : Int) > 8)) = false) (decide_eq_false h8) <| P1 (cslices_ContainsFunc_int_i_goodWorks_1 hr9) <| P0)))
      (fun h7 H =>
        eW RB (fun _ => []) H <| gE func44 [rg [{ i := 2, call := some { cl := true, auto := true, ins := [], res := (RB r1), G' := [] }, dec := some true }, hC 8 true [] (RI r3) [], { i := 9, call := some { cl := true, auto := true, ins := [], res := (RB r4), G' := [] }, dec := some true }, { i := 15, call := some { cl := true, auto := true, ins := [], res := (RB r6), G' := [] }, dec := some false }], r0] (by kernel_rfl) (P1 (ci_isSide hr1) <| P2 (r1 = true) (h2) <| P1 (ci_sizeOf hr3) <| P1 (ci_isIndex hr4) <| P2 (r4 = true) (h5) <| P1 (ci_inRange hr6) <| P2 (r6 = false) (eqF h7) <| P0)))
    (fun h5 H =>
      eW RB (fun _ => []) H <| gE func44 [rg [{ i := 2, call := some { cl := true, auto := true, ins := [], res := (RB r1), G' := [] }, dec := some true }, hC 8 true [] (RI r3) [], { i := 9, call := some { cl := true, auto := true, ins := [], res := (RB r4), G' := [] }, dec := some false }], r0] (by kernel_rfl) (P1 (ci_isSide hr1) <| P2 (r1 = true) (h2) <| P1 (ci_sizeOf hr3) <| P1 (ci_isIndex hr4) <| P2 (r4 = false) (eqF h5) <| P0)))
  (fun h2 H =>
    eW RB (fun _ => []) H <| gE func44 [rg [{ i := 2, call := some { cl := true, auto := true, ins := [], res := (RB r1), G' := [] }, dec := some false }], r0] (by kernel_rfl) (P1 (ci_isSide hr1) <| P2 (r1 = false) (eqF h2) <| P0))
/-! loop example/g00886/impl hasWorks -/
theorem ci_hasWorks {a0 : Gi_Board} {a1 : Gi_Works} {r : Bool} (H : Di_hasWorks a0 a1 = some r) : Ct X.P X.gl 19 [.agg [sl 5 gi_Terrain a0.Rules.Terrains, sl 6 gi_Kind a0.Rules.Kinds, I a0.Rules.Stack, I a0.Rules.River, I a0.Rules.Road, I a0.Rules.Supply, I a0.Rules.Turns, I a0.Map.Width, I a0.Map.Height, sl 1 I a0.Map.Terrain, sl 1 I a0.Map.Rivers, sl 1 I a0.Map.Roads], .agg [I a1.Side, I a1.At, I a1.Points, sl 1 I a1.Queue]] [] (RB r) [] :=
  Ct.of func19 (c := bdy f19) (by kernel_rfl) (by kernel_rfl) <|
  eBind H fun r1 hr1 H =>
  gS [r0] (by kernel_rfl) P0 <|
  eIf H (fun h2 H =>
    eBind H fun r3 hr3 H =>
    eW RB (fun _ => []) H <| gE func19 [rg [{ i := 1, call := some { cl := true, auto := true, ins := [], res := (RB r1), G' := [] }, dec := some true }, hC 5 true [] (RB r3) []]] (by kernel_rfl) (P1 (ci_IsBoard hr1) <| P2 (r1 = true) (h2) <| P1 (ci_goodWorks hr3) <| P0))
  (fun h2 H =>
    eW RB (fun _ => []) H <| gE func19 [rg [{ i := 1, call := some { cl := true, auto := true, ins := [], res := (RB r1), G' := [] }, dec := some false }]] (by kernel_rfl) (P1 (ci_IsBoard hr1) <| P2 (r1 = false) (eqF h2) <| P0))
/-! slices Clone -/
def Rslices_Clone_int (r : List Int) : List D := [ow 1 I r]
theorem cslices_Clone_int {l r : List Int} (H : Dslices_Clone_int l = some r) : Ct X.P X.gl 46 [sl 1 I l] [] (Rslices_Clone_int r) [] :=
  eCk H fun h H => eRet (P := fun r => Ct X.P X.gl 46 [sl 1 I l] [] (Rslices_Clone_int r) []) H <|
    Ct.of func46 (c := bdy f46) (by kernel_rfl) (by kernel_rfl) <| by
      by_cases h0 : 0 < l.length
      · exact gE func46 [r0, rg [{ i := 1, keep := true }], rg [{ i := 2, n := l.length, xs := List.map I l }]] (by kernel_rfl) (P1 h0 <| P1 (allFl_3 l) <| P2 (l.length = 0 + l.length) (by simp) <| P2 ((0 + l.length) * 8 ≤ 70368744177664) (by simpa using h) <| P2 (([] : List D) ++ List.map I l = List.map I l) rfl P0)
      · have e : l = [] := by cases l with | nil => rfl | cons x l => exact absurd (Nat.succ_pos _) h0
        subst e
        refine gO [r0, r0, .stop] (k' := nav 300 2 [] [.code (bdy f46)]) (σ' := ⟨sts 8 [(0, sl 1 I []), (2, .nil), (3, sl 1 I []), (4, .anyb)], []⟩) (by kernel_rfl) P0 (Wc.anyb 4 (by kernel_rfl) fun b => ?_)
        cases b with
        | true => exact gE func46 [r0] (by kernel_rfl) P0
        | false =>
          have h : ([] : List Int).length * 8 ≤ 70368744177664 := by decide
          have : Wc X 46 0 (nav 300 2 [] [.code (bdy f46)]) ⟨sts 8 [(0, sl 1 I []), (2, .nil), (3, sl 1 I []), (4, .bool false)], []⟩ (Rslices_Clone_int []) [] := by
            generalize hl : ([] : List Int) = l at h ⊢
            exact gE func46 [ rg [{ i := 2, n := l.length, xs := List.map I l }]] (by kernel_rfl) ( P1 (allFl_3 l) <| P2 (l.length = 0 + l.length) (by simp) <| P2 ((0 + l.length) * 8 ≤ 70368744177664) (by simpa using h) <| P2 (([] : List D) ++ List.map I l = List.map I l) rfl P0)
          exact this
/-! loop example/g00886/impl cloneWorks -/
def Ri_cloneWorks (r : Gi_Works) : List D := [.agg [I r.Side, I r.At, I r.Points, ow 1 I r.Queue]]
theorem ci_cloneWorks {a0 : Gi_Works} {r : Gi_Works} (H : Di_cloneWorks a0 = some r) : Ct X.P X.gl 21 [.agg [I a0.Side, I a0.At, I a0.Points, sl 1 I a0.Queue]] [] (Ri_cloneWorks r) [] :=
  Ct.of func21 (c := bdy f21) (by kernel_rfl) (by kernel_rfl) <|
  eBind H fun r1 hr1 H =>
  eW Ri_cloneWorks (fun _ => []) H <| gE func21 [r0, rg [hC 2 true [] (Rslices_Clone_int r1) []], r0] (by kernel_rfl) (P1 (cslices_Clone_int hr1) <| P0)
/-! loop example/g00886/impl AppendKind -/
def Ri_AppendKind (r : Gi_Works × Bool) : List D := [.agg [I r.1.Side, I r.1.At, I r.1.Points, ow 1 I r.1.Queue], .bool r.2]
theorem ci_AppendKind {a0 : Gi_Board} {a1 : Gi_Works} {a2 : Int} {r : Gi_Works × Bool} (H : Di_AppendKind a0 a1 a2 = some r) : Ct X.P X.gl 5 [.agg [sl 5 gi_Terrain a0.Rules.Terrains, sl 6 gi_Kind a0.Rules.Kinds, I a0.Rules.Stack, I a0.Rules.River, I a0.Rules.Road, I a0.Rules.Supply, I a0.Rules.Turns, I a0.Map.Width, I a0.Map.Height, sl 1 I a0.Map.Terrain, sl 1 I a0.Map.Rivers, sl 1 I a0.Map.Roads], .agg [I a1.Side, I a1.At, I a1.Points, sl 1 I a1.Queue], I a2] [] (Ri_AppendKind r) [] :=
  Ct.of func5 (c := bdy f5) (by kernel_rfl) (by kernel_rfl) <|
  eBind H fun r1 hr1 H =>
  gS [r0] (by kernel_rfl) P0 <|
  eIf H (fun h2 H =>
    eBind H fun r3 hr3 H =>
    eIf H (fun h4 H =>
      eIf H (fun h5 H =>
        eW Ri_AppendKind (fun _ => []) H <| gE func5 [rg [{ i := 2, call := some { cl := true, auto := true, ins := [], res := (RB r1), G' := [] }, dec := some true }, { i := 10, call := some { cl := true, auto := true, ins := [], res := (RB r3), G' := [] }, dec := some true }, hT 17], r0] (by kernel_rfl) (P1 (ci_hasWorks hr1) <| P2 (r1 = true) (h2) <| P1 (ci_isIndex hr3) <| P2 (r3 = true) (h4) <| P2 (((((a1.Queue.length : Nat) : Int) : Int) == 8) = true) (beqT h5) <| P0))
      (fun h5 H =>
        eBind H fun r6 hr6 H =>
        eCk H fun h7 H =>
        eW Ri_AppendKind (fun _ => []) H <| gE func5 [rg [{ i := 2, call := some { cl := true, auto := true, ins := [], res := (RB r1), G' := [] }, dec := some true }, { i := 10, call := some { cl := true, auto := true, ins := [], res := (RB r3), G' := [] }, dec := some true }, hF 17], rg [hC 1 true [] (Ri_cloneWorks r6) []], rg [hA 4 ((r6.Queue ++ [a2]).length) (List.map I (r6.Queue ++ [a2]))], r0] (by kernel_rfl) (P1 (ci_hasWorks hr1) <| P2 (r1 = true) (h2) <| P1 (ci_isIndex hr3) <| P2 (r3 = true) (h4) <| P2 (((((a1.Queue.length : Nat) : Int) : Int) == 8) = false) (beqF h5) <| P1 (ci_cloneWorks hr6) <| P1 (apL r6.Queue [a2]) <| P1 (apB h7) <| P1 (apM I r6.Queue [a2]) <| P0)))
    (fun h4 H =>
      eW Ri_AppendKind (fun _ => []) H <| gE func5 [rg [{ i := 2, call := some { cl := true, auto := true, ins := [], res := (RB r1), G' := [] }, dec := some true }, { i := 10, call := some { cl := true, auto := true, ins := [], res := (RB r3), G' := [] }, dec := some false }], r0] (by kernel_rfl) (P1 (ci_hasWorks hr1) <| P2 (r1 = true) (h2) <| P1 (ci_isIndex hr3) <| P2 (r3 = false) (eqF h4) <| P0)))
  (fun h2 H =>
    eW Ri_AppendKind (fun _ => []) H <| gE func5 [rg [{ i := 2, call := some { cl := true, auto := true, ins := [], res := (RB r1), G' := [] }, dec := some false }], r0] (by kernel_rfl) (P1 (ci_hasWorks hr1) <| P2 (r1 = false) (eqF h2) <| P0))
/-! loop example/g00886/spec pdGood -/
theorem cs_pdGood {a0 : Gi_Board} {a1 : Gi_Works} {r : Bool} (H : Ds_pdGood a0 a1 = some r) : Ct X.P X.gl 22 [.agg [sl 5 gi_Terrain a0.Rules.Terrains, sl 6 gi_Kind a0.Rules.Kinds, I a0.Rules.Stack, I a0.Rules.River, I a0.Rules.Road, I a0.Rules.Supply, I a0.Rules.Turns, I a0.Map.Width, I a0.Map.Height, sl 1 I a0.Map.Terrain, sl 1 I a0.Map.Rivers, sl 1 I a0.Map.Roads], .agg [I a1.Side, I a1.At, I a1.Points, sl 1 I a1.Queue]] [] (RB r) [] :=
  Ct.of func22 (c := bdy f22) (by kernel_rfl) (by kernel_rfl) <|
  eBind H fun r1 hr1 H =>
  gS [r0] (by kernel_rfl) P0 <|
  eIf H (fun h2 H =>
    eBind H fun r3 hr3 H =>
    eIf H (fun h4 H =>
      eBind H fun r5 hr5 H =>
      eBind H fun r6 hr6 H =>
      eIf H (fun h7 H =>
        eBind H fun r8 hr8 H =>
        eIf H (fun h9 H =>
          eIf H (fun h10 H =>
            eBind H fun r11 hr11 H =>
            eW RB (fun _ => []) H <| gE func22 [rg [{ i := 1, call := some { cl := true, auto := true, ins := [], res := (RB r1), G' := [] }, dec := some true }, { i := 5, call := some { cl := true, auto := true, ins := [], res := (RB r3), G' := [] }, dec := some true }, hC 12 true [] (RI r5) [], { i := 14, call := some { cl := true, auto := true, ins := [], res := (RB r6), G' := [] }, dec := some true }, { i := 19, call := some { cl := true, auto := true, ins := [], res := (RB r8), G' := [] }, dec := some true }, hT 25, hC 35 true [] (RB r11) []]] (by kernel_rfl) (P1 (cs_bGood hr1) <| P2 (r1 = true) (h2) <| P1 (cs_l1In hr3) <| P2 (r3 = true) (h4) <| P1 (cs_mSize hr5) <| P1 (cs_l1In hr6) <| P2 (r6 = true) (h7) <| P1 (cs_l1In hr8) <| P2 (r8 = true) (h9) <| P2 ((decide (((a1.Queue.length : Nat) : Int) ≤ 8)) = true) (decide_eq_true h10) <| P1 (cs_l1All hr11) <| P0))
          (fun h10 H =>
            eW RB (fun _ => []) H <| gE func22 [rg [{ i := 1, call := some { cl := true, auto := true, ins := [], res := (RB r1), G' := [] }, dec := some true }, { i := 5, call := some { cl := true, auto := true, ins := [], res := (RB r3), G' := [] }, dec := some true }, hC 12 true [] (RI r5) [], { i := 14, call := some { cl := true, auto := true, ins := [], res := (RB r6), G' := [] }, dec := some true }, { i := 19, call := some { cl := true, auto := true, ins := [], res := (RB r8), G' := [] }, dec := some true }, hF 25]] (by kernel_rfl) (P1 (cs_bGood hr1) <| P2 (r1 = true) (h2) <| P1 (cs_l1In hr3) <| P2 (r3 = true) (h4) <| P1 (cs_mSize hr5) <| P1 (cs_l1In hr6) <| P2 (r6 = true) (h7) <| P1 (cs_l1In hr8) <| P2 (r8 = true) (h9) <| P2 ((decide (((a1.Queue.length : Nat) : Int) ≤ 8)) = false) (decide_eq_false h10) <| P0)))
        (fun h9 H =>
          eW RB (fun _ => []) H <| gE func22 [rg [{ i := 1, call := some { cl := true, auto := true, ins := [], res := (RB r1), G' := [] }, dec := some true }, { i := 5, call := some { cl := true, auto := true, ins := [], res := (RB r3), G' := [] }, dec := some true }, hC 12 true [] (RI r5) [], { i := 14, call := some { cl := true, auto := true, ins := [], res := (RB r6), G' := [] }, dec := some true }, { i := 19, call := some { cl := true, auto := true, ins := [], res := (RB r8), G' := [] }, dec := some false }]] (by kernel_rfl) (P1 (cs_bGood hr1) <| P2 (r1 = true) (h2) <| P1 (cs_l1In hr3) <| P2 (r3 = true) (h4) <| P1 (cs_mSize hr5) <| P1 (cs_l1In hr6) <| P2 (r6 = true) (h7) <| P1 (cs_l1In hr8) <| P2 (r8 = false) (eqF h9) <| P0)))
      (fun h7 H =>
        eW RB (fun _ => []) H <| gE func22 [rg [{ i := 1, call := some { cl := true, auto := true, ins := [], res := (RB r1), G' := [] }, dec := some true }, { i := 5, call := some { cl := true, auto := true, ins := [], res := (RB r3), G' := [] }, dec := some true }, hC 12 true [] (RI r5) [], { i := 14, call := some { cl := true, auto := true, ins := [], res := (RB r6), G' := [] }, dec := some false }]] (by kernel_rfl) (P1 (cs_bGood hr1) <| P2 (r1 = true) (h2) <| P1 (cs_l1In hr3) <| P2 (r3 = true) (h4) <| P1 (cs_mSize hr5) <| P1 (cs_l1In hr6) <| P2 (r6 = false) (eqF h7) <| P0)))
    (fun h4 H =>
      eW RB (fun _ => []) H <| gE func22 [rg [{ i := 1, call := some { cl := true, auto := true, ins := [], res := (RB r1), G' := [] }, dec := some true }, { i := 5, call := some { cl := true, auto := true, ins := [], res := (RB r3), G' := [] }, dec := some false }]] (by kernel_rfl) (P1 (cs_bGood hr1) <| P2 (r1 = true) (h2) <| P1 (cs_l1In hr3) <| P2 (r3 = false) (eqF h4) <| P0)))
  (fun h2 H =>
    eW RB (fun _ => []) H <| gE func22 [rg [{ i := 1, call := some { cl := true, auto := true, ins := [], res := (RB r1), G' := [] }, dec := some false }]] (by kernel_rfl) (P1 (cs_bGood hr1) <| P2 (r1 = false) (eqF h2) <| P0))
/-! loop example/g00886/spec bAt -/
theorem cs_bAt {a0 : Gi_Board} {a1 : Int} {a2 : Int} {r : Bool} (H : Ds_bAt a0 a1 a2 = some r) : Ct X.P X.gl 23 [.agg [sl 5 gi_Terrain a0.Rules.Terrains, sl 6 gi_Kind a0.Rules.Kinds, I a0.Rules.Stack, I a0.Rules.River, I a0.Rules.Road, I a0.Rules.Supply, I a0.Rules.Turns, I a0.Map.Width, I a0.Map.Height, sl 1 I a0.Map.Terrain, sl 1 I a0.Map.Rivers, sl 1 I a0.Map.Roads], I a1, I a2] [] (RB r) [] :=
  Ct.of func23 (c := bdy f23) (by kernel_rfl) (by kernel_rfl) <|
  eBind H fun r1 hr1 H =>
  gS [r0] (by kernel_rfl) P0 <|
  eIf H (fun h2 H =>
    eBind H fun r3 hr3 H =>
    eIf H (fun h4 H =>
      eBind H fun r5 hr5 H =>
      eBind H fun r6 hr6 H =>
      eW RB (fun _ => []) H <| gE func23 [rg [{ i := 1, call := some { cl := true, auto := true, ins := [], res := (RB r1), G' := [] }, dec := some true }, { i := 9, call := some { cl := true, auto := true, ins := [], res := (RB r3), G' := [] }, dec := some true }, hC 15 true [] (RI r5) [], hC 17 true [] (RB r6) []]] (by kernel_rfl) (P1 (cs_bGood hr1) <| P2 (r1 = true) (h2) <| P1 (cs_l1In hr3) <| P2 (r3 = true) (h4) <| P1 (cs_mSize hr5) <| P1 (cs_l1In hr6) <| P0))
    (fun h4 H =>
      eW RB (fun _ => []) H <| gE func23 [rg [{ i := 1, call := some { cl := true, auto := true, ins := [], res := (RB r1), G' := [] }, dec := some true }, { i := 9, call := some { cl := true, auto := true, ins := [], res := (RB r3), G' := [] }, dec := some false }]] (by kernel_rfl) (P1 (cs_bGood hr1) <| P2 (r1 = true) (h2) <| P1 (cs_l1In hr3) <| P2 (r3 = false) (eqF h4) <| P0)))
  (fun h2 H =>
    eW RB (fun _ => []) H <| gE func23 [rg [{ i := 1, call := some { cl := true, auto := true, ins := [], res := (RB r1), G' := [] }, dec := some false }]] (by kernel_rfl) (P1 (cs_bGood hr1) <| P2 (r1 = false) (eqF h2) <| P0))
/-! loop example/g00886/spec l1Own -/
def Rs_l1Own (r : (List Int)) : List D := [ow 1 I r]
theorem cs_l1Own {a0 : (List Int)} {r : (List Int)} (H : Ds_l1Own a0 = some r) : Ct X.P X.gl 49 [sl 1 I a0] [] (Rs_l1Own r) [] :=
  Ct.of func49 (c := bdy f49) (by kernel_rfl) (by kernel_rfl) <|
  eCk H fun h1 H =>
  eW Rs_l1Own (fun _ => []) H <| gE func49 [r0, rg [hA 2 a0.length (List.map I a0)]] (by kernel_rfl) (P2 (AllFl (List.map I a0)) (allFl_3 _) <| P2 (a0.length = ([] : List Int).length + a0.length) (by simp <;> omega) <| P2 ((([] : List Int).length + a0.length) * 8 ≤ 70368744177664) (by have := h1; simp at this ⊢ <;> omega) <| P2 (List.map I ([] : List Int) ++ List.map I a0 = List.map I a0) (by simp) <| P0)
/-! loop example/g00886/spec pdOwn -/
def Rs_pdOwn (r : Gi_Works) : List D := [.agg [I r.Side, I r.At, I r.Points, ow 1 I r.Queue]]
theorem cs_pdOwn {a0 : Gi_Works} {r : Gi_Works} (H : Ds_pdOwn a0 = some r) : Ct X.P X.gl 24 [.agg [I a0.Side, I a0.At, I a0.Points, sl 1 I a0.Queue]] [] (Rs_pdOwn r) [] :=
  Ct.of func24 (c := bdy f24) (by kernel_rfl) (by kernel_rfl) <|
  eBind H fun r1 hr1 H =>
  eW Rs_pdOwn (fun _ => []) H <| gE func24 [r0, rg [hC 8 true [] (Rs_l1Own r1) []]] (by kernel_rfl) (P1 (cs_l1Own hr1) <| P0)
/-! loop example/g00886/spec AppendKind -/
def Rs_AppendKind (r : Gi_Works × Bool) : List D := [.agg [I r.1.Side, I r.1.At, I r.1.Points, ow 1 I r.1.Queue], .bool r.2]
theorem cs_AppendKind {a0 : Gi_Board} {a1 : Gi_Works} {a2 : Int} {r : Gi_Works × Bool} (H : Ds_AppendKind a0 a1 a2 = some r) : Ct X.P X.gl 6 [.agg [sl 5 gi_Terrain a0.Rules.Terrains, sl 6 gi_Kind a0.Rules.Kinds, I a0.Rules.Stack, I a0.Rules.River, I a0.Rules.Road, I a0.Rules.Supply, I a0.Rules.Turns, I a0.Map.Width, I a0.Map.Height, sl 1 I a0.Map.Terrain, sl 1 I a0.Map.Rivers, sl 1 I a0.Map.Roads], .agg [I a1.Side, I a1.At, I a1.Points, sl 1 I a1.Queue], I a2] [] (Rs_AppendKind r) [] :=
  Ct.of func6 (c := bdy f6) (by kernel_rfl) (by kernel_rfl) <|
  eBind H fun r1 hr1 H =>
  gS [r0] (by kernel_rfl) P0 <|
  eIf H (fun h2 H =>
    eBind H fun r3 hr3 H =>
    eIf H (fun h4 H =>
      eIf H (fun h5 H =>
        eW Rs_AppendKind (fun _ => []) H <| gE func6 [rg [{ i := 2, call := some { cl := true, auto := true, ins := [], res := (RB r1), G' := [] }, dec := some true }, { i := 7, call := some { cl := true, auto := true, ins := [], res := (RB r3), G' := [] }, dec := some true }, hT 14], r0] (by kernel_rfl) (P1 (cs_pdGood hr1) <| P2 (r1 = true) (h2) <| P1 (cs_bAt hr3) <| P2 (r3 = true) (h4) <| P2 (((((a1.Queue.length : Nat) : Int) : Int) == 8) = true) (beqT h5) <| P0))
      (fun h5 H =>
        eBind H fun r6 hr6 H =>
        eCk H fun h7 H =>
        eW Rs_AppendKind (fun _ => []) H <| gE func6 [rg [{ i := 2, call := some { cl := true, auto := true, ins := [], res := (RB r1), G' := [] }, dec := some true }, { i := 7, call := some { cl := true, auto := true, ins := [], res := (RB r3), G' := [] }, dec := some true }, hF 14], rg [hC 1 true [] (Rs_pdOwn r6) []], rg [hA 4 ((r6.Queue ++ [a2]).length) (List.map I (r6.Queue ++ [a2]))], r0] (by kernel_rfl) (P1 (cs_pdGood hr1) <| P2 (r1 = true) (h2) <| P1 (cs_bAt hr3) <| P2 (r3 = true) (h4) <| P2 (((((a1.Queue.length : Nat) : Int) : Int) == 8) = false) (beqF h5) <| P1 (cs_pdOwn hr6) <| P1 (apL r6.Queue [a2]) <| P1 (apB h7) <| P1 (apM I r6.Queue [a2]) <| P0)))
    (fun h4 H =>
      eW Rs_AppendKind (fun _ => []) H <| gE func6 [rg [{ i := 2, call := some { cl := true, auto := true, ins := [], res := (RB r1), G' := [] }, dec := some true }, { i := 7, call := some { cl := true, auto := true, ins := [], res := (RB r3), G' := [] }, dec := some false }], r0] (by kernel_rfl) (P1 (cs_pdGood hr1) <| P2 (r1 = true) (h2) <| P1 (cs_bAt hr3) <| P2 (r3 = false) (eqF h4) <| P0)))
  (fun h2 H =>
    eW Rs_AppendKind (fun _ => []) H <| gE func6 [rg [{ i := 2, call := some { cl := true, auto := true, ins := [], res := (RB r1), G' := [] }, dec := some false }], r0] (by kernel_rfl) (P1 (cs_pdGood hr1) <| P2 (r1 = false) (eqF h2) <| P0))
/-!   loop example/g00886/spec l1Cur  income -/
def Rs_l1Cur_income (r : Int × Gs_l1Cur) : List D := [I r.1]
def Ns_l1Cur_income (r : Int × Gs_l1Cur) : List Root := [⟨false, true, 3, 1, [.agg [sl 1 (D.int .u8) r.2.code, I r.2.at_, .int .u64 r.2.seed]]⟩]
theorem cs_l1Cur_income {a0 : Gs_l1Cur} {r : Int × Gs_l1Cur} (H : Ds_l1Cur_income a0 = some r) : Ct X.P X.gl 26 [.ptr 0 3 0 0] [⟨false, true, 3, 1, [.agg [sl 1 (D.int .u8) a0.code, I a0.at_, .int .u64 a0.seed]]⟩] (Rs_l1Cur_income r) (Ns_l1Cur_income r) :=
  Ct.of func26 (c := bdy f26) (by kernel_rfl) (by kernel_rfl) <|
  eBind H fun r1 hr1 H =>
  eW Rs_l1Cur_income Ns_l1Cur_income H <| gE func26 [r0, rg [{ i := 2, frz := [1], call := some { cl := true, auto := true, ins := [0], res := (Rs_l1Cur_among r1), G' := (Ns_l1Cur_among r1) } }]] (by kernel_rfl) (PI (1 : Nat) <| P1 (cs_l1Cur_among hr1) <| P0)
end Go.Proofs.YtcblbhjbocipbaaDoor.Ab
