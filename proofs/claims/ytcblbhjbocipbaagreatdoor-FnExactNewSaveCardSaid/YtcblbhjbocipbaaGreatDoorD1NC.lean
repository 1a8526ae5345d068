/- Part of the proof of FnExactNewSaveCard: no condition of its own. -/
import Derived.Test.YtcblbhjbocipbaaGreatDoorChecked
import Derived.Test.YtcblbhjbocipbaaGreatDoorD1ND
set_option linter.unusedVariables false
set_option linter.unusedSimpArgs false
open Go Go.Proofs Go.Proofs.Tryz
namespace Go.Proofs.YtcblbhjbocipbaaGreatDoor.Ab
def T : Tab := [(3, ⟨(TK.int IntKind.i64), 1, 8, I 0⟩),
  (4, ⟨TK.bool, 1, 1, (D.bool false)⟩),
  (5, ⟨(TK.int IntKind.u8), 1, 1, .int .u8 0⟩),
  (9, ⟨TK.str, 1, 16, (D.str (ByteArray.mk (Array.mk [])))⟩),
  (22, ⟨(TK.slice 194), 1, 24, D.nil⟩),
  (23, ⟨(TK.slice 197), 1, 24, D.nil⟩),
  (25, ⟨(TK.strct [(FI.mk 0 1 false), (FI.mk 1 1 false), (FI.mk 2 1 false), (FI.mk 3 1 false), (FI.mk 4 1 false), (FI.mk 5 1 false), (FI.mk 6 1 false)] none), 7, 88, (D.agg [D.nil, D.nil, I 0, I 0, I 0, I 0, I 0])⟩),
  (26, ⟨(TK.slice 3), 1, 24, D.nil⟩),
  (28, ⟨(TK.strct [(FI.mk 0 1 false), (FI.mk 1 1 false), (FI.mk 2 1 false), (FI.mk 3 1 false), (FI.mk 4 1 false)] none), 5, 88, (D.agg [I 0, I 0, D.nil, D.nil, D.nil])⟩),
  (30, ⟨(TK.strct [(FI.mk 0 7 true), (FI.mk 7 5 true)] none), 12, 176, (D.agg [D.nil, D.nil, I 0, I 0, I 0, I 0, I 0, I 0, I 0, D.nil, D.nil, D.nil])⟩),
  (31, ⟨(TK.slice 165), 1, 24, D.nil⟩),
  (32, ⟨(TK.slice 26), 1, 24, D.nil⟩),
  (34, ⟨(TK.strct [(FI.mk 0 1 false), (FI.mk 1 1 false), (FI.mk 2 1 false)] none), 3, 56, (D.agg [D.nil, I 0, D.nil])⟩),
  (35, ⟨(TK.slice 169), 1, 24, D.nil⟩),
  (37, ⟨(TK.strct [(FI.mk 0 1 false), (FI.mk 1 1 false), (FI.mk 2 1 false)] none), 3, 40, (D.agg [I 0, I 0, D.nil])⟩),
  (38, ⟨(TK.slice 173), 1, 24, D.nil⟩),
  (40, ⟨(TK.strct [(FI.mk 0 1 false), (FI.mk 1 1 false), (FI.mk 2 1 false)] none), 3, 40, (D.agg [D.nil, I 0, I 0])⟩),
  (42, ⟨(TK.strct [(FI.mk 0 1 false), (FI.mk 1 12 true), (FI.mk 13 3 true), (FI.mk 16 3 true), (FI.mk 19 3 true), (FI.mk 22 1 false), (FI.mk 23 1 false)] none), 24, 376, (D.agg [(D.str (ByteArray.mk (Array.mk []))), D.nil, D.nil, I 0, I 0, I 0, I 0, I 0, I 0, I 0, D.nil, D.nil, D.nil, D.nil, I 0, D.nil, I 0, I 0, D.nil, D.nil, I 0, I 0, D.nil, D.nil])⟩),
  (44, ⟨(TK.strct [(FI.mk 0 1 false)] none), 1, 24, (D.agg [D.nil])⟩),
  (47, ⟨(TK.slice 159), 1, 24, D.nil⟩),
  (48, ⟨(TK.slice 199), 1, 24, D.nil⟩),
  (50, ⟨(TK.strct [(FI.mk 0 1 false), (FI.mk 1 1 false), (FI.mk 2 1 false), (FI.mk 3 1 false), (FI.mk 4 1 false), (FI.mk 5 1 false), (FI.mk 6 1 false)] none), 7, 88, (D.agg [D.nil, D.nil, I 0, I 0, I 0, I 0, I 0])⟩),
  (51, ⟨(TK.strct [(FI.mk 0 1 false), (FI.mk 1 1 false), (FI.mk 2 1 false), (FI.mk 3 1 false), (FI.mk 4 1 false)] none), 5, 88, (D.agg [I 0, I 0, D.nil, D.nil, D.nil])⟩),
  (53, ⟨(TK.strct [(FI.mk 0 7 true), (FI.mk 7 5 true)] none), 12, 176, (D.agg [D.nil, D.nil, I 0, I 0, I 0, I 0, I 0, I 0, I 0, D.nil, D.nil, D.nil])⟩),
  (54, ⟨(TK.slice 163), 1, 24, D.nil⟩),
  (56, ⟨(TK.strct [(FI.mk 0 1 false), (FI.mk 1 1 false), (FI.mk 2 1 false)] none), 3, 56, (D.agg [D.nil, I 0, D.nil])⟩),
  (57, ⟨(TK.strct [(FI.mk 0 1 false)] none), 1, 24, (D.agg [D.nil])⟩),
  (62, ⟨(TK.slice 167), 1, 24, D.nil⟩),
  (64, ⟨(TK.strct [(FI.mk 0 1 false), (FI.mk 1 1 false), (FI.mk 2 1 false)] none), 3, 40, (D.agg [I 0, I 0, D.nil])⟩),
  (65, ⟨(TK.slice 171), 1, 24, D.nil⟩),
  (67, ⟨(TK.strct [(FI.mk 0 1 false), (FI.mk 1 1 false), (FI.mk 2 1 false)] none), 3, 40, (D.agg [D.nil, I 0, I 0])⟩),
  (69, ⟨(TK.strct [(FI.mk 0 1 false), (FI.mk 1 12 true), (FI.mk 13 3 true), (FI.mk 16 3 true), (FI.mk 19 3 true), (FI.mk 22 1 false), (FI.mk 23 1 false)] none), 24, 376, (D.agg [(D.str (ByteArray.mk (Array.mk []))), D.nil, D.nil, I 0, I 0, I 0, I 0, I 0, I 0, I 0, D.nil, D.nil, D.nil, D.nil, I 0, D.nil, I 0, I 0, D.nil, D.nil, I 0, I 0, D.nil, D.nil])⟩),
  (79, ⟨(TK.slice 150), 1, 24, D.nil⟩),
  (81, ⟨(TK.strct [(FI.mk 0 24 true), (FI.mk 24 1 true), (FI.mk 25 1 false)] none), 26, 424, (D.agg [(D.str (ByteArray.mk (Array.mk []))), D.nil, D.nil, I 0, I 0, I 0, I 0, I 0, I 0, I 0, D.nil, D.nil, D.nil, D.nil, I 0, D.nil, I 0, I 0, D.nil, D.nil, I 0, I 0, D.nil, D.nil, D.nil, D.nil])⟩),
  (146, ⟨(TK.slice 189), 1, 24, D.nil⟩),
  (148, ⟨(TK.strct [(FI.mk 0 1 false), (FI.mk 1 1 false)] none), 2, 32, (D.agg [I 0, D.nil])⟩),
  (150, ⟨(TK.strct [(FI.mk 0 1 false), (FI.mk 1 2 true), (FI.mk 3 2 true)] none), 5, 72, (D.agg [I 0, I 0, D.nil, I 0, D.nil])⟩),
  (159, ⟨(TK.strct [(FI.mk 0 1 false), (FI.mk 1 1 false), (FI.mk 2 1 false), (FI.mk 3 1 false), (FI.mk 4 1 false)] none), 5, 64, (D.agg [(D.str (ByteArray.mk (Array.mk []))), D.nil, I 0, I 0, (D.bool false)])⟩),
  (163, ⟨(TK.strct [(FI.mk 0 1 false), (FI.mk 1 1 false)] (some [(LK.int IntKind.i64), (LK.int IntKind.i64)])), 2, 16, (D.agg [I 0, I 0])⟩),
  (165, ⟨(TK.strct [(FI.mk 0 1 false), (FI.mk 1 1 false)] (some [(LK.int IntKind.i64), (LK.int IntKind.i64)])), 2, 16, (D.agg [I 0, I 0])⟩),
  (167, ⟨(TK.strct [(FI.mk 0 1 false), (FI.mk 1 1 false), (FI.mk 2 1 false), (FI.mk 3 1 false)] (some [(LK.int IntKind.i64), (LK.int IntKind.i64), (LK.int IntKind.i64), (LK.int IntKind.i64)])), 4, 32, (D.agg [I 0, I 0, I 0, I 0])⟩),
  (169, ⟨(TK.strct [(FI.mk 0 1 false), (FI.mk 1 1 false), (FI.mk 2 1 false), (FI.mk 3 1 false)] (some [(LK.int IntKind.i64), (LK.int IntKind.i64), (LK.int IntKind.i64), (LK.int IntKind.i64)])), 4, 32, (D.agg [I 0, I 0, I 0, I 0])⟩),
  (171, ⟨(TK.strct [(FI.mk 0 1 false), (FI.mk 1 1 false)] (some [(LK.int IntKind.i64), (LK.int IntKind.i64)])), 2, 16, (D.agg [I 0, I 0])⟩),
  (173, ⟨(TK.strct [(FI.mk 0 1 false), (FI.mk 1 1 false)] (some [(LK.int IntKind.i64), (LK.int IntKind.i64)])), 2, 16, (D.agg [I 0, I 0])⟩),
  (189, ⟨(TK.strct [(FI.mk 0 1 false), (FI.mk 1 1 false), (FI.mk 2 1 false)] none), 3, 40, (D.agg [I 0, D.nil, I 0])⟩),
  (194, ⟨(TK.strct [(FI.mk 0 1 false), (FI.mk 1 1 false), (FI.mk 2 1 false), (FI.mk 3 1 false), (FI.mk 4 1 false)] none), 5, 64, (D.agg [(D.str (ByteArray.mk (Array.mk []))), D.nil, I 0, I 0, (D.bool false)])⟩),
  (197, ⟨(TK.strct [(FI.mk 0 1 false), (FI.mk 1 1 false), (FI.mk 2 1 false), (FI.mk 3 1 false), (FI.mk 4 1 false), (FI.mk 5 1 false)] (some [LK.str, (LK.int IntKind.i64), (LK.int IntKind.i64), (LK.int IntKind.i64), LK.bool, (LK.int IntKind.i64)])), 6, 56, (D.agg [(D.str (ByteArray.mk (Array.mk []))), I 0, I 0, I 0, (D.bool false), I 0])⟩),
  (199, ⟨(TK.strct [(FI.mk 0 1 false), (FI.mk 1 1 false), (FI.mk 2 1 false), (FI.mk 3 1 false), (FI.mk 4 1 false), (FI.mk 5 1 false)] (some [LK.str, (LK.int IntKind.i64), (LK.int IntKind.i64), (LK.int IntKind.i64), LK.bool, (LK.int IntKind.i64)])), 6, 56, (D.agg [(D.str (ByteArray.mk (Array.mk []))), I 0, I 0, I 0, (D.bool false), I 0])⟩),
  (205, ⟨(TK.slice 208), 1, 24, D.nil⟩),
  (208, ⟨(TK.arr 2 3), 2, 16, (D.agg [I 0, I 0])⟩),
  (227, ⟨(TK.slice 5), 1, 24, D.nil⟩),
  (237, ⟨(TK.strct [(FI.mk 0 1 false), (FI.mk 1 1 false)] (some [(LK.int IntKind.i64), (LK.int IntKind.i64)])), 2, 16, (D.agg [I 0, I 0])⟩),
  (241, ⟨(TK.arr 6 237), 12, 96, (D.agg [I 0, I 0, I 0, I 0, I 0, I 0, I 0, I 0, I 0, I 0, I 0, I 0])⟩)]
noncomputable def X : Ctx := ⟨Go.Proofs.Tryz.prog, T, [(0, .fptr 12 gc0 0 0)]⟩
theorem T_ok : TabOK X.P X.T := ⟨by kernel_rfl, by kernel_rfl, by kernel_rfl, by kernel_rfl, by kernel_rfl, by kernel_rfl, by kernel_rfl, by kernel_rfl, by kernel_rfl, by kernel_rfl, by kernel_rfl, by kernel_rfl, by kernel_rfl, by kernel_rfl, by kernel_rfl, by kernel_rfl, by kernel_rfl, by kernel_rfl, by kernel_rfl, by kernel_rfl, by kernel_rfl, by kernel_rfl, by kernel_rfl, by kernel_rfl, by kernel_rfl, by kernel_rfl, by kernel_rfl, by kernel_rfl, by kernel_rfl, by kernel_rfl, by kernel_rfl, by kernel_rfl, by kernel_rfl, by kernel_rfl, by kernel_rfl, by kernel_rfl, by kernel_rfl, by kernel_rfl, by kernel_rfl, by kernel_rfl, by kernel_rfl, by kernel_rfl, by kernel_rfl, by kernel_rfl, by kernel_rfl, by kernel_rfl, by kernel_rfl, by kernel_rfl, by kernel_rfl, by kernel_rfl, by kernel_rfl, by kernel_rfl, by kernel_rfl, trivial⟩
theorem mixed : X.P.follows .mixedOrders = true := Go.Proofs.Tryz.checked.mixed
theorem gO {f : FuncId} {M : Nat} {k k' : List Item} {σ σ' : St} {res : List D} {G' : List Root} (cmds : List Cmd) {ps : List Prop} (h : run X M cmds k σ = some (ps, k', σ')) (hp : AllP ps) (hk : Wc X f M k' σ' res G') : Wc X f M k σ res G' := run_ok T_ok mixed h hp hk
theorem gE {f : FuncId} {M : Nat} {k : List Item} {σ : St} {res : List D} {G' : List Root} {fn : Func} (hf : X.P.funcs[f]? = some fn) (cmds : List Cmd) {ps : List Prop} (h : runFinC X M cmds k σ fn.results.toList res = some (ps, res, G')) (hp : AllP ps) : Wc X f M k σ res G' := runFinC_ok T_ok mixed hf h hp
theorem gS {f : FuncId} {M : Nat} {k : List Item} {σ : St} {res : List D} {G' : List Root} (cmds : List Cmd) {ps : List Prop} (h : runP X M cmds k σ = some ps) (hp : AllP ps) (hk : Wc X f M (runK X M cmds k σ) (runS X M cmds k σ) res G') : Wc X f M k σ res G' := seg_ok T_ok mixed cmds h hp hk
theorem gN {ς ρ : Type} {f : FuncId} {M : Nat} {K : ς → List Item} {Z : ς → St} {R : ρ → List D} {G : ρ → List Root} {k : List Item} {σ : St} {o : ς ⊕ ρ} (cmds : List Cmd) {ps : List Prop} (h : runP X M cmds k σ = some ps) (hp : AllP ps) (hk : Nx X f M K Z R G (runK X M cmds k σ) (runS X M cmds k σ) o) : Nx X f M K Z R G k σ o := segN_ok T_ok mixed cmds h hp hk
theorem nf_3 : ∀ x, (I x).nf := fun x => by simp [D.nf, nfL]
theorem nf_163 : ∀ x, (gi_Odds x).nf := fun x => by simp [gi_Odds, D.nf, nfL]
theorem nf_167 : ∀ x, (gi_Unit x).nf := fun x => by simp [gi_Unit, D.nf, nfL]
theorem nf_171 : ∀ x, (gi_Goal x).nf := fun x => by simp [gi_Goal, D.nf, nfL]
theorem nf_199 : ∀ x, (gi_Kind x).nf := fun x => by simp [gi_Kind, D.nf, nfL]
theorem nfo_26 : ∀ x, ((ow 1 I) x).nf := fun x => by simp [D.nf, nfL, nf_ow nf_3]
theorem nfo_189 : ∀ x, (goi_Order x).nf := fun x => by simp [goi_Order, gi_Order, D.nf, nfL, nf_ow nf_3]
theorem nfo_150 : ∀ x, (goi_SavedTurn x).nf := fun x => by simp [goi_SavedTurn, gi_SavedTurn, D.nf, nfL, nf_ow nfo_189]
theorem nfo_159 : ∀ x, (goi_Terrain x).nf := fun x => by simp [goi_Terrain, gi_Terrain, D.nf, nfL, nf_ow nf_3]
theorem ero_26 : ∀ x, ((ow 1 I) x).er = ((sl 1 I) x).er := fun x => er_ow (fun _ => rfl) _ x
theorem ero_189 : ∀ x, (goi_Order x).er = (gi_Order x).er := fun x => by simp [goi_Order, gi_Order, D.er, erL, er_ow (f := I) (g := I) (fun _ => rfl)]
theorem ero_150 : ∀ x, (goi_SavedTurn x).er = (gi_SavedTurn x).er := fun x => by simp [goi_SavedTurn, gi_SavedTurn, D.er, erL, er_ow (f := goi_Order) (g := gi_Order) ero_189]
theorem ero_159 : ∀ x, (goi_Terrain x).er = (gi_Terrain x).er := fun x => by simp [goi_Terrain, gi_Terrain, D.er, erL, er_ow (f := I) (g := I) (fun _ => rfl)]
theorem allOw_26 (l : List (List Int)) : AllOw (List.map (ow 1 I) l) := allOw_map (fun x c hc => by simp [ow, D.cells] at hc; rcases hc with rfl <;> rfl) l
theorem allOw_150 (l : List Gi_SavedTurn) : AllOw (List.map goi_SavedTurn l) := allOw_map (fun x c hc => by simp [goi_SavedTurn, gi_SavedTurn, D.cells] at hc; rcases hc with rfl | rfl | rfl | rfl | rfl <;> rfl) l
theorem allOw_159 (l : List Gi_Terrain) : AllOw (List.map goi_Terrain l) := allOw_map (fun x c hc => by simp [goi_Terrain, gi_Terrain, D.cells] at hc; rcases hc with rfl | rfl | rfl | rfl | rfl <;> rfl) l
theorem allOw_189 (l : List Gi_Order) : AllOw (List.map goi_Order l) := allOw_map (fun x c hc => by simp [goi_Order, gi_Order, D.cells] at hc; rcases hc with rfl | rfl | rfl <;> rfl) l
theorem allFl_3 (l : List Int) : AllFl (List.map I l) := allFl_map (fun x c hc => by simp [D.cells] at hc; rcases hc with rfl <;> rfl) l
theorem allFl_163 (l : List Gi_Odds) : AllFl (List.map gi_Odds l) := allFl_map (fun x c hc => by simp [gi_Odds, D.cells] at hc; rcases hc with rfl | rfl <;> rfl) l
theorem allFl_167 (l : List Gi_Unit) : AllFl (List.map gi_Unit l) := allFl_map (fun x c hc => by simp [gi_Unit, D.cells] at hc; rcases hc with rfl | rfl | rfl | rfl <;> rfl) l
theorem allFl_171 (l : List Gi_Goal) : AllFl (List.map gi_Goal l) := allFl_map (fun x c hc => by simp [gi_Goal, D.cells] at hc; rcases hc with rfl | rfl <;> rfl) l
theorem allFl_199 (l : List Gi_Kind) : AllFl (List.map gi_Kind l) := allFl_map (fun x c hc => by simp [gi_Kind, D.cells] at hc; rcases hc with rfl | rfl | rfl | rfl | rfl | rfl <;> rfl) l
theorem cw_szIntS {a0 : (List Int)} {a1 : Int} {r : Int} (H : Dw_szIntS a0 a1 = some r) : Ct X.P X.gl 27 [sl 1 I a0, I a1] [] (RI r) [] :=
  Ct.of func27 (c := bdy f27) (by kernel_rfl) (by kernel_rfl) <|
  gS [r0, r0] (by kernel_rfl) P0 <|
  eIf H (fun h1 H =>
  eW RI (fun _ => []) H<|gE func27 [rg [hT 1], r0] (by kernel_rfl) (P2 ((decide ((IntKind.wrap .i64 (a1 - ((a0.length : Nat) : Int))) < 0)) = true) (decide_eq_true h1)<|P0))
  (fun h1 H =>
  eW RI (fun _ => []) H<|gE func27 [rg [hF 1], r0] (by kernel_rfl) (P2 ((decide ((IntKind.wrap .i64 (a1 - ((a0.length : Nat) : Int))) < 0)) = false) (decide_eq_false h1)<|P0))
theorem cw_szTerrain {a0 : Gw_Terrain} {a1 : Int} {r : Int} (H : Dw_szTerrain a0 a1 = some r) : Ct X.P X.gl 144 [gw_Terrain a0, I a1] [] (RI r) [] :=
  Ct.of func144 (c := bdy f144) (by kernel_rfl) (by kernel_rfl) <|
  gS [r0, r0] (by kernel_rfl) P0 <|
  eIf H (fun h1 H =>
  eW RI (fun _ => []) H<|gE func144 [rg [hT 1], r0] (by kernel_rfl) (P2 ((decide ((IntKind.wrap .i64 (a1 - ((ByteArray.size a0.Name : Nat) : Int))) < 0)) = true) (decide_eq_true h1)<|P0))
  (fun h1 H =>
  eBind H fun r2 hr2 H =>
  gS [rg [hF 1], rg [hC 3 true [] (RI r2) []]] (by kernel_rfl) (P2 ((decide ((IntKind.wrap .i64 (a1 - ((ByteArray.size a0.Name : Nat) : Int))) < 0)) = false) (decide_eq_false h1)<|P1 (cw_szIntS hr2)<|P0) <|
  eIf H (fun h3 H =>
  eW RI (fun _ => []) H<|gE func144 [rg [hT 1], r0] (by kernel_rfl) (P2 ((decide (r2 < 0)) = true) (decide_eq_true h3)<|P0))
  (fun h3 H =>
  eW RI (fun _ => []) H<|gE func144 [rg [hF 1], r0] (by kernel_rfl) (P2 ((decide (r2 < 0)) = false) (decide_eq_false h3)<|P0)))
noncomputable def Kw_szTerrainS : Sw_szTerrainS → List Item
 | .h1 .. => nav 300 4 [false] [.code (bdy f110)]
def Zw_szTerrainS : Sw_szTerrainS → St
 | .h1 va0 left1 i2 => ⟨sts 27 [(0, sl 5 gw_Terrain va0), (1, I left1), (5, I i2)], []⟩
abbrev Qw_szTerrainS := Nx X 110 0 Kw_szTerrainS Zw_szTerrainS RI (fun _ => [])
theorem nw_szTerrainS : ∀ s o, Bw_szTerrainS s = some o → Qw_szTerrainS (Kw_szTerrainS s) (Zw_szTerrainS s) o
 | .h1 va0 left1 i2, o, H =>
  eIf H (fun h1 H =>
  eCk H fun h2 H =>
  eBind H fun x3 hx3 H =>
  eBind H fun r4 hr4 H =>
  gN [rg [hT 3], rg [hE 3 (gw_Terrain x3), hC 5 true [] (RI r4) []]] (by kernel_rfl) (P2 ((decide (i2 < ((va0.length : Nat) : Int))) = true) (decide_eq_true h1)<|P1 h2<|P1 (int_lt_of_at h2 hx3)<|P1 (at_map gw_Terrain hx3)<|P1 (cw_szTerrain hr4)<|P0) <|
  eIf H (fun h5 H =>
  eN H<|gE func110 [rg [hT 1], r0] (by kernel_rfl) (P2 ((decide (r4 < 0)) = true) (decide_eq_true h5)<|P0))
  (fun h5 H =>
  eN H fun r hn => gO [rg [hF 1], r0, .canon [] [0, 1, 5]] (by kernel_rfl) (P2 ((decide (r4 < 0)) = false) (decide_eq_false h5)<|P0) hn))
  (fun h1 H =>
  eN H<|gE func110 [rg [hF 3], r0] (by kernel_rfl) (P2 ((decide (i2 < ((va0.length : Nat) : Int))) = false) (decide_eq_false h1)<|P0))
theorem ww_szTerrainS : ∀ s r, loop Bw_szTerrainS s = some r → Wc X 110 0 (Kw_szTerrainS s) (Zw_szTerrainS s) (RI r) ((fun _ => []) r) := Nx.all (nw_szTerrainS)
theorem cw_szTerrainS {a0 : (List Gw_Terrain)} {a1 : Int} {r : Int} (H : Dw_szTerrainS a0 a1 = some r) : Ct X.P X.gl 110 [sl 5 gw_Terrain a0, I a1] [] (RI r) [] :=
  Ct.of func110 (c := bdy f110) (by kernel_rfl) (by kernel_rfl) <|
  gS [r0, r0] (by kernel_rfl) P0 <|
  eIf H (fun h1 H =>
  eW RI (fun _ => []) H<|gE func110 [rg [hT 1], r0] (by kernel_rfl) (P2 ((decide ((IntKind.wrap .i64 (a1 - ((a0.length : Nat) : Int))) < 0)) = true) (decide_eq_true h1)<|P0))
  (fun h1 H =>
  gO [rg [hF 1], r0, .canon [] [0, 1, 5]] (by kernel_rfl) (P2 ((decide ((IntKind.wrap .i64 (a1 - ((a0.length : Nat) : Int))) < 0)) = false) (decide_eq_false h1)<|P0) (ww_szTerrainS _ _ H))
theorem cw_szKind {a0 : Gw_Kind} {a1 : Int} {r : Int} (H : Dw_szKind a0 a1 = some r) : Ct X.P X.gl 145 [gw_Kind a0, I a1] [] (RI r) [] :=
  Ct.of func145 (c := bdy f145) (by kernel_rfl) (by kernel_rfl) <|
  gS [r0, r0] (by kernel_rfl) P0 <|
  eIf H (fun h1 H =>
  eW RI (fun _ => []) H<|gE func145 [rg [hT 1], r0] (by kernel_rfl) (P2 ((decide ((IntKind.wrap .i64 (a1 - ((ByteArray.size a0.Name : Nat) : Int))) < 0)) = true) (decide_eq_true h1)<|P0))
  (fun h1 H =>
  eW RI (fun _ => []) H<|gE func145 [rg [hF 1], r0] (by kernel_rfl) (P2 ((decide ((IntKind.wrap .i64 (a1 - ((ByteArray.size a0.Name : Nat) : Int))) < 0)) = false) (decide_eq_false h1)<|P0))
noncomputable def Kw_szKindS : Sw_szKindS → List Item
 | .h1 .. => nav 300 4 [false] [.code (bdy f111)]
def Zw_szKindS : Sw_szKindS → St
 | .h1 va0 left1 i2 => ⟨sts 27 [(0, sl 6 gw_Kind va0), (1, I left1), (5, I i2)], []⟩
abbrev Qw_szKindS := Nx X 111 0 Kw_szKindS Zw_szKindS RI (fun _ => [])
theorem nw_szKindS : ∀ s o, Bw_szKindS s = some o → Qw_szKindS (Kw_szKindS s) (Zw_szKindS s) o
 | .h1 va0 left1 i2, o, H =>
  eIf H (fun h1 H =>
  eCk H fun h2 H =>
  eBind H fun x3 hx3 H =>
  eBind H fun r4 hr4 H =>
  gN [rg [hT 3], rg [hE 3 (gw_Kind x3), hC 5 true [] (RI r4) []]] (by kernel_rfl) (P2 ((decide (i2 < ((va0.length : Nat) : Int))) = true) (decide_eq_true h1)<|P1 h2<|P1 (int_lt_of_at h2 hx3)<|P1 (at_map gw_Kind hx3)<|P1 (cw_szKind hr4)<|P0) <|
  eIf H (fun h5 H =>
  eN H<|gE func111 [rg [hT 1], r0] (by kernel_rfl) (P2 ((decide (r4 < 0)) = true) (decide_eq_true h5)<|P0))
  (fun h5 H =>
  eN H fun r hn => gO [rg [hF 1], r0, .canon [] [0, 1, 5]] (by kernel_rfl) (P2 ((decide (r4 < 0)) = false) (decide_eq_false h5)<|P0) hn))
  (fun h1 H =>
  eN H<|gE func111 [rg [hF 3], r0] (by kernel_rfl) (P2 ((decide (i2 < ((va0.length : Nat) : Int))) = false) (decide_eq_false h1)<|P0))
theorem ww_szKindS : ∀ s r, loop Bw_szKindS s = some r → Wc X 111 0 (Kw_szKindS s) (Zw_szKindS s) (RI r) ((fun _ => []) r) := Nx.all (nw_szKindS)
theorem cw_szKindS {a0 : (List Gw_Kind)} {a1 : Int} {r : Int} (H : Dw_szKindS a0 a1 = some r) : Ct X.P X.gl 111 [sl 6 gw_Kind a0, I a1] [] (RI r) [] :=
  Ct.of func111 (c := bdy f111) (by kernel_rfl) (by kernel_rfl) <|
  gS [r0, r0] (by kernel_rfl) P0 <|
  eIf H (fun h1 H =>
  eW RI (fun _ => []) H<|gE func111 [rg [hT 1], r0] (by kernel_rfl) (P2 ((decide ((IntKind.wrap .i64 (a1 - ((a0.length : Nat) : Int))) < 0)) = true) (decide_eq_true h1)<|P0))
  (fun h1 H =>
  gO [rg [hF 1], r0, .canon [] [0, 1, 5]] (by kernel_rfl) (P2 ((decide ((IntKind.wrap .i64 (a1 - ((a0.length : Nat) : Int))) < 0)) = false) (decide_eq_false h1)<|P0) (ww_szKindS _ _ H))
theorem cw_szRules {a0 : Gw_Rules} {a1 : Int} {r : Int} (H : Dw_szRules a0 a1 = some r) : Ct X.P X.gl 64 [gw_Rules a0, I a1] [] (RI r) [] :=
  Ct.of func64 (c := bdy f64) (by kernel_rfl) (by kernel_rfl) <|
  eBind H fun r1 hr1 H =>
  gS [r0, rg [hC 3 true [] (RI r1) []]] (by kernel_rfl) (P1 (cw_szTerrainS hr1)<|P0) <|
  eIf H (fun h2 H =>
  eW RI (fun _ => []) H<|gE func64 [rg [hT 1], r0] (by kernel_rfl) (P2 ((decide (r1 < 0)) = true) (decide_eq_true h2)<|P0))
  (fun h2 H =>
  eBind H fun r3 hr3 H =>
  gS [rg [hF 1], rg [hC 3 true [] (RI r3) []]] (by kernel_rfl) (P2 ((decide (r1 < 0)) = false) (decide_eq_false h2)<|P1 (cw_szKindS hr3)<|P0) <|
  eIf H (fun h4 H =>
  eW RI (fun _ => []) H<|gE func64 [rg [hT 1], r0] (by kernel_rfl) (P2 ((decide (r3 < 0)) = true) (decide_eq_true h4)<|P0))
  (fun h4 H =>
  eW RI (fun _ => []) H<|gE func64 [rg [hF 1], r0] (by kernel_rfl) (P2 ((decide (r3 < 0)) = false) (decide_eq_false h4)<|P0)))
theorem cw_szMap {a0 : Gw_Map} {a1 : Int} {r : Int} (H : Dw_szMap a0 a1 = some r) : Ct X.P X.gl 65 [gw_Map a0, I a1] [] (RI r) [] :=
  Ct.of func65 (c := bdy f65) (by kernel_rfl) (by kernel_rfl) <|
  eBind H fun r1 hr1 H =>
  gS [r0, rg [hC 3 true [] (RI r1) []]] (by kernel_rfl) (P1 (cw_szIntS hr1)<|P0) <|
  eIf H (fun h2 H =>
  eW RI (fun _ => []) H<|gE func65 [rg [hT 1], r0] (by kernel_rfl) (P2 ((decide (r1 < 0)) = true) (decide_eq_true h2)<|P0))
  (fun h2 H =>
  eBind H fun r3 hr3 H =>
  gS [rg [hF 1], rg [hC 3 true [] (RI r3) []]] (by kernel_rfl) (P2 ((decide (r1 < 0)) = false) (decide_eq_false h2)<|P1 (cw_szIntS hr3)<|P0) <|
  eIf H (fun h4 H =>
  eW RI (fun _ => []) H<|gE func65 [rg [hT 1], r0] (by kernel_rfl) (P2 ((decide (r3 < 0)) = true) (decide_eq_true h4)<|P0))
  (fun h4 H =>
  eBind H fun r5 hr5 H =>
  gS [rg [hF 1], rg [hC 3 true [] (RI r5) []]] (by kernel_rfl) (P2 ((decide (r3 < 0)) = false) (decide_eq_false h4)<|P1 (cw_szIntS hr5)<|P0) <|
  eIf H (fun h6 H =>
  eW RI (fun _ => []) H<|gE func65 [rg [hT 1], r0] (by kernel_rfl) (P2 ((decide (r5 < 0)) = true) (decide_eq_true h6)<|P0))
  (fun h6 H =>
  eW RI (fun _ => []) H<|gE func65 [rg [hF 1], r0] (by kernel_rfl) (P2 ((decide (r5 < 0)) = false) (decide_eq_false h6)<|P0))))
theorem cw_szBoard {a0 : Gw_Board} {a1 : Int} {r : Int} (H : Dw_szBoard a0 a1 = some r) : Ct X.P X.gl 23 [gw_Board a0, I a1] [] (RI r) [] :=
  Ct.of func23 (c := bdy f23) (by kernel_rfl) (by kernel_rfl) <|
  eBind H fun r1 hr1 H =>
  gS [r0, rg [hC 3 true [] (RI r1) []]] (by kernel_rfl) (P1 (cw_szRules hr1)<|P0) <|
  eIf H (fun h2 H =>
  eW RI (fun _ => []) H<|gE func23 [rg [hT 1], r0] (by kernel_rfl) (P2 ((decide (r1 < 0)) = true) (decide_eq_true h2)<|P0))
  (fun h2 H =>
  eBind H fun r3 hr3 H =>
  gS [rg [hF 1], rg [hC 3 true [] (RI r3) []]] (by kernel_rfl) (P2 ((decide (r1 < 0)) = false) (decide_eq_false h2)<|P1 (cw_szMap hr3)<|P0) <|
  eIf H (fun h4 H =>
  eW RI (fun _ => []) H<|gE func23 [rg [hT 1], r0] (by kernel_rfl) (P2 ((decide (r3 < 0)) = true) (decide_eq_true h4)<|P0))
  (fun h4 H =>
  eW RI (fun _ => []) H<|gE func23 [rg [hF 1], r0] (by kernel_rfl) (P2 ((decide (r3 < 0)) = false) (decide_eq_false h4)<|P0)))
theorem cw_szOddsS {a0 : (List Gw_Odds)} {a1 : Int} {r : Int} (H : Dw_szOddsS a0 a1 = some r) : Ct X.P X.gl 66 [sl 2 gw_Odds a0, I a1] [] (RI r) [] :=
  Ct.of func66 (c := bdy f66) (by kernel_rfl) (by kernel_rfl) <|
  gS [r0, r0] (by kernel_rfl) P0 <|
  eIf H (fun h1 H =>
  eW RI (fun _ => []) H<|gE func66 [rg [hT 1], r0] (by kernel_rfl) (P2 ((decide ((IntKind.wrap .i64 (a1 - ((a0.length : Nat) : Int))) < 0)) = true) (decide_eq_true h1)<|P0))
  (fun h1 H =>
  eW RI (fun _ => []) H<|gE func66 [rg [hF 1], r0] (by kernel_rfl) (P2 ((decide ((IntKind.wrap .i64 (a1 - ((a0.length : Nat) : Int))) < 0)) = false) (decide_eq_false h1)<|P0))
noncomputable def Kw_szIntSS : Sw_szIntSS → List Item
 | .h1 .. => nav 300 4 [false] [.code (bdy f28)]
def Zw_szIntSS : Sw_szIntSS → St
 | .h1 va0 left1 i2 => ⟨sts 27 [(0, sl 1 (sl 1 I) va0), (1, I left1), (5, I i2)], []⟩
abbrev Qw_szIntSS := Nx X 28 0 Kw_szIntSS Zw_szIntSS RI (fun _ => [])
theorem nw_szIntSS : ∀ s o, Bw_szIntSS s = some o → Qw_szIntSS (Kw_szIntSS s) (Zw_szIntSS s) o
 | .h1 va0 left1 i2, o, H =>
  eIf H (fun h1 H =>
  eCk H fun h2 H =>
  eBind H fun x3 hx3 H =>
  eBind H fun r4 hr4 H =>
  gN [rg [hT 3], rg [hE 3 ((sl 1 I) x3), hC 5 true [] (RI r4) []]] (by kernel_rfl) (P2 ((decide (i2 < ((va0.length : Nat) : Int))) = true) (decide_eq_true h1)<|P1 h2<|P1 (int_lt_of_at h2 hx3)<|P1 (at_map (sl 1 I) hx3)<|P1 (cw_szIntS hr4)<|P0) <|
  eIf H (fun h5 H =>
  eN H<|gE func28 [rg [hT 1], r0] (by kernel_rfl) (P2 ((decide (r4 < 0)) = true) (decide_eq_true h5)<|P0))
  (fun h5 H =>
  eN H fun r hn => gO [rg [hF 1], r0, .canon [] [0, 1, 5]] (by kernel_rfl) (P2 ((decide (r4 < 0)) = false) (decide_eq_false h5)<|P0) hn))
  (fun h1 H =>
  eN H<|gE func28 [rg [hF 3], r0] (by kernel_rfl) (P2 ((decide (i2 < ((va0.length : Nat) : Int))) = false) (decide_eq_false h1)<|P0))
theorem ww_szIntSS : ∀ s r, loop Bw_szIntSS s = some r → Wc X 28 0 (Kw_szIntSS s) (Zw_szIntSS s) (RI r) ((fun _ => []) r) := Nx.all (nw_szIntSS)
theorem cw_szIntSS {a0 : (List (List Int))} {a1 : Int} {r : Int} (H : Dw_szIntSS a0 a1 = some r) : Ct X.P X.gl 28 [sl 1 (sl 1 I) a0, I a1] [] (RI r) [] :=
  Ct.of func28 (c := bdy f28) (by kernel_rfl) (by kernel_rfl) <|
  gS [r0, r0] (by kernel_rfl) P0 <|
  eIf H (fun h1 H =>
  eW RI (fun _ => []) H<|gE func28 [rg [hT 1], r0] (by kernel_rfl) (P2 ((decide ((IntKind.wrap .i64 (a1 - ((a0.length : Nat) : Int))) < 0)) = true) (decide_eq_true h1)<|P0))
  (fun h1 H =>
  gO [rg [hF 1], r0, .canon [] [0, 1, 5]] (by kernel_rfl) (P2 ((decide ((IntKind.wrap .i64 (a1 - ((a0.length : Nat) : Int))) < 0)) = false) (decide_eq_false h1)<|P0) (ww_szIntSS _ _ H))
theorem cw_szCombatTable {a0 : Gw_CombatTable} {a1 : Int} {r : Int} (H : Dw_szCombatTable a0 a1 = some r) : Ct X.P X.gl 24 [gw_CombatTable a0, I a1] [] (RI r) [] :=
  Ct.of func24 (c := bdy f24) (by kernel_rfl) (by kernel_rfl) <|
  eBind H fun r1 hr1 H =>
  gS [r0, rg [hC 3 true [] (RI r1) []]] (by kernel_rfl) (P1 (cw_szOddsS hr1)<|P0) <|
  eIf H (fun h2 H =>
  eW RI (fun _ => []) H<|gE func24 [rg [hT 1], r0] (by kernel_rfl) (P2 ((decide (r1 < 0)) = true) (decide_eq_true h2)<|P0))
  (fun h2 H =>
  eBind H fun r3 hr3 H =>
  gS [rg [hF 1], rg [hC 3 true [] (RI r3) []]] (by kernel_rfl) (P2 ((decide (r1 < 0)) = false) (decide_eq_false h2)<|P1 (cw_szIntSS hr3)<|P0) <|
  eIf H (fun h4 H =>
  eW RI (fun _ => []) H<|gE func24 [rg [hT 1], r0] (by kernel_rfl) (P2 ((decide (r3 < 0)) = true) (decide_eq_true h4)<|P0))
  (fun h4 H =>
  eW RI (fun _ => []) H<|gE func24 [rg [hF 1], r0] (by kernel_rfl) (P2 ((decide (r3 < 0)) = false) (decide_eq_false h4)<|P0)))
theorem cw_szUnitS {a0 : (List Gw_Unit)} {a1 : Int} {r : Int} (H : Dw_szUnitS a0 a1 = some r) : Ct X.P X.gl 67 [sl 4 gw_Unit a0, I a1] [] (RI r) [] :=
  Ct.of func67 (c := bdy f67) (by kernel_rfl) (by kernel_rfl) <|
  gS [r0, r0] (by kernel_rfl) P0 <|
  eIf H (fun h1 H =>
  eW RI (fun _ => []) H<|gE func67 [rg [hT 1], r0] (by kernel_rfl) (P2 ((decide ((IntKind.wrap .i64 (a1 - ((a0.length : Nat) : Int))) < 0)) = true) (decide_eq_true h1)<|P0))
  (fun h1 H =>
  eW RI (fun _ => []) H<|gE func67 [rg [hF 1], r0] (by kernel_rfl) (P2 ((decide ((IntKind.wrap .i64 (a1 - ((a0.length : Nat) : Int))) < 0)) = false) (decide_eq_false h1)<|P0))
theorem cw_szState {a0 : Gw_State} {a1 : Int} {r : Int} (H : Dw_szState a0 a1 = some r) : Ct X.P X.gl 25 [gw_State a0, I a1] [] (RI r) [] :=
  Ct.of func25 (c := bdy f25) (by kernel_rfl) (by kernel_rfl) <|
  eBind H fun r1 hr1 H =>
  gS [r0, rg [hC 3 true [] (RI r1) []]] (by kernel_rfl) (P1 (cw_szUnitS hr1)<|P0) <|
  eIf H (fun h2 H =>
  eW RI (fun _ => []) H<|gE func25 [rg [hT 1], r0] (by kernel_rfl) (P2 ((decide (r1 < 0)) = true) (decide_eq_true h2)<|P0))
  (fun h2 H =>
  eW RI (fun _ => []) H<|gE func25 [rg [hF 1], r0] (by kernel_rfl) (P2 ((decide (r1 < 0)) = false) (decide_eq_false h2)<|P0))
theorem cw_szGoalS {a0 : (List Gw_Goal)} {a1 : Int} {r : Int} (H : Dw_szGoalS a0 a1 = some r) : Ct X.P X.gl 68 [sl 2 gw_Goal a0, I a1] [] (RI r) [] :=
  Ct.of func68 (c := bdy f68) (by kernel_rfl) (by kernel_rfl) <|
  gS [r0, r0] (by kernel_rfl) P0 <|
  eIf H (fun h1 H =>
  eW RI (fun _ => []) H<|gE func68 [rg [hT 1], r0] (by kernel_rfl) (P2 ((decide ((IntKind.wrap .i64 (a1 - ((a0.length : Nat) : Int))) < 0)) = true) (decide_eq_true h1)<|P0))
  (fun h1 H =>
  eW RI (fun _ => []) H<|gE func68 [rg [hF 1], r0] (by kernel_rfl) (P2 ((decide ((IntKind.wrap .i64 (a1 - ((a0.length : Nat) : Int))) < 0)) = false) (decide_eq_false h1)<|P0))
theorem cw_szConditions {a0 : Gw_Conditions} {a1 : Int} {r : Int} (H : Dw_szConditions a0 a1 = some r) : Ct X.P X.gl 26 [gw_Conditions a0, I a1] [] (RI r) [] :=
  Ct.of func26 (c := bdy f26) (by kernel_rfl) (by kernel_rfl) <|
  eBind H fun r1 hr1 H =>
  gS [r0, rg [hC 3 true [] (RI r1) []]] (by kernel_rfl) (P1 (cw_szGoalS hr1)<|P0) <|
  eIf H (fun h2 H =>
  eW RI (fun _ => []) H<|gE func26 [rg [hT 1], r0] (by kernel_rfl) (P2 ((decide (r1 < 0)) = true) (decide_eq_true h2)<|P0))
  (fun h2 H =>
  eW RI (fun _ => []) H<|gE func26 [rg [hF 1], r0] (by kernel_rfl) (P2 ((decide (r1 < 0)) = false) (decide_eq_false h2)<|P0))
theorem cw_szScenario {a0 : Gw_Scenario} {a1 : Int} {r : Int} (H : Dw_szScenario a0 a1 = some r) : Ct X.P X.gl 5 [gw_Scenario a0, I a1] [] (RI r) [] :=
  Ct.of func5 (c := bdy f5) (by kernel_rfl) (by kernel_rfl) <|
  gS [r0, r0] (by kernel_rfl) P0 <|
  eIf H (fun h1 H =>
  eW RI (fun _ => []) H<|gE func5 [rg [hT 1], r0] (by kernel_rfl) (P2 ((decide ((IntKind.wrap .i64 (a1 - ((ByteArray.size a0.Name : Nat) : Int))) < 0)) = true) (decide_eq_true h1)<|P0))
  (fun h1 H =>
  eBind H fun r2 hr2 H =>
  gS [rg [hF 1], rg [hC 3 true [] (RI r2) []]] (by kernel_rfl) (P2 ((decide ((IntKind.wrap .i64 (a1 - ((ByteArray.size a0.Name : Nat) : Int))) < 0)) = false) (decide_eq_false h1)<|P1 (cw_szBoard hr2)<|P0) <|
  eIf H (fun h3 H =>
  eW RI (fun _ => []) H<|gE func5 [rg [hT 1], r0] (by kernel_rfl) (P2 ((decide (r2 < 0)) = true) (decide_eq_true h3)<|P0))
  (fun h3 H =>
  eBind H fun r4 hr4 H =>
  gS [rg [hF 1], rg [hC 3 true [] (RI r4) []]] (by kernel_rfl) (P2 ((decide (r2 < 0)) = false) (decide_eq_false h3)<|P1 (cw_szCombatTable hr4)<|P0) <|
  eIf H (fun h5 H =>
  eW RI (fun _ => []) H<|gE func5 [rg [hT 1], r0] (by kernel_rfl) (P2 ((decide (r4 < 0)) = true) (decide_eq_true h5)<|P0))
  (fun h5 H =>
  eBind H fun r6 hr6 H =>
  gS [rg [hF 1], rg [hC 3 true [] (RI r6) []]] (by kernel_rfl) (P2 ((decide (r4 < 0)) = false) (decide_eq_false h5)<|P1 (cw_szState hr6)<|P0) <|
  eIf H (fun h7 H =>
  eW RI (fun _ => []) H<|gE func5 [rg [hT 1], r0] (by kernel_rfl) (P2 ((decide (r6 < 0)) = true) (decide_eq_true h7)<|P0))
  (fun h7 H =>
  eBind H fun r8 hr8 H =>
  gS [rg [hF 1], rg [hC 3 true [] (RI r8) []]] (by kernel_rfl) (P2 ((decide (r6 < 0)) = false) (decide_eq_false h7)<|P1 (cw_szConditions hr8)<|P0) <|
  eIf H (fun h9 H =>
  eW RI (fun _ => []) H<|gE func5 [rg [hT 1], r0] (by kernel_rfl) (P2 ((decide (r8 < 0)) = true) (decide_eq_true h9)<|P0))
  (fun h9 H =>
  eBind H fun r10 hr10 H =>
  gS [rg [hF 1], rg [hC 3 true [] (RI r10) []]] (by kernel_rfl) (P2 ((decide (r8 < 0)) = false) (decide_eq_false h9)<|P1 (cw_szIntS hr10)<|P0) <|
  eIf H (fun h11 H =>
  eW RI (fun _ => []) H<|gE func5 [rg [hT 1], r0] (by kernel_rfl) (P2 ((decide (r10 < 0)) = true) (decide_eq_true h11)<|P0))
  (fun h11 H =>
  eBind H fun r12 hr12 H =>
  gS [rg [hF 1], rg [hC 3 true [] (RI r12) []]] (by kernel_rfl) (P2 ((decide (r10 < 0)) = false) (decide_eq_false h11)<|P1 (cw_szIntS hr12)<|P0) <|
  eIf H (fun h13 H =>
  eW RI (fun _ => []) H<|gE func5 [rg [hT 1], r0] (by kernel_rfl) (P2 ((decide (r12 < 0)) = true) (decide_eq_true h13)<|P0))
  (fun h13 H =>
  eW RI (fun _ => []) H<|gE func5 [rg [hF 1], r0] (by kernel_rfl) (P2 ((decide (r12 < 0)) = false) (decide_eq_false h13)<|P0))))))))
theorem cw_szClimate {a0 : Gw_Climate} {a1 : Int} {r : Int} (H : Dw_szClimate a0 a1 = some r) : Ct X.P X.gl 6 [.agg [sl 1 (sl 1 I) a0.Weights], I a1] [] (RI r) [] :=
  Ct.of func6 (c := bdy f6) (by kernel_rfl) (by kernel_rfl) <|
  eBind H fun r1 hr1 H =>
  gS [r0, rg [hC 3 true [] (RI r1) []]] (by kernel_rfl) (P1 (cw_szIntSS hr1)<|P0) <|
  eIf H (fun h2 H =>
  eW RI (fun _ => []) H<|gE func6 [rg [hT 1], r0] (by kernel_rfl) (P2 ((decide (r1 < 0)) = true) (decide_eq_true h2)<|P0))
  (fun h2 H =>
  eW RI (fun _ => []) H<|gE func6 [rg [hF 1], r0] (by kernel_rfl) (P2 ((decide (r1 < 0)) = false) (decide_eq_false h2)<|P0))
def Rw_toIntS (r : (List Int)) : List D := [ow 1 I r]
noncomputable def Kw_toIntS : Sw_toIntS → List Item
 | .h1 .. => nav 300 3 [] [.code (bdy f37)]
def Zw_toIntS : Sw_toIntS → St
 | .h1 va0 i1 l2 => ⟨sts 22 [(0, sl 1 I va0), (3, .ref 0 1 none), (4, I i1)], [some ⟨false, false, 1, l2.length, List.map I l2⟩]⟩
abbrev Qw_toIntS := Nx X 37 0 Kw_toIntS Zw_toIntS Rw_toIntS (fun _ => [])
theorem nw_toIntS : ∀ s o, Bw_toIntS s = some o → Qw_toIntS (Kw_toIntS s) (Zw_toIntS s) o
 | .h1 va0 i1 l2, o, H =>
  eIf H (fun h1 H =>
  eCk H fun h2 H =>
  eBind H fun x3 hx3 H =>
  eCk H fun h4 H =>
  eBind H fun x5 hx5 H =>
  eN H fun r hn => gO [rg [hT 3], rg [hE 5 (I x3), hA 7 ((List.set l2 (Int.toNat i1) x3).length) (List.map I (List.set l2 (Int.toNat i1) x3))], r0, .canon [0] [0, 3, 4]] (by kernel_rfl) (P2 ((decide (i1 < ((va0.length : Nat) : Int))) = true) (decide_eq_true h1)<|P1 h2<|P1 (int_lt_of_at h2 hx3)<|P1 (at_map I hx3)<|P1 h4<|P1 (int_lt_of_at h4 hx5)<|P1 (lt_of_at hx5)<|P2 (setCells (List.map I l2) (Int.toNat i1) 0 [I x3] = List.map I (List.set l2 (Int.toNat i1) x3)) (setCells_map hx5 rfl)<|P1 (setLen l2 (Int.toNat i1) x3)<|P0) hn)
  (fun h1 H =>
  eN H<|gE func37 [rg [hF 3], r0] (by kernel_rfl) (P2 ((decide (i1 < ((va0.length : Nat) : Int))) = false) (decide_eq_false h1)<|P0))
theorem ww_toIntS : ∀ s r, loop Bw_toIntS s = some r → Wc X 37 0 (Kw_toIntS s) (Zw_toIntS s) (Rw_toIntS r) ((fun _ => []) r) := Nx.all (nw_toIntS)
theorem cw_toIntS {a0 : (List Int)} {r : (List Int)} (H : Dw_toIntS a0 = some r) : Ct X.P X.gl 37 [sl 1 I a0] [] (Rw_toIntS r) [] :=
  Ct.of func37 (c := bdy f37) (by kernel_rfl) (by kernel_rfl) <|
  eCk H fun h1 H =>
  gO [r0, rg [hA 2 ((List.replicate (Int.toNat ((a0.length : Nat) : Int)) (0 : Int)).length) (List.map I (List.replicate (Int.toNat ((a0.length : Nat) : Int)) (0 : Int)))], r0, .canon [0] [0, 3, 4]] (by kernel_rfl) (PI (((a0.length : Nat) : Int) : Int)<|P2 ((0 : Int) ≤ ((a0.length : Nat) : Int)) (by omega)<|P2 (Int.toNat ((a0.length : Nat) : Int) * 8 ≤ 140737488355328) h1<|P1 (repLen (Int.toNat ((a0.length : Nat) : Int)) (0 : Int))<|P1 (repMap I (Int.toNat ((a0.length : Nat) : Int)) (0 : Int))<|P0) (ww_toIntS _ _ H)
def Rw_toTerrain (r : Gi_Terrain) : List D := [.agg [.str r.Name, ow 1 I r.Cost, I r.Shift, I r.Height, .bool r.Blocks]]
theorem cw_toTerrain {a0 : Gw_Terrain} {r : Gi_Terrain} (H : Dw_toTerrain a0 = some r) : Ct X.P X.gl 153 [gw_Terrain a0] [] (Rw_toTerrain r) [] :=
  Ct.of func153 (c := bdy f153) (by kernel_rfl) (by kernel_rfl) <|
  eBind H fun r1 hr1 H =>
  eW Rw_toTerrain (fun _ => []) H<|gE func153 [r0, r0, r0, rg [hC 2 true [] (Rw_toIntS r1) []], r0, r0, r0, r0] (by kernel_rfl) (P1 (cw_toIntS hr1)<|P0)
def Rw_toTerrainS (r : (List Gi_Terrain)) : List D := [ow 5 goi_Terrain r]
noncomputable def Kw_toTerrainS : Sw_toTerrainS → List Item
 | .h1 .. => nav 300 3 [] [.code (bdy f114)]
def Zw_toTerrainS : Sw_toTerrainS → St
 | .h1 va0 i1 l2 => ⟨sts 23 [(0, sl 5 gw_Terrain va0), (3, .ref 0 5 none), (4, I i1)], [some ⟨false, false, 5, l2.length, List.map goi_Terrain l2⟩]⟩
abbrev Qw_toTerrainS := Nx X 114 0 Kw_toTerrainS Zw_toTerrainS Rw_toTerrainS (fun _ => [])
theorem nw_toTerrainS : ∀ s o, Bw_toTerrainS s = some o → Qw_toTerrainS (Kw_toTerrainS s) (Zw_toTerrainS s) o
 | .h1 va0 i1 l2, o, H =>
  eIf H (fun h1 H =>
  eCk H fun h2 H =>
  eBind H fun x3 hx3 H =>
  eBind H fun r4 hr4 H =>
  eCk H fun h5 H =>
  eBind H fun x6 hx6 H =>
  eN H fun r hn => gO [rg [hT 3], rg [hE 5 (gw_Terrain x3), hC 6 true [] (Rw_toTerrain r4) [], { i := 8, xs := List.set (List.map goi_Terrain l2) (Int.toNat i1) (.agg [.str r4.Name, .ref 2 1 none, I r4.Shift, I r4.Height, .bool r4.Blocks]), post := [.put 0 (Int.toNat i1) 1 2 (List.map goi_Terrain (List.set l2 (Int.toNat i1) r4)), .own 0 (List.set l2 (Int.toNat i1) r4).length] }], r0, .canon [0] [0, 3, 4]] (by kernel_rfl) (P2 ((decide (i1 < ((va0.length : Nat) : Int))) = true) (decide_eq_true h1)<|P1 h2<|P1 (int_lt_of_at h2 hx3)<|P1 (at_map gw_Terrain hx3)<|P1 (cw_toTerrain hr4)<|P1 h5<|P1 (int_lt_of_at h5 hx6)<|P1 (lt_of_at hx6)<|P2 (setCells (List.map goi_Terrain l2) (Int.toNat i1) 0 [.str r4.Name, .ref 2 1 none, I r4.Shift, I r4.Height, .bool r4.Blocks] = List.set (List.map goi_Terrain l2) (Int.toNat i1) (.agg [.str r4.Name, .ref 2 1 none, I r4.Shift, I r4.Height, .bool r4.Blocks])) (setCells_mapD hx6 rfl)<|P2 (getCells (List.set (List.map goi_Terrain l2) (Int.toNat i1) (.agg [.str r4.Name, .ref 2 1 none, I r4.Shift, I r4.Height, .bool r4.Blocks])) (Int.toNat i1) 1 1 = some [.ref 2 1 none]) (getCells_set hx6 rfl)<|P2 (setCells (List.set (List.map goi_Terrain l2) (Int.toNat i1) (.agg [.str r4.Name, .ref 2 1 none, I r4.Shift, I r4.Height, .bool r4.Blocks])) (Int.toNat i1) 1 [ow 1 I r4.Cost] = List.map goi_Terrain (List.set l2 (Int.toNat i1) r4)) (setCells_set hx6 rfl)<|P1 (allOw_159 (List.set l2 (Int.toNat i1) r4))<|P1 (setLen l2 (Int.toNat i1) r4)<|P0) hn)
  (fun h1 H =>
  eN H<|gE func114 [rg [hF 3], r0] (by kernel_rfl) (P2 ((decide (i1 < ((va0.length : Nat) : Int))) = false) (decide_eq_false h1)<|P0))
theorem ww_toTerrainS : ∀ s r, loop Bw_toTerrainS s = some r → Wc X 114 0 (Kw_toTerrainS s) (Zw_toTerrainS s) (Rw_toTerrainS r) ((fun _ => []) r) := Nx.all (nw_toTerrainS)
theorem cw_toTerrainS {a0 : (List Gw_Terrain)} {r : (List Gi_Terrain)} (H : Dw_toTerrainS a0 = some r) : Ct X.P X.gl 114 [sl 5 gw_Terrain a0] [] (Rw_toTerrainS r) [] :=
  Ct.of func114 (c := bdy f114) (by kernel_rfl) (by kernel_rfl) <|
  eCk H fun h1 H =>
  gO [r0, rg [{ i := 2, n := (List.replicate (Int.toNat ((a0.length : Nat) : Int)) (Gi_Terrain.mk ⟨#[]⟩ [] 0 0 false)).length, xs := List.replicate (Int.toNat ((a0.length : Nat) : Int)) (.agg [.str ⟨#[]⟩, .nil, I 0, I 0, .bool false] : D), post := [.nils 0 (List.map goi_Terrain (List.replicate (Int.toNat ((a0.length : Nat) : Int)) (Gi_Terrain.mk ⟨#[]⟩ [] 0 0 false)))] }], r0, .canon [0] [0, 3, 4]] (by kernel_rfl) (PI (((a0.length : Nat) : Int) : Int)<|P2 ((0 : Int) ≤ ((a0.length : Nat) : Int)) (by omega)<|P2 (Int.toNat ((a0.length : Nat) : Int) * 64 ≤ 140737488355328) h1<|P1 (repLen (Int.toNat ((a0.length : Nat) : Int)) (Gi_Terrain.mk ⟨#[]⟩ [] 0 0 false))<|P2 (List.replicate (Int.toNat ((a0.length : Nat) : Int)) (.agg [.str ⟨#[]⟩, .nil, I 0, I 0, .bool false] : D) = List.replicate (Int.toNat ((a0.length : Nat) : Int)) (.agg [.str ⟨#[]⟩, .nil, I 0, I 0, .bool false] : D)) rfl<|P2 (NilOk (List.replicate (Int.toNat ((a0.length : Nat) : Int)) (.agg [.str ⟨#[]⟩, .nil, I 0, I 0, .bool false] : D)) (List.map goi_Terrain (List.replicate (Int.toNat ((a0.length : Nat) : Int)) (Gi_Terrain.mk ⟨#[]⟩ [] 0 0 false)))) (nilOk_rep (f := goi_Terrain) (z := (.agg [.str ⟨#[]⟩, .nil, I 0, I 0, .bool false] : D)) (x := (Gi_Terrain.mk ⟨#[]⟩ [] 0 0 false)) (nilC_s (nilC_n (nilC_s (nilC_s (nilC_s nilC_0))))) (Int.toNat ((a0.length : Nat) : Int)))<|P0) (ww_toTerrainS _ _ H)
def Rw_toKind (r : Gi_Kind) : List D := [.agg [.str r.Name, I r.Strength, I r.Moves, I r.Steps, .bool r.Zone, I r.View]]
theorem cw_toKind {a0 : Gw_Kind} {r : Gi_Kind} (H : Dw_toKind a0 = some r) : Ct X.P X.gl 154 [gw_Kind a0] [] (Rw_toKind r) [] :=
  Ct.of func154 (c := bdy f154) (by kernel_rfl) (by kernel_rfl) <|
  eW Rw_toKind (fun _ => []) H<|gE func154 [r0, r0, r0, r0, r0, r0, r0, r0, r0] (by kernel_rfl) P0
def Rw_toKindS (r : (List Gi_Kind)) : List D := [ow 6 gi_Kind r]
noncomputable def Kw_toKindS : Sw_toKindS → List Item
 | .h1 .. => nav 300 3 [] [.code (bdy f115)]
def Zw_toKindS : Sw_toKindS → St
 | .h1 va0 i1 l2 => ⟨sts 23 [(0, sl 6 gw_Kind va0), (3, .ref 0 6 none), (4, I i1)], [some ⟨false, false, 6, l2.length, List.map gi_Kind l2⟩]⟩
abbrev Qw_toKindS := Nx X 115 0 Kw_toKindS Zw_toKindS Rw_toKindS (fun _ => [])
theorem nw_toKindS : ∀ s o, Bw_toKindS s = some o → Qw_toKindS (Kw_toKindS s) (Zw_toKindS s) o
 | .h1 va0 i1 l2, o, H =>
  eIf H (fun h1 H =>
  eCk H fun h2 H =>
  eBind H fun x3 hx3 H =>
  eBind H fun r4 hr4 H =>
  eCk H fun h5 H =>
  eBind H fun x6 hx6 H =>
  eN H fun r hn => gO [rg [hT 3], rg [hE 5 (gw_Kind x3), hC 6 true [] (Rw_toKind r4) [], hA 8 ((List.set l2 (Int.toNat i1) r4).length) (List.map gi_Kind (List.set l2 (Int.toNat i1) r4))], r0, .canon [0] [0, 3, 4]] (by kernel_rfl) (P2 ((decide (i1 < ((va0.length : Nat) : Int))) = true) (decide_eq_true h1)<|P1 h2<|P1 (int_lt_of_at h2 hx3)<|P1 (at_map gw_Kind hx3)<|P1 (cw_toKind hr4)<|P1 h5<|P1 (int_lt_of_at h5 hx6)<|P1 (lt_of_at hx6)<|P2 (setCells (List.map gi_Kind l2) (Int.toNat i1) 0 [.str r4.Name, I r4.Strength, I r4.Moves, I r4.Steps, .bool r4.Zone, I r4.View] = List.map gi_Kind (List.set l2 (Int.toNat i1) r4)) (setCells_map hx6 rfl)<|P1 (setLen l2 (Int.toNat i1) r4)<|P0) hn)
  (fun h1 H =>
  eN H<|gE func115 [rg [hF 3], r0] (by kernel_rfl) (P2 ((decide (i1 < ((va0.length : Nat) : Int))) = false) (decide_eq_false h1)<|P0))
theorem ww_toKindS : ∀ s r, loop Bw_toKindS s = some r → Wc X 115 0 (Kw_toKindS s) (Zw_toKindS s) (Rw_toKindS r) ((fun _ => []) r) := Nx.all (nw_toKindS)
theorem cw_toKindS {a0 : (List Gw_Kind)} {r : (List Gi_Kind)} (H : Dw_toKindS a0 = some r) : Ct X.P X.gl 115 [sl 6 gw_Kind a0] [] (Rw_toKindS r) [] :=
  Ct.of func115 (c := bdy f115) (by kernel_rfl) (by kernel_rfl) <|
  eCk H fun h1 H =>
  gO [r0, rg [hA 2 ((List.replicate (Int.toNat ((a0.length : Nat) : Int)) (Gi_Kind.mk ⟨#[]⟩ 0 0 0 false 0)).length) (List.map gi_Kind (List.replicate (Int.toNat ((a0.length : Nat) : Int)) (Gi_Kind.mk ⟨#[]⟩ 0 0 0 false 0)))], r0, .canon [0] [0, 3, 4]] (by kernel_rfl) (PI (((a0.length : Nat) : Int) : Int)<|P2 ((0 : Int) ≤ ((a0.length : Nat) : Int)) (by omega)<|P2 (Int.toNat ((a0.length : Nat) : Int) * 56 ≤ 140737488355328) h1<|P1 (repLen (Int.toNat ((a0.length : Nat) : Int)) (Gi_Kind.mk ⟨#[]⟩ 0 0 0 false 0))<|P1 (repMap gi_Kind (Int.toNat ((a0.length : Nat) : Int)) (Gi_Kind.mk ⟨#[]⟩ 0 0 0 false 0))<|P0) (ww_toKindS _ _ H)
def Rw_toRules (r : Gi_Rules) : List D := [.agg [ow 5 goi_Terrain r.Terrains, ow 6 gi_Kind r.Kinds, I r.Stack, I r.River, I r.Road, I r.Supply, I r.Turns]]
theorem cw_toRules {a0 : Gw_Rules} {r : Gi_Rules} (H : Dw_toRules a0 = some r) : Ct X.P X.gl 76 [gw_Rules a0] [] (Rw_toRules r) [] :=
  Ct.of func76 (c := bdy f76) (by kernel_rfl) (by kernel_rfl) <|
  eBind H fun r1 hr1 H =>
  eBind H fun r2 hr2 H =>
  eW Rw_toRules (fun _ => []) H<|gE func76 [r0, r0, rg [hC 2 true [] (Rw_toTerrainS r1) []], rg [hC 2 true [] (Rw_toKindS r2) []], r0, r0, r0, r0, r0, r0] (by kernel_rfl) (P1 (cw_toTerrainS hr1)<|P1 (cw_toKindS hr2)<|P0)
def Rw_toMap (r : Gi_Map) : List D := [.agg [I r.Width, I r.Height, ow 1 I r.Terrain, ow 1 I r.Rivers, ow 1 I r.Roads]]
theorem cw_toMap {a0 : Gw_Map} {r : Gi_Map} (H : Dw_toMap a0 = some r) : Ct X.P X.gl 77 [gw_Map a0] [] (Rw_toMap r) [] :=
  Ct.of func77 (c := bdy f77) (by kernel_rfl) (by kernel_rfl) <|
  eBind H fun r1 hr1 H =>
  eBind H fun r2 hr2 H =>
  eBind H fun r3 hr3 H =>
  eW Rw_toMap (fun _ => []) H<|gE func77 [r0, r0, r0, r0, rg [hC 2 true [] (Rw_toIntS r1) []], rg [hC 2 true [] (Rw_toIntS r2) []], rg [hC 2 true [] (Rw_toIntS r3) []], r0] (by kernel_rfl) (P1 (cw_toIntS hr1)<|P1 (cw_toIntS hr2)<|P1 (cw_toIntS hr3)<|P0)
def Rw_toBoard (r : Gi_Board) : List D := [.agg [ow 5 goi_Terrain r.Rules.Terrains, ow 6 gi_Kind r.Rules.Kinds, I r.Rules.Stack, I r.Rules.River, I r.Rules.Road, I r.Rules.Supply, I r.Rules.Turns, I r.Map.Width, I r.Map.Height, ow 1 I r.Map.Terrain, ow 1 I r.Map.Rivers, ow 1 I r.Map.Roads]]
theorem cw_toBoard {a0 : Gw_Board} {r : Gi_Board} (H : Dw_toBoard a0 = some r) : Ct X.P X.gl 33 [gw_Board a0] [] (Rw_toBoard r) [] :=
  Ct.of func33 (c := bdy f33) (by kernel_rfl) (by kernel_rfl) <|
  eBind H fun r1 hr1 H =>
  eBind H fun r2 hr2 H =>
  eW Rw_toBoard (fun _ => []) H<|gE func33 [r0, r0, rg [hC 2 true [] (Rw_toRules r1) []], rg [hC 2 true [] (Rw_toMap r2) []], r0] (by kernel_rfl) (P1 (cw_toRules hr1)<|P1 (cw_toMap hr2)<|P0)
def Rw_toOdds (r : Gi_Odds) : List D := [.agg [I r.Num, I r.Den]]
theorem cw_toOdds {a0 : Gw_Odds} {r : Gi_Odds} (H : Dw_toOdds a0 = some r) : Ct X.P X.gl 116 [gw_Odds a0] [] (Rw_toOdds r) [] :=
  Ct.of func116 (c := bdy f116) (by kernel_rfl) (by kernel_rfl) <|
  eW Rw_toOdds (fun _ => []) H<|gE func116 [r0, r0, r0, r0, r0] (by kernel_rfl) P0
def Rw_toOddsS (r : (List Gi_Odds)) : List D := [ow 2 gi_Odds r]
noncomputable def Kw_toOddsS : Sw_toOddsS → List Item
 | .h1 .. => nav 300 3 [] [.code (bdy f78)]
def Zw_toOddsS : Sw_toOddsS → St
 | .h1 va0 i1 l2 => ⟨sts 23 [(0, sl 2 gw_Odds va0), (3, .ref 0 2 none), (4, I i1)], [some ⟨false, false, 2, l2.length, List.map gi_Odds l2⟩]⟩
abbrev Qw_toOddsS := Nx X 78 0 Kw_toOddsS Zw_toOddsS Rw_toOddsS (fun _ => [])
theorem nw_toOddsS : ∀ s o, Bw_toOddsS s = some o → Qw_toOddsS (Kw_toOddsS s) (Zw_toOddsS s) o
 | .h1 va0 i1 l2, o, H =>
  eIf H (fun h1 H =>
  eCk H fun h2 H =>
  eBind H fun x3 hx3 H =>
  eBind H fun r4 hr4 H =>
  eCk H fun h5 H =>
  eBind H fun x6 hx6 H =>
  eN H fun r hn => gO [rg [hT 3], rg [hE 5 (gw_Odds x3), hC 6 true [] (Rw_toOdds r4) [], hA 8 ((List.set l2 (Int.toNat i1) r4).length) (List.map gi_Odds (List.set l2 (Int.toNat i1) r4))], r0, .canon [0] [0, 3, 4]] (by kernel_rfl) (P2 ((decide (i1 < ((va0.length : Nat) : Int))) = true) (decide_eq_true h1)<|P1 h2<|P1 (int_lt_of_at h2 hx3)<|P1 (at_map gw_Odds hx3)<|P1 (cw_toOdds hr4)<|P1 h5<|P1 (int_lt_of_at h5 hx6)<|P1 (lt_of_at hx6)<|P2 (setCells (List.map gi_Odds l2) (Int.toNat i1) 0 [I r4.Num, I r4.Den] = List.map gi_Odds (List.set l2 (Int.toNat i1) r4)) (setCells_map hx6 rfl)<|P1 (setLen l2 (Int.toNat i1) r4)<|P0) hn)
  (fun h1 H =>
  eN H<|gE func78 [rg [hF 3], r0] (by kernel_rfl) (P2 ((decide (i1 < ((va0.length : Nat) : Int))) = false) (decide_eq_false h1)<|P0))
theorem ww_toOddsS : ∀ s r, loop Bw_toOddsS s = some r → Wc X 78 0 (Kw_toOddsS s) (Zw_toOddsS s) (Rw_toOddsS r) ((fun _ => []) r) := Nx.all (nw_toOddsS)
theorem cw_toOddsS {a0 : (List Gw_Odds)} {r : (List Gi_Odds)} (H : Dw_toOddsS a0 = some r) : Ct X.P X.gl 78 [sl 2 gw_Odds a0] [] (Rw_toOddsS r) [] :=
  Ct.of func78 (c := bdy f78) (by kernel_rfl) (by kernel_rfl) <|
  eCk H fun h1 H =>
  gO [r0, rg [hA 2 ((List.replicate (Int.toNat ((a0.length : Nat) : Int)) (Gi_Odds.mk 0 0)).length) (List.map gi_Odds (List.replicate (Int.toNat ((a0.length : Nat) : Int)) (Gi_Odds.mk 0 0)))], r0, .canon [0] [0, 3, 4]] (by kernel_rfl) (PI (((a0.length : Nat) : Int) : Int)<|P2 ((0 : Int) ≤ ((a0.length : Nat) : Int)) (by omega)<|P2 (Int.toNat ((a0.length : Nat) : Int) * 16 ≤ 140737488355328) h1<|P1 (repLen (Int.toNat ((a0.length : Nat) : Int)) (Gi_Odds.mk 0 0))<|P1 (repMap gi_Odds (Int.toNat ((a0.length : Nat) : Int)) (Gi_Odds.mk 0 0))<|P0) (ww_toOddsS _ _ H)
def Rw_toIntSS (r : (List (List Int))) : List D := [ow 1 (ow 1 I) r]
noncomputable def Kw_toIntSS : Sw_toIntSS → List Item
 | .h1 .. => nav 300 3 [] [.code (bdy f38)]
def Zw_toIntSS : Sw_toIntSS → St
 | .h1 va0 i1 l2 => ⟨sts 23 [(0, sl 1 (sl 1 I) va0), (3, .ref 0 1 none), (4, I i1)], [some ⟨false, false, 1, l2.length, List.map (ow 1 I) l2⟩]⟩
abbrev Qw_toIntSS := Nx X 38 0 Kw_toIntSS Zw_toIntSS Rw_toIntSS (fun _ => [])
theorem nw_toIntSS : ∀ s o, Bw_toIntSS s = some o → Qw_toIntSS (Kw_toIntSS s) (Zw_toIntSS s) o
 | .h1 va0 i1 l2, o, H =>
  eIf H (fun h1 H =>
  eCk H fun h2 H =>
  eBind H fun x3 hx3 H =>
  eBind H fun r4 hr4 H =>
  eCk H fun h5 H =>
  eBind H fun x6 hx6 H =>
  eN H fun r hn => gO [rg [hT 3], rg [hE 5 ((sl 1 I) x3), hC 6 true [] (Rw_toIntS r4) [], { i := 8, xs := List.set (List.map (ow 1 I) l2) (Int.toNat i1) (.ref 1 1 none), post := [.put 0 (Int.toNat i1) 0 1 (List.map (ow 1 I) (List.set l2 (Int.toNat i1) r4)), .own 0 (List.set l2 (Int.toNat i1) r4).length] }], r0, .canon [0] [0, 3, 4]] (by kernel_rfl) (P2 ((decide (i1 < ((va0.length : Nat) : Int))) = true) (decide_eq_true h1)<|P1 h2<|P1 (int_lt_of_at h2 hx3)<|P1 (at_map (sl 1 I) hx3)<|P1 (cw_toIntS hr4)<|P1 h5<|P1 (int_lt_of_at h5 hx6)<|P1 (lt_of_at hx6)<|P2 (setCells (List.map (ow 1 I) l2) (Int.toNat i1) 0 [.ref 1 1 none] = List.set (List.map (ow 1 I) l2) (Int.toNat i1) (.ref 1 1 none)) (setCells_mapD hx6 rfl)<|P2 (getCells (List.set (List.map (ow 1 I) l2) (Int.toNat i1) (.ref 1 1 none)) (Int.toNat i1) 0 1 = some [.ref 1 1 none]) (getCells_set hx6 rfl)<|P2 (setCells (List.set (List.map (ow 1 I) l2) (Int.toNat i1) (.ref 1 1 none)) (Int.toNat i1) 0 [ow 1 I r4] = List.map (ow 1 I) (List.set l2 (Int.toNat i1) r4)) (setCells_set hx6 rfl)<|P1 (allOw_26 (List.set l2 (Int.toNat i1) r4))<|P1 (setLen l2 (Int.toNat i1) r4)<|P0) hn)
  (fun h1 H =>
  eN H<|gE func38 [rg [hF 3], r0] (by kernel_rfl) (P2 ((decide (i1 < ((va0.length : Nat) : Int))) = false) (decide_eq_false h1)<|P0))
theorem ww_toIntSS : ∀ s r, loop Bw_toIntSS s = some r → Wc X 38 0 (Kw_toIntSS s) (Zw_toIntSS s) (Rw_toIntSS r) ((fun _ => []) r) := Nx.all (nw_toIntSS)
theorem cw_toIntSS {a0 : (List (List Int))} {r : (List (List Int))} (H : Dw_toIntSS a0 = some r) : Ct X.P X.gl 38 [sl 1 (sl 1 I) a0] [] (Rw_toIntSS r) [] :=
  Ct.of func38 (c := bdy f38) (by kernel_rfl) (by kernel_rfl) <|
  eCk H fun h1 H =>
  gO [r0, rg [{ i := 2, n := (List.replicate (Int.toNat ((a0.length : Nat) : Int)) ([] : (List Int))).length, xs := List.replicate (Int.toNat ((a0.length : Nat) : Int)) (.nil : D), post := [.nils 0 (List.map (ow 1 I) (List.replicate (Int.toNat ((a0.length : Nat) : Int)) ([] : (List Int))))] }], r0, .canon [0] [0, 3, 4]] (by kernel_rfl) (PI (((a0.length : Nat) : Int) : Int)<|P2 ((0 : Int) ≤ ((a0.length : Nat) : Int)) (by omega)<|P2 (Int.toNat ((a0.length : Nat) : Int) * 24 ≤ 140737488355328) h1<|P1 (repLen (Int.toNat ((a0.length : Nat) : Int)) ([] : (List Int)))<|P2 (List.replicate (Int.toNat ((a0.length : Nat) : Int)) (.nil : D) = List.replicate (Int.toNat ((a0.length : Nat) : Int)) (.nil : D)) rfl<|P2 (NilOk (List.replicate (Int.toNat ((a0.length : Nat) : Int)) (.nil : D)) (List.map (ow 1 I) (List.replicate (Int.toNat ((a0.length : Nat) : Int)) ([] : (List Int))))) (nilOk_rep (f := (ow 1 I)) (z := (.nil : D)) (x := ([] : (List Int))) (nilC_n nilC_0) (Int.toNat ((a0.length : Nat) : Int)))<|P0) (ww_toIntSS _ _ H)
def Rw_toCombatTable (r : Gi_CombatTable) : List D := [.agg [ow 2 gi_Odds r.Columns, I r.Dice, ow 1 (ow 1 I) r.Results]]
theorem cw_toCombatTable {a0 : Gw_CombatTable} {r : Gi_CombatTable} (H : Dw_toCombatTable a0 = some r) : Ct X.P X.gl 34 [gw_CombatTable a0] [] (Rw_toCombatTable r) [] :=
  Ct.of func34 (c := bdy f34) (by kernel_rfl) (by kernel_rfl) <|
  eBind H fun r1 hr1 H =>
  eBind H fun r2 hr2 H =>
  eW Rw_toCombatTable (fun _ => []) H<|gE func34 [r0, r0, rg [hC 2 true [] (Rw_toOddsS r1) []], r0, rg [hC 2 true [] (Rw_toIntSS r2) []], r0] (by kernel_rfl) (P1 (cw_toOddsS hr1)<|P1 (cw_toIntSS hr2)<|P0)
def Rw_toUnit (r : Gi_Unit) : List D := [.agg [I r.Side, I r.Kind, I r.At, I r.Steps]]
theorem cw_toUnit {a0 : Gw_Unit} {r : Gi_Unit} (H : Dw_toUnit a0 = some r) : Ct X.P X.gl 117 [gw_Unit a0] [] (Rw_toUnit r) [] :=
  Ct.of func117 (c := bdy f117) (by kernel_rfl) (by kernel_rfl) <|
  eW Rw_toUnit (fun _ => []) H<|gE func117 [r0, r0, r0, r0, r0, r0, r0] (by kernel_rfl) P0
def Rw_toUnitS (r : (List Gi_Unit)) : List D := [ow 4 gi_Unit r]
noncomputable def Kw_toUnitS : Sw_toUnitS → List Item
 | .h1 .. => nav 300 3 [] [.code (bdy f79)]
def Zw_toUnitS : Sw_toUnitS → St
 | .h1 va0 i1 l2 => ⟨sts 23 [(0, sl 4 gw_Unit va0), (3, .ref 0 4 none), (4, I i1)], [some ⟨false, false, 4, l2.length, List.map gi_Unit l2⟩]⟩
abbrev Qw_toUnitS := Nx X 79 0 Kw_toUnitS Zw_toUnitS Rw_toUnitS (fun _ => [])
theorem nw_toUnitS : ∀ s o, Bw_toUnitS s = some o → Qw_toUnitS (Kw_toUnitS s) (Zw_toUnitS s) o
 | .h1 va0 i1 l2, o, H =>
  eIf H (fun h1 H =>
  eCk H fun h2 H =>
  eBind H fun x3 hx3 H =>
  eBind H fun r4 hr4 H =>
  eCk H fun h5 H =>
  eBind H fun x6 hx6 H =>
  eN H fun r hn => gO [rg [hT 3], rg [hE 5 (gw_Unit x3), hC 6 true [] (Rw_toUnit r4) [], hA 8 ((List.set l2 (Int.toNat i1) r4).length) (List.map gi_Unit (List.set l2 (Int.toNat i1) r4))], r0, .canon [0] [0, 3, 4]] (by kernel_rfl) (P2 ((decide (i1 < ((va0.length : Nat) : Int))) = true) (decide_eq_true h1)<|P1 h2<|P1 (int_lt_of_at h2 hx3)<|P1 (at_map gw_Unit hx3)<|P1 (cw_toUnit hr4)<|P1 h5<|P1 (int_lt_of_at h5 hx6)<|P1 (lt_of_at hx6)<|P2 (setCells (List.map gi_Unit l2) (Int.toNat i1) 0 [I r4.Side, I r4.Kind, I r4.At, I r4.Steps] = List.map gi_Unit (List.set l2 (Int.toNat i1) r4)) (setCells_map hx6 rfl)<|P1 (setLen l2 (Int.toNat i1) r4)<|P0) hn)
  (fun h1 H =>
  eN H<|gE func79 [rg [hF 3], r0] (by kernel_rfl) (P2 ((decide (i1 < ((va0.length : Nat) : Int))) = false) (decide_eq_false h1)<|P0))
theorem ww_toUnitS : ∀ s r, loop Bw_toUnitS s = some r → Wc X 79 0 (Kw_toUnitS s) (Zw_toUnitS s) (Rw_toUnitS r) ((fun _ => []) r) := Nx.all (nw_toUnitS)
theorem cw_toUnitS {a0 : (List Gw_Unit)} {r : (List Gi_Unit)} (H : Dw_toUnitS a0 = some r) : Ct X.P X.gl 79 [sl 4 gw_Unit a0] [] (Rw_toUnitS r) [] :=
  Ct.of func79 (c := bdy f79) (by kernel_rfl) (by kernel_rfl) <|
  eCk H fun h1 H =>
  gO [r0, rg [hA 2 ((List.replicate (Int.toNat ((a0.length : Nat) : Int)) (Gi_Unit.mk 0 0 0 0)).length) (List.map gi_Unit (List.replicate (Int.toNat ((a0.length : Nat) : Int)) (Gi_Unit.mk 0 0 0 0)))], r0, .canon [0] [0, 3, 4]] (by kernel_rfl) (PI (((a0.length : Nat) : Int) : Int)<|P2 ((0 : Int) ≤ ((a0.length : Nat) : Int)) (by omega)<|P2 (Int.toNat ((a0.length : Nat) : Int) * 32 ≤ 140737488355328) h1<|P1 (repLen (Int.toNat ((a0.length : Nat) : Int)) (Gi_Unit.mk 0 0 0 0))<|P1 (repMap gi_Unit (Int.toNat ((a0.length : Nat) : Int)) (Gi_Unit.mk 0 0 0 0))<|P0) (ww_toUnitS _ _ H)
def Rw_toState (r : Gi_State) : List D := [.agg [I r.Turn, I r.Weather, ow 4 gi_Unit r.Units]]
theorem cw_toState {a0 : Gw_State} {r : Gi_State} (H : Dw_toState a0 = some r) : Ct X.P X.gl 35 [gw_State a0] [] (Rw_toState r) [] :=
  Ct.of func35 (c := bdy f35) (by kernel_rfl) (by kernel_rfl) <|
  eBind H fun r1 hr1 H =>
  eW Rw_toState (fun _ => []) H<|gE func35 [r0, r0, r0, r0, rg [hC 2 true [] (Rw_toUnitS r1) []], r0] (by kernel_rfl) (P1 (cw_toUnitS hr1)<|P0)
def Rw_toGoal (r : Gi_Goal) : List D := [.agg [I r.At, I r.Points]]
theorem cw_toGoal {a0 : Gw_Goal} {r : Gi_Goal} (H : Dw_toGoal a0 = some r) : Ct X.P X.gl 118 [gw_Goal a0] [] (Rw_toGoal r) [] :=
  Ct.of func118 (c := bdy f118) (by kernel_rfl) (by kernel_rfl) <|
  eW Rw_toGoal (fun _ => []) H<|gE func118 [r0, r0, r0, r0, r0] (by kernel_rfl) P0
def Rw_toGoalS (r : (List Gi_Goal)) : List D := [ow 2 gi_Goal r]
noncomputable def Kw_toGoalS : Sw_toGoalS → List Item
 | .h1 .. => nav 300 3 [] [.code (bdy f80)]
def Zw_toGoalS : Sw_toGoalS → St
 | .h1 va0 i1 l2 => ⟨sts 23 [(0, sl 2 gw_Goal va0), (3, .ref 0 2 none), (4, I i1)], [some ⟨false, false, 2, l2.length, List.map gi_Goal l2⟩]⟩
abbrev Qw_toGoalS := Nx X 80 0 Kw_toGoalS Zw_toGoalS Rw_toGoalS (fun _ => [])
theorem nw_toGoalS : ∀ s o, Bw_toGoalS s = some o → Qw_toGoalS (Kw_toGoalS s) (Zw_toGoalS s) o
 | .h1 va0 i1 l2, o, H =>
  eIf H (fun h1 H =>
  eCk H fun h2 H =>
  eBind H fun x3 hx3 H =>
  eBind H fun r4 hr4 H =>
  eCk H fun h5 H =>
  eBind H fun x6 hx6 H =>
  eN H fun r hn => gO [rg [hT 3], rg [hE 5 (gw_Goal x3), hC 6 true [] (Rw_toGoal r4) [], hA 8 ((List.set l2 (Int.toNat i1) r4).length) (List.map gi_Goal (List.set l2 (Int.toNat i1) r4))], r0, .canon [0] [0, 3, 4]] (by kernel_rfl) (P2 ((decide (i1 < ((va0.length : Nat) : Int))) = true) (decide_eq_true h1)<|P1 h2<|P1 (int_lt_of_at h2 hx3)<|P1 (at_map gw_Goal hx3)<|P1 (cw_toGoal hr4)<|P1 h5<|P1 (int_lt_of_at h5 hx6)<|P1 (lt_of_at hx6)<|P2 (setCells (List.map gi_Goal l2) (Int.toNat i1) 0 [I r4.At, I r4.Points] = List.map gi_Goal (List.set l2 (Int.toNat i1) r4)) (setCells_map hx6 rfl)<|P1 (setLen l2 (Int.toNat i1) r4)<|P0) hn)
  (fun h1 H =>
  eN H<|gE func80 [rg [hF 3], r0] (by kernel_rfl) (P2 ((decide (i1 < ((va0.length : Nat) : Int))) = false) (decide_eq_false h1)<|P0))
theorem ww_toGoalS : ∀ s r, loop Bw_toGoalS s = some r → Wc X 80 0 (Kw_toGoalS s) (Zw_toGoalS s) (Rw_toGoalS r) ((fun _ => []) r) := Nx.all (nw_toGoalS)
theorem cw_toGoalS {a0 : (List Gw_Goal)} {r : (List Gi_Goal)} (H : Dw_toGoalS a0 = some r) : Ct X.P X.gl 80 [sl 2 gw_Goal a0] [] (Rw_toGoalS r) [] :=
  Ct.of func80 (c := bdy f80) (by kernel_rfl) (by kernel_rfl) <|
  eCk H fun h1 H =>
  gO [r0, rg [hA 2 ((List.replicate (Int.toNat ((a0.length : Nat) : Int)) (Gi_Goal.mk 0 0)).length) (List.map gi_Goal (List.replicate (Int.toNat ((a0.length : Nat) : Int)) (Gi_Goal.mk 0 0)))], r0, .canon [0] [0, 3, 4]] (by kernel_rfl) (PI (((a0.length : Nat) : Int) : Int)<|P2 ((0 : Int) ≤ ((a0.length : Nat) : Int)) (by omega)<|P2 (Int.toNat ((a0.length : Nat) : Int) * 16 ≤ 140737488355328) h1<|P1 (repLen (Int.toNat ((a0.length : Nat) : Int)) (Gi_Goal.mk 0 0))<|P1 (repMap gi_Goal (Int.toNat ((a0.length : Nat) : Int)) (Gi_Goal.mk 0 0))<|P0) (ww_toGoalS _ _ H)
def Rw_toConditions (r : Gi_Conditions) : List D := [.agg [ow 2 gi_Goal r.Goals, I r.Step, I r.Margin]]
theorem cw_toConditions {a0 : Gw_Conditions} {r : Gi_Conditions} (H : Dw_toConditions a0 = some r) : Ct X.P X.gl 36 [gw_Conditions a0] [] (Rw_toConditions r) [] :=
  Ct.of func36 (c := bdy f36) (by kernel_rfl) (by kernel_rfl) <|
  eBind H fun r1 hr1 H =>
  eW Rw_toConditions (fun _ => []) H<|gE func36 [r0, r0, rg [hC 2 true [] (Rw_toGoalS r1) []], r0, r0, r0] (by kernel_rfl) (P1 (cw_toGoalS hr1)<|P0)
def Rw_toScenario (r : Gi_Scenario) : List D := [.agg [.str r.Name, ow 5 goi_Terrain r.Board.Rules.Terrains, ow 6 gi_Kind r.Board.Rules.Kinds, I r.Board.Rules.Stack, I r.Board.Rules.River, I r.Board.Rules.Road, I r.Board.Rules.Supply, I r.Board.Rules.Turns, I r.Board.Map.Width, I r.Board.Map.Height, ow 1 I r.Board.Map.Terrain, ow 1 I r.Board.Map.Rivers, ow 1 I r.Board.Map.Roads, ow 2 gi_Odds r.Table.Columns, I r.Table.Dice, ow 1 (ow 1 I) r.Table.Results, I r.Start.Turn, I r.Start.Weather, ow 4 gi_Unit r.Start.Units, ow 2 gi_Goal r.Conditions.Goals, I r.Conditions.Step, I r.Conditions.Margin, ow 1 I r.First, ow 1 I r.Other]]
theorem cw_toScenario {a0 : Gw_Scenario} {r : Gi_Scenario} (H : Dw_toScenario a0 = some r) : Ct X.P X.gl 8 [gw_Scenario a0] [] (Rw_toScenario r) [] :=
  Ct.of func8 (c := bdy f8) (by kernel_rfl) (by kernel_rfl) <|
  eBind H fun r1 hr1 H =>
  eBind H fun r2 hr2 H =>
  eBind H fun r3 hr3 H =>
  eBind H fun r4 hr4 H =>
  eBind H fun r5 hr5 H =>
  eBind H fun r6 hr6 H =>
  eW Rw_toScenario (fun _ => []) H<|gE func8 [r0, r0, r0, rg [hC 2 true [] (Rw_toBoard r1) []], rg [hC 2 true [] (Rw_toCombatTable r2) []], rg [hC 2 true [] (Rw_toState r3) []], rg [hC 2 true [] (Rw_toConditions r4) []], rg [hC 2 true [] (Rw_toIntS r5) []], rg [hC 2 true [] (Rw_toIntS r6) []], r0] (by kernel_rfl) (P1 (cw_toBoard hr1)<|P1 (cw_toCombatTable hr2)<|P1 (cw_toState hr3)<|P1 (cw_toConditions hr4)<|P1 (cw_toIntS hr5)<|P1 (cw_toIntS hr6)<|P0)
def Rw_toClimate (r : Gi_Climate) : List D := [.agg [ow 1 (ow 1 I) r.Weights]]
theorem cw_toClimate {a0 : Gw_Climate} {r : Gi_Climate} (H : Dw_toClimate a0 = some r) : Ct X.P X.gl 9 [.agg [sl 1 (sl 1 I) a0.Weights]] [] (Rw_toClimate r) [] :=
  Ct.of func9 (c := bdy f9) (by kernel_rfl) (by kernel_rfl) <|
  eBind H fun r1 hr1 H =>
  eW Rw_toClimate (fun _ => []) H<|gE func9 [r0, r0, rg [hC 2 true [] (Rw_toIntSS r1) []], r0] (by kernel_rfl) (P1 (cw_toIntSS hr1)<|P0)
theorem cs_l1In {a0 : Int} {a1 : Int} {a2 : Int} {r : Bool} (H : Ds_l1In a0 a1 a2 = some r) : Ct X.P X.gl 152 [I a0, I a1, I a2] [] (RB r) [] :=
  Ct.of func152 (c := bdy f152) (by kernel_rfl) (by kernel_rfl) <|
  gS [r0] (by kernel_rfl) P0 <|
  eIf H (fun h1 H =>
  eW RB (fun _ => []) H<|gE func152 [rg [hT 2]] (by kernel_rfl) (P2 ((decide (a0 ≥ a1)) = true) (decide_eq_true h1)<|P0))
  (fun h1 H =>
  eW RB (fun _ => []) H<|gE func152 [rg [hF 2]] (by kernel_rfl) (P2 ((decide (a0 ≥ a1)) = false) (decide_eq_false h1)<|P0))
noncomputable def Ks_rName : Ss_rName → List Item
 | .h1 .. => nav 300 2 [] [.code (bdy f146)]
def Zs_rName : Ss_rName → St
 | .h1 s0 i1 => ⟨sts 23 [(0, .str s0), (3, I i1)], []⟩
abbrev Qs_rName := Nx X 146 0 Ks_rName Zs_rName RB (fun _ => [])
theorem ns_rName : ∀ s o, Bs_rName s = some o → Qs_rName (Ks_rName s) (Zs_rName s) o
 | .h1 s0 i1, o, H =>
  eIf H (fun h1 H =>
  eCk H fun h2 H =>
  eCk H fun h3 H =>
  gN [rg [hT 3]] (by kernel_rfl) (P2 ((decide (i1 < ((ByteArray.size s0 : Nat) : Int))) = true) (decide_eq_true h1)<|P0) <|
  eIf H (fun h4 H =>
  eN H<|gE func146 [rg [{ i := 2, n := byteAt s0 (Int.toNat i1) }, hT 3], r0] (by kernel_rfl) (P2 ((0 : Int) ≤ i1) h2<|P2 (i1 < (ByteArray.size s0 : Int)) h3<|P2 ((s0.data.toList[(Int.toNat i1)]?.map fun b => (b.toNat : Int)) = some ((byteAt s0 (Int.toNat i1) : Nat) : Int)) (byteAt_ok (by omega))<|P2 ((decide (((byteAt s0 (Int.toNat i1) : Nat) : Int) < 97)) = true) (decide_eq_true h4)<|P0))
  (fun h4 H =>
  eCk H fun h5 H =>
  eCk H fun h6 H =>
  eIf H (fun h7 H =>
  eN H<|gE func146 [rg [{ i := 2, n := byteAt s0 (Int.toNat i1) }, hF 3, { i := 7, n := byteAt s0 (Int.toNat i1) }, hT 8], r0] (by kernel_rfl) (P2 ((0 : Int) ≤ i1) h2<|P2 (i1 < (ByteArray.size s0 : Int)) h3<|P2 ((s0.data.toList[(Int.toNat i1)]?.map fun b => (b.toNat : Int)) = some ((byteAt s0 (Int.toNat i1) : Nat) : Int)) (byteAt_ok (by omega))<|P2 ((decide (((byteAt s0 (Int.toNat i1) : Nat) : Int) < 97)) = false) (decide_eq_false h4)<|P2 ((0 : Int) ≤ i1) h5<|P2 (i1 < (ByteArray.size s0 : Int)) h6<|P2 ((s0.data.toList[(Int.toNat i1)]?.map fun b => (b.toNat : Int)) = some ((byteAt s0 (Int.toNat i1) : Nat) : Int)) (byteAt_ok (by omega))<|P2 ((decide (((byteAt s0 (Int.toNat i1) : Nat) : Int) > 122)) = true) (decide_eq_true h7)<|P0))
  (fun h7 H =>
  eN H fun r hn => gO [rg [{ i := 2, n := byteAt s0 (Int.toNat i1) }, hF 3, { i := 7, n := byteAt s0 (Int.toNat i1) }, hF 8], r0, .canon [] [0, 3]] (by kernel_rfl) (P2 ((0 : Int) ≤ i1) h2<|P2 (i1 < (ByteArray.size s0 : Int)) h3<|P2 ((s0.data.toList[(Int.toNat i1)]?.map fun b => (b.toNat : Int)) = some ((byteAt s0 (Int.toNat i1) : Nat) : Int)) (byteAt_ok (by omega))<|P2 ((decide (((byteAt s0 (Int.toNat i1) : Nat) : Int) < 97)) = false) (decide_eq_false h4)<|P2 ((0 : Int) ≤ i1) h5<|P2 (i1 < (ByteArray.size s0 : Int)) h6<|P2 ((s0.data.toList[(Int.toNat i1)]?.map fun b => (b.toNat : Int)) = some ((byteAt s0 (Int.toNat i1) : Nat) : Int)) (byteAt_ok (by omega))<|P2 ((decide (((byteAt s0 (Int.toNat i1) : Nat) : Int) > 122)) = false) (decide_eq_false h7)<|P0) hn)))
  (fun h1 H =>
  eBind H fun r2 hr2 H =>
  eN H<|gE func146 [rg [hF 3], rg [hC 2 true [] (RB r2) []]] (by kernel_rfl) (P2 ((decide (i1 < ((ByteArray.size s0 : Nat) : Int))) = false) (decide_eq_false h1)<|P1 (cs_l1In hr2)<|P0))
theorem ws_rName : ∀ s r, loop Bs_rName s = some r → Wc X 146 0 (Ks_rName s) (Zs_rName s) (RB r) ((fun _ => []) r) := Nx.all (ns_rName)
theorem cs_rName {a0 : ByteArray} {r : Bool} (H : Ds_rName a0 = some r) : Ct X.P X.gl 146 [.str a0] [] (RB r) [] :=
  Ct.of func146 (c := bdy f146) (by kernel_rfl) (by kernel_rfl) <|
  gO [r0, r0, .canon [] [0, 3]] (by kernel_rfl) P0 (ws_rName _ _ H)
noncomputable def Ks_rTerrain : Ss_rTerrain → List Item
 | .h1 .. => nav 300 2 [] [.code (bdy f189)]
def Zs_rTerrain : Ss_rTerrain → St
 | .h1 name0 t1 t2 t3 => ⟨sts 20 [(1, .str name0), (7, sl 5 gi_Terrain t1), (8, I t2), (9, I t3)], []⟩
abbrev Qs_rTerrain := Nx X 189 0 Ks_rTerrain Zs_rTerrain RI (fun _ => [])
theorem ns_rTerrain : ∀ s o, Bs_rTerrain s = some o → Qs_rTerrain (Ks_rTerrain s) (Zs_rTerrain s) o
 | .h1 name0 t1 t2 t3, o, H =>
  eIf H (fun h1 H =>
  eCk H fun h2 H =>
  eBind H fun x3 hx3 H =>
  gN [rg [hT 0], rg [hE 2 (gi_Terrain x3)]] (by kernel_rfl) (P2 ((decide (t3 < t2)) = true) (decide_eq_true h1)<|P1 h2<|P1 (int_lt_of_at h2 hx3)<|P1 (at_map gi_Terrain hx3)<|P0) <|
  eIf H (fun h4 H =>
  eN H<|gE func189 [rg [hT 3], r0] (by kernel_rfl) (P2 ((x3.Name == name0) = true) (beqT h4)<|P0))
  (fun h4 H =>
  eN H fun r hn => gO [rg [hF 3], r0, .canon [] [1, 7, 8, 9]] (by kernel_rfl) (P2 ((x3.Name == name0) = false) (beqF h4)<|P0) hn))
  (fun h1 H =>
  eN H<|gE func189 [rg [hF 0], r0] (by kernel_rfl) (P2 ((decide (t3 < t2)) = false) (decide_eq_false h1)<|P0))
theorem ws_rTerrain : ∀ s r, loop Bs_rTerrain s = some r → Wc X 189 0 (Ks_rTerrain s) (Zs_rTerrain s) (RI r) ((fun _ => []) r) := Nx.all (ns_rTerrain)
theorem cs_rTerrain {a0 : (List Gi_Terrain)} {a1 : ByteArray} {r : Int} (H : Ds_rTerrain a0 a1 = some r) : Ct X.P X.gl 189 [sl 5 gi_Terrain a0, .str a1] [] (RI r) [] :=
  Ct.of func189 (c := bdy f189) (by kernel_rfl) (by kernel_rfl) <|
  gO [r0, r0, .canon [] [1, 7, 8, 9]] (by kernel_rfl) P0 (ws_rTerrain _ _ H)
noncomputable def Ks_l1All : Ss_l1All → List Item
 | .h1 .. => nav 300 2 [] [.code (bdy f113)]
def Zs_l1All : Ss_l1All → St
 | .h1 lo0 vhi1 t2 t3 t4 => ⟨sts 21 [(1, I lo0), (2, I vhi1), (9, sl 1 I t2), (10, I t3), (11, I t4)], []⟩
abbrev Qs_l1All := Nx X 113 0 Ks_l1All Zs_l1All RB (fun _ => [])
theorem ns_l1All : ∀ s o, Bs_l1All s = some o → Qs_l1All (Ks_l1All s) (Zs_l1All s) o
 | .h1 lo0 vhi1 t2 t3 t4, o, H =>
  eIf H (fun h1 H =>
  eCk H fun h2 H =>
  eBind H fun x3 hx3 H =>
  eBind H fun r4 hr4 H =>
  gN [rg [hT 0], rg [hE 1 (I x3)]] (by kernel_rfl) (P2 ((decide (t4 < t3)) = true) (decide_eq_true h1)<|P1 h2<|P1 (int_lt_of_at h2 hx3)<|P1 (at_map I hx3)<|P0) <|
  eIf H (fun h5 H =>
  eN H fun r hn => gO [rg [{ i := 3, call := some { cl := true, auto := true, ins := [], res := (RB r4), G' := [] }, dec := some true }], r0, .canon [] [1, 2, 9, 10, 11]] (by kernel_rfl) (P1 (cs_l1In hr4)<|P2 (r4 = true) (h5)<|P0) hn)
  (fun h5 H =>
  eN H<|gE func113 [rg [{ i := 3, call := some { cl := true, auto := true, ins := [], res := (RB r4), G' := [] }, dec := some false }], r0] (by kernel_rfl) (P1 (cs_l1In hr4)<|P2 (r4 = false) (eqF h5)<|P0)))
  (fun h1 H =>
  eN H<|gE func113 [rg [hF 0], r0] (by kernel_rfl) (P2 ((decide (t4 < t3)) = false) (decide_eq_false h1)<|P0))
theorem ws_l1All : ∀ s r, loop Bs_l1All s = some r → Wc X 113 0 (Ks_l1All s) (Zs_l1All s) (RB r) ((fun _ => []) r) := Nx.all (ns_l1All)
theorem cs_l1All {a0 : (List Int)} {a1 : Int} {a2 : Int} {r : Bool} (H : Ds_l1All a0 a1 a2 = some r) : Ct X.P X.gl 113 [sl 1 I a0, I a1, I a2] [] (RB r) [] :=
  Ct.of func113 (c := bdy f113) (by kernel_rfl) (by kernel_rfl) <|
  gO [r0, r0, .canon [] [1, 2, 9, 10, 11]] (by kernel_rfl) P0 (ws_l1All _ _ H)
noncomputable def Ks_rKind : Ss_rKind → List Item
 | .h1 .. => nav 300 2 [] [.code (bdy f190)]
def Zs_rKind : Ss_rKind → St
 | .h1 name0 t1 t2 t3 => ⟨sts 20 [(1, .str name0), (7, sl 6 gi_Kind t1), (8, I t2), (9, I t3)], []⟩
abbrev Qs_rKind := Nx X 190 0 Ks_rKind Zs_rKind RI (fun _ => [])
theorem ns_rKind : ∀ s o, Bs_rKind s = some o → Qs_rKind (Ks_rKind s) (Zs_rKind s) o
 | .h1 name0 t1 t2 t3, o, H =>
  eIf H (fun h1 H =>
  eCk H fun h2 H =>
  eBind H fun x3 hx3 H =>
  gN [rg [hT 0], rg [hE 2 (gi_Kind x3)]] (by kernel_rfl) (P2 ((decide (t3 < t2)) = true) (decide_eq_true h1)<|P1 h2<|P1 (int_lt_of_at h2 hx3)<|P1 (at_map gi_Kind hx3)<|P0) <|
  eIf H (fun h4 H =>
  eN H<|gE func190 [rg [hT 3], r0] (by kernel_rfl) (P2 ((x3.Name == name0) = true) (beqT h4)<|P0))
  (fun h4 H =>
  eN H fun r hn => gO [rg [hF 3], r0, .canon [] [1, 7, 8, 9]] (by kernel_rfl) (P2 ((x3.Name == name0) = false) (beqF h4)<|P0) hn))
  (fun h1 H =>
  eN H<|gE func190 [rg [hF 0], r0] (by kernel_rfl) (P2 ((decide (t3 < t2)) = false) (decide_eq_false h1)<|P0))
theorem ws_rKind : ∀ s r, loop Bs_rKind s = some r → Wc X 190 0 (Ks_rKind s) (Zs_rKind s) (RI r) ((fun _ => []) r) := Nx.all (ns_rKind)
theorem cs_rKind {a0 : (List Gi_Kind)} {a1 : ByteArray} {r : Int} (H : Ds_rKind a0 a1 = some r) : Ct X.P X.gl 190 [sl 6 gi_Kind a0, .str a1] [] (RI r) [] :=
  Ct.of func190 (c := bdy f190) (by kernel_rfl) (by kernel_rfl) <|
  gO [r0, r0, .canon [] [1, 7, 8, 9]] (by kernel_rfl) P0 (ws_rKind _ _ H)
noncomputable def Ks_rGood : Ss_rGood → List Item
 | .h1 .. => nav 300 3 [false] [.code (bdy f173)]
 | .h2 .. => nav 300 5 [false, false] [.code (bdy f173)]
def Zs_rGood : Ss_rGood → St
 | .h1 t0 t1 t2 b3 => ⟨sts 137 [(1, .ptr 0 7 0 0), (20, sl 5 gi_Terrain t0), (21, I t1), (22, I t2)], [some ⟨false, true, 7, 1, [gi_Rules b3]⟩]⟩
 | .h2 t0 t1 t2 b3 => ⟨sts 137 [(1, .ptr 0 7 0 0), (69, sl 6 gi_Kind t0), (70, I t1), (71, I t2)], [some ⟨false, true, 7, 1, [gi_Rules b3]⟩]⟩
abbrev Qs_rGood := Nx X 173 0 Ks_rGood Zs_rGood RB (fun _ => [])
theorem ns_rGood : ∀ s o, Bs_rGood s = some o → Qs_rGood (Ks_rGood s) (Zs_rGood s) o
 | .h1 t0 t1 t2 b3, o, H =>
  eIf H (fun h1 H =>
  eCk H fun h2 H =>
  eBind H fun x3 hx3 H =>
  eBind H fun r4 hr4 H =>
  gN [rg [hT 0], rg [hE 2 (gi_Terrain x3)]] (by kernel_rfl) (P2 ((decide (t2 < t1)) = true) (decide_eq_true h1)<|P1 h2<|P1 (int_lt_of_at h2 hx3)<|P1 (at_map gi_Terrain hx3)<|P0) <|
  eIf H (fun h5 H =>
  eBind H fun r6 hr6 H =>
  eIf H (fun h7 H =>
  eIf H (fun h8 H =>
  eBind H fun r9 hr9 H =>
  eIf H (fun h10 H =>
  eBind H fun r11 hr11 H =>
  eIf H (fun h12 H =>
  eBind H fun r13 hr13 H =>
  eIf H (fun h14 H =>
  eN H fun r hn => gO [rg [{ i := 2, call := some { cl := true, auto := true, ins := [], res := (RB r4), G' := [] }, dec := some true }, hC 9 true [] (RI r6) [], hF 11, hF 20, { i := 25, call := some { cl := true, auto := true, ins := [], res := (RB r9), G' := [] }, dec := some true }, { i := 31, call := some { cl := true, auto := true, ins := [], res := (RB r11), G' := [] }, dec := some true }, { i := 37, call := some { cl := true, auto := true, ins := [], res := (RB r13), G' := [] }, dec := some true }], r0, .canon [0] [1, 20, 21, 22]] (by kernel_rfl) (P1 (cs_rName hr4)<|P2 (r4 = true) (h5)<|P1 (cs_rTerrain hr6)<|P2 (((r6 : Int) != t2) = false) (bneF h7)<|P2 (((((x3.Cost.length : Nat) : Int) : Int) != ((b3.Kinds.length : Nat) : Int)) = false) (bneF h8)<|P1 (cs_l1All hr9)<|P2 (r9 = true) (h10)<|P1 (cs_l1In hr11)<|P2 (r11 = true) (h12)<|P1 (cs_l1In hr13)<|P2 (r13 = true) (h14)<|P0) hn)
  (fun h14 H =>
  eN H<|gE func173 [rg [{ i := 2, call := some { cl := true, auto := true, ins := [], res := (RB r4), G' := [] }, dec := some true }, hC 9 true [] (RI r6) [], hF 11, hF 20, { i := 25, call := some { cl := true, auto := true, ins := [], res := (RB r9), G' := [] }, dec := some true }, { i := 31, call := some { cl := true, auto := true, ins := [], res := (RB r11), G' := [] }, dec := some true }, { i := 37, call := some { cl := true, auto := true, ins := [], res := (RB r13), G' := [] }, dec := some false }], r0] (by kernel_rfl) (P1 (cs_rName hr4)<|P2 (r4 = true) (h5)<|P1 (cs_rTerrain hr6)<|P2 (((r6 : Int) != t2) = false) (bneF h7)<|P2 (((((x3.Cost.length : Nat) : Int) : Int) != ((b3.Kinds.length : Nat) : Int)) = false) (bneF h8)<|P1 (cs_l1All hr9)<|P2 (r9 = true) (h10)<|P1 (cs_l1In hr11)<|P2 (r11 = true) (h12)<|P1 (cs_l1In hr13)<|P2 (r13 = false) (eqF h14)<|P0)))
  (fun h12 H =>
  eN H<|gE func173 [rg [{ i := 2, call := some { cl := true, auto := true, ins := [], res := (RB r4), G' := [] }, dec := some true }, hC 9 true [] (RI r6) [], hF 11, hF 20, { i := 25, call := some { cl := true, auto := true, ins := [], res := (RB r9), G' := [] }, dec := some true }, { i := 31, call := some { cl := true, auto := true, ins := [], res := (RB r11), G' := [] }, dec := some false }], r0] (by kernel_rfl) (P1 (cs_rName hr4)<|P2 (r4 = true) (h5)<|P1 (cs_rTerrain hr6)<|P2 (((r6 : Int) != t2) = false) (bneF h7)<|P2 (((((x3.Cost.length : Nat) : Int) : Int) != ((b3.Kinds.length : Nat) : Int)) = false) (bneF h8)<|P1 (cs_l1All hr9)<|P2 (r9 = true) (h10)<|P1 (cs_l1In hr11)<|P2 (r11 = false) (eqF h12)<|P0)))
  (fun h10 H =>
  eN H<|gE func173 [rg [{ i := 2, call := some { cl := true, auto := true, ins := [], res := (RB r4), G' := [] }, dec := some true }, hC 9 true [] (RI r6) [], hF 11, hF 20, { i := 25, call := some { cl := true, auto := true, ins := [], res := (RB r9), G' := [] }, dec := some false }], r0] (by kernel_rfl) (P1 (cs_rName hr4)<|P2 (r4 = true) (h5)<|P1 (cs_rTerrain hr6)<|P2 (((r6 : Int) != t2) = false) (bneF h7)<|P2 (((((x3.Cost.length : Nat) : Int) : Int) != ((b3.Kinds.length : Nat) : Int)) = false) (bneF h8)<|P1 (cs_l1All hr9)<|P2 (r9 = false) (eqF h10)<|P0)))
  (fun h8 H =>
  eN H<|gE func173 [rg [{ i := 2, call := some { cl := true, auto := true, ins := [], res := (RB r4), G' := [] }, dec := some true }, hC 9 true [] (RI r6) [], hF 11, hT 20], r0] (by kernel_rfl) (P1 (cs_rName hr4)<|P2 (r4 = true) (h5)<|P1 (cs_rTerrain hr6)<|P2 (((r6 : Int) != t2) = false) (bneF h7)<|P2 (((((x3.Cost.length : Nat) : Int) : Int) != ((b3.Kinds.length : Nat) : Int)) = true) (bneT h8)<|P0)))
  (fun h7 H =>
  eN H<|gE func173 [rg [{ i := 2, call := some { cl := true, auto := true, ins := [], res := (RB r4), G' := [] }, dec := some true }, hC 9 true [] (RI r6) [], hT 11], r0] (by kernel_rfl) (P1 (cs_rName hr4)<|P2 (r4 = true) (h5)<|P1 (cs_rTerrain hr6)<|P2 (((r6 : Int) != t2) = true) (bneT h7)<|P0)))
  (fun h5 H =>
  eN H<|gE func173 [rg [{ i := 2, call := some { cl := true, auto := true, ins := [], res := (RB r4), G' := [] }, dec := some false }], r0] (by kernel_rfl) (P1 (cs_rName hr4)<|P2 (r4 = false) (eqF h5)<|P0)))
  (fun h1 H =>
  eN H fun r hn => gO [rg [hF 0], r0, .canon [0] [1, 69, 70, 71]] (by kernel_rfl) (P2 ((decide (t2 < t1)) = false) (decide_eq_false h1)<|P0) hn)
 | .h2 t0 t1 t2 b3, o, H =>
  eIf H (fun h1 H =>
  eCk H fun h2 H =>
  eBind H fun x3 hx3 H =>
  eBind H fun r4 hr4 H =>
  gN [rg [hT 0], rg [hE 2 (gi_Kind x3)]] (by kernel_rfl) (P2 ((decide (t2 < t1)) = true) (decide_eq_true h1)<|P1 h2<|P1 (int_lt_of_at h2 hx3)<|P1 (at_map gi_Kind hx3)<|P0) <|
  eIf H (fun h5 H =>
  eBind H fun r6 hr6 H =>
  eIf H (fun h7 H =>
  eBind H fun r8 hr8 H =>
  eIf H (fun h9 H =>
  eBind H fun r10 hr10 H =>
  eIf H (fun h11 H =>
  eBind H fun r12 hr12 H =>
  eIf H (fun h13 H =>
  eBind H fun r14 hr14 H =>
  eIf H (fun h15 H =>
  eN H fun r hn => gO [rg [{ i := 2, call := some { cl := true, auto := true, ins := [], res := (RB r4), G' := [] }, dec := some true }, hC 9 true [] (RI r6) [], hF 11, { i := 16, call := some { cl := true, auto := true, ins := [], res := (RB r8), G' := [] }, dec := some true }, { i := 22, call := some { cl := true, auto := true, ins := [], res := (RB r10), G' := [] }, dec := some true }, { i := 28, call := some { cl := true, auto := true, ins := [], res := (RB r12), G' := [] }, dec := some true }, { i := 34, call := some { cl := true, auto := true, ins := [], res := (RB r14), G' := [] }, dec := some true }], r0, .canon [0] [1, 69, 70, 71]] (by kernel_rfl) (P1 (cs_rName hr4)<|P2 (r4 = true) (h5)<|P1 (cs_rKind hr6)<|P2 (((r6 : Int) != t2) = false) (bneF h7)<|P1 (cs_l1In hr8)<|P2 (r8 = true) (h9)<|P1 (cs_l1In hr10)<|P2 (r10 = true) (h11)<|P1 (cs_l1In hr12)<|P2 (r12 = true) (h13)<|P1 (cs_l1In hr14)<|P2 (r14 = true) (h15)<|P0) hn)
  (fun h15 H =>
  eN H<|gE func173 [rg [{ i := 2, call := some { cl := true, auto := true, ins := [], res := (RB r4), G' := [] }, dec := some true }, hC 9 true [] (RI r6) [], hF 11, { i := 16, call := some { cl := true, auto := true, ins := [], res := (RB r8), G' := [] }, dec := some true }, { i := 22, call := some { cl := true, auto := true, ins := [], res := (RB r10), G' := [] }, dec := some true }, { i := 28, call := some { cl := true, auto := true, ins := [], res := (RB r12), G' := [] }, dec := some true }, { i := 34, call := some { cl := true, auto := true, ins := [], res := (RB r14), G' := [] }, dec := some false }], r0] (by kernel_rfl) (P1 (cs_rName hr4)<|P2 (r4 = true) (h5)<|P1 (cs_rKind hr6)<|P2 (((r6 : Int) != t2) = false) (bneF h7)<|P1 (cs_l1In hr8)<|P2 (r8 = true) (h9)<|P1 (cs_l1In hr10)<|P2 (r10 = true) (h11)<|P1 (cs_l1In hr12)<|P2 (r12 = true) (h13)<|P1 (cs_l1In hr14)<|P2 (r14 = false) (eqF h15)<|P0)))
  (fun h13 H =>
  eN H<|gE func173 [rg [{ i := 2, call := some { cl := true, auto := true, ins := [], res := (RB r4), G' := [] }, dec := some true }, hC 9 true [] (RI r6) [], hF 11, { i := 16, call := some { cl := true, auto := true, ins := [], res := (RB r8), G' := [] }, dec := some true }, { i := 22, call := some { cl := true, auto := true, ins := [], res := (RB r10), G' := [] }, dec := some true }, { i := 28, call := some { cl := true, auto := true, ins := [], res := (RB r12), G' := [] }, dec := some false }], r0] (by kernel_rfl) (P1 (cs_rName hr4)<|P2 (r4 = true) (h5)<|P1 (cs_rKind hr6)<|P2 (((r6 : Int) != t2) = false) (bneF h7)<|P1 (cs_l1In hr8)<|P2 (r8 = true) (h9)<|P1 (cs_l1In hr10)<|P2 (r10 = true) (h11)<|P1 (cs_l1In hr12)<|P2 (r12 = false) (eqF h13)<|P0)))
  (fun h11 H =>
  eN H<|gE func173 [rg [{ i := 2, call := some { cl := true, auto := true, ins := [], res := (RB r4), G' := [] }, dec := some true }, hC 9 true [] (RI r6) [], hF 11, { i := 16, call := some { cl := true, auto := true, ins := [], res := (RB r8), G' := [] }, dec := some true }, { i := 22, call := some { cl := true, auto := true, ins := [], res := (RB r10), G' := [] }, dec := some false }], r0] (by kernel_rfl) (P1 (cs_rName hr4)<|P2 (r4 = true) (h5)<|P1 (cs_rKind hr6)<|P2 (((r6 : Int) != t2) = false) (bneF h7)<|P1 (cs_l1In hr8)<|P2 (r8 = true) (h9)<|P1 (cs_l1In hr10)<|P2 (r10 = false) (eqF h11)<|P0)))
  (fun h9 H =>
  eN H<|gE func173 [rg [{ i := 2, call := some { cl := true, auto := true, ins := [], res := (RB r4), G' := [] }, dec := some true }, hC 9 true [] (RI r6) [], hF 11, { i := 16, call := some { cl := true, auto := true, ins := [], res := (RB r8), G' := [] }, dec := some false }], r0] (by kernel_rfl) (P1 (cs_rName hr4)<|P2 (r4 = true) (h5)<|P1 (cs_rKind hr6)<|P2 (((r6 : Int) != t2) = false) (bneF h7)<|P1 (cs_l1In hr8)<|P2 (r8 = false) (eqF h9)<|P0)))
  (fun h7 H =>
  eN H<|gE func173 [rg [{ i := 2, call := some { cl := true, auto := true, ins := [], res := (RB r4), G' := [] }, dec := some true }, hC 9 true [] (RI r6) [], hT 11], r0] (by kernel_rfl) (P1 (cs_rName hr4)<|P2 (r4 = true) (h5)<|P1 (cs_rKind hr6)<|P2 (((r6 : Int) != t2) = true) (bneT h7)<|P0)))
  (fun h5 H =>
  eN H<|gE func173 [rg [{ i := 2, call := some { cl := true, auto := true, ins := [], res := (RB r4), G' := [] }, dec := some false }], r0] (by kernel_rfl) (P1 (cs_rName hr4)<|P2 (r4 = false) (eqF h5)<|P0)))
  (fun h1 H =>
  eBind H fun r2 hr2 H =>
  gN [rg [hF 0]] (by kernel_rfl) (P2 ((decide (t2 < t1)) = false) (decide_eq_false h1)<|P0) <|
  eIf H (fun h3 H =>
  eBind H fun r4 hr4 H =>
  eIf H (fun h5 H =>
  eBind H fun r6 hr6 H =>
  eIf H (fun h7 H =>
  eBind H fun r8 hr8 H =>
  eIf H (fun h9 H =>
  eBind H fun r10 hr10 H =>
  eN H<|gE func173 [rg [{ i := 2, call := some { cl := true, auto := true, ins := [], res := (RB r2), G' := [] }, dec := some true }, { i := 6, call := some { cl := true, auto := true, ins := [], res := (RB r4), G' := [] }, dec := some true }, { i := 11, call := some { cl := true, auto := true, ins := [], res := (RB r6), G' := [] }, dec := some true }, { i := 16, call := some { cl := true, auto := true, ins := [], res := (RB r8), G' := [] }, dec := some true }, hC 21 true [] (RB r10) []]] (by kernel_rfl) (P1 (cs_l1In hr2)<|P2 (r2 = true) (h3)<|P1 (cs_l1In hr4)<|P2 (r4 = true) (h5)<|P1 (cs_l1In hr6)<|P2 (r6 = true) (h7)<|P1 (cs_l1In hr8)<|P2 (r8 = true) (h9)<|P1 (cs_l1In hr10)<|P0))
  (fun h9 H =>
  eN H<|gE func173 [rg [{ i := 2, call := some { cl := true, auto := true, ins := [], res := (RB r2), G' := [] }, dec := some true }, { i := 6, call := some { cl := true, auto := true, ins := [], res := (RB r4), G' := [] }, dec := some true }, { i := 11, call := some { cl := true, auto := true, ins := [], res := (RB r6), G' := [] }, dec := some true }, { i := 16, call := some { cl := true, auto := true, ins := [], res := (RB r8), G' := [] }, dec := some false }]] (by kernel_rfl) (P1 (cs_l1In hr2)<|P2 (r2 = true) (h3)<|P1 (cs_l1In hr4)<|P2 (r4 = true) (h5)<|P1 (cs_l1In hr6)<|P2 (r6 = true) (h7)<|P1 (cs_l1In hr8)<|P2 (r8 = false) (eqF h9)<|P0)))
  (fun h7 H =>
  eN H<|gE func173 [rg [{ i := 2, call := some { cl := true, auto := true, ins := [], res := (RB r2), G' := [] }, dec := some true }, { i := 6, call := some { cl := true, auto := true, ins := [], res := (RB r4), G' := [] }, dec := some true }, { i := 11, call := some { cl := true, auto := true, ins := [], res := (RB r6), G' := [] }, dec := some false }]] (by kernel_rfl) (P1 (cs_l1In hr2)<|P2 (r2 = true) (h3)<|P1 (cs_l1In hr4)<|P2 (r4 = true) (h5)<|P1 (cs_l1In hr6)<|P2 (r6 = false) (eqF h7)<|P0)))
  (fun h5 H =>
  eN H<|gE func173 [rg [{ i := 2, call := some { cl := true, auto := true, ins := [], res := (RB r2), G' := [] }, dec := some true }, { i := 6, call := some { cl := true, auto := true, ins := [], res := (RB r4), G' := [] }, dec := some false }]] (by kernel_rfl) (P1 (cs_l1In hr2)<|P2 (r2 = true) (h3)<|P1 (cs_l1In hr4)<|P2 (r4 = false) (eqF h5)<|P0)))
  (fun h3 H =>
  eN H<|gE func173 [rg [{ i := 2, call := some { cl := true, auto := true, ins := [], res := (RB r2), G' := [] }, dec := some false }]] (by kernel_rfl) (P1 (cs_l1In hr2)<|P2 (r2 = false) (eqF h3)<|P0)))
theorem ws_rGood : ∀ s r, loop Bs_rGood s = some r → Wc X 173 0 (Ks_rGood s) (Zs_rGood s) (RB r) ((fun _ => []) r) := Nx.all (ns_rGood)
theorem cs_rGood {a0 : Gi_Rules} {r : Bool} (H : Ds_rGood a0 = some r) : Ct X.P X.gl 173 [gi_Rules a0] [] (RB r) [] :=
  Ct.of func173 (c := bdy f173) (by kernel_rfl) (by kernel_rfl) <|
  eBind H fun r1 hr1 H =>
  gS [r0] (by kernel_rfl) P0 <|
  eIf H (fun h2 H =>
  eBind H fun r3 hr3 H =>
  eIf H (fun h4 H =>
  gO [rg [{ i := 3, call := some { cl := true, auto := true, ins := [], res := (RB r1), G' := [] }, dec := some true }, { i := 9, call := some { cl := true, auto := true, ins := [], res := (RB r3), G' := [] }, dec := some true }], r0, .canon [0] [1, 20, 21, 22]] (by kernel_rfl) (P1 (cs_l1In hr1)<|P2 (r1 = true) (h2)<|P1 (cs_l1In hr3)<|P2 (r3 = true) (h4)<|P0) (ws_rGood _ _ H))
  (fun h4 H =>
  eW RB (fun _ => []) H<|gE func173 [rg [{ i := 3, call := some { cl := true, auto := true, ins := [], res := (RB r1), G' := [] }, dec := some true }, { i := 9, call := some { cl := true, auto := true, ins := [], res := (RB r3), G' := [] }, dec := some false }], r0] (by kernel_rfl) (P1 (cs_l1In hr1)<|P2 (r1 = true) (h2)<|P1 (cs_l1In hr3)<|P2 (r3 = false) (eqF h4)<|P0)))
  (fun h2 H =>
  eW RB (fun _ => []) H<|gE func173 [rg [{ i := 3, call := some { cl := true, auto := true, ins := [], res := (RB r1), G' := [] }, dec := some false }], r0] (by kernel_rfl) (P1 (cs_l1In hr1)<|P2 (r1 = false) (eqF h2)<|P0))
theorem cs_mSize {a0 : Gi_Map} {r : Int} (H : Ds_mSize a0 = some r) : Ct X.P X.gl 178 [gi_Map a0] [] (RI r) [] :=
  Ct.of func178 (c := bdy f178) (by kernel_rfl) (by kernel_rfl) <|
  eW RI (fun _ => []) H<|gE func178 [r0, r0] (by kernel_rfl) P0
def Rs_mHex (r : Gi_Hex) : List D := [.agg [I r.Q, I r.R]]
theorem cs_mHex {a0 : Gi_Map} {a1 : Int} {r : Gi_Hex} (H : Ds_mHex a0 a1 = some r) : Ct X.P X.gl 207 [gi_Map a0, I a1] [] (Rs_mHex r) [] :=
  Ct.of func207 (c := bdy f207) (by kernel_rfl) (by kernel_rfl) <|
  eCk H fun h1 H =>
  eCk H fun h2 H =>
  eW Rs_mHex (fun _ => []) H<|gE func207 [r0, r0] (by kernel_rfl) (P2 (¬ (a0.Width : Int) = 0) h1<|P2 (¬ (a0.Width : Int) = 0) h2<|P0)
def Rs_hStep (r : Gi_Hex) : List D := [.agg [I r.Q, I r.R]]
theorem cs_hStep {a0 : Gi_Hex} {a1 : Int} {r : Gi_Hex} (H : Ds_hStep a0 a1 = some r) : Ct X.P X.gl 206 [gi_Hex a0, I a1] [] (Rs_hStep r) [] :=
  Ct.of func206 (c := bdy f206) (by kernel_rfl) (by kernel_rfl) <|
  eCk H fun h1 H =>
  eBind H fun x2 hx2 H =>
  eCk H fun h3 H =>
  eBind H fun x4 hx4 H =>
  eW Rs_hStep (fun _ => []) H<|gE func206 [r0, rg [hE 5 (I x2), hE 12 (I x4)]] (by kernel_rfl) (P1 h1<|P1 (int_lt_of_at h1 hx2)<|P1 (at_map I hx2)<|P1 h3<|P1 (int_lt_of_at h3 hx4)<|P1 (at_map I hx4)<|P0)
theorem cs_mIndex {a0 : Gi_Map} {a1 : Gi_Hex} {r : Int} (H : Ds_mIndex a0 a1 = some r) : Ct X.P X.gl 205 [gi_Map a0, gi_Hex a1] [] (RI r) [] :=
  Ct.of func205 (c := bdy f205) (by kernel_rfl) (by kernel_rfl) <|
  eBind H fun r1 hr1 H =>
  gS [r0] (by kernel_rfl) P0 <|
  eIf H (fun h2 H =>
  eBind H fun r3 hr3 H =>
  eIf H (fun h4 H =>
  eW RI (fun _ => []) H<|gE func205 [rg [{ i := 5, call := some { cl := true, auto := true, ins := [], res := (RB r1), G' := [] }, dec := some true }, { i := 13, call := some { cl := true, auto := true, ins := [], res := (RB r3), G' := [] }, dec := some true }], r0] (by kernel_rfl) (P1 (cs_l1In hr1)<|P2 (r1 = true) (h2)<|P1 (cs_l1In hr3)<|P2 (r3 = true) (h4)<|P0))
  (fun h4 H =>
  eW RI (fun _ => []) H<|gE func205 [rg [{ i := 5, call := some { cl := true, auto := true, ins := [], res := (RB r1), G' := [] }, dec := some true }, { i := 13, call := some { cl := true, auto := true, ins := [], res := (RB r3), G' := [] }, dec := some false }], r0] (by kernel_rfl) (P1 (cs_l1In hr1)<|P2 (r1 = true) (h2)<|P1 (cs_l1In hr3)<|P2 (r3 = false) (eqF h4)<|P0)))
  (fun h2 H =>
  eW RI (fun _ => []) H<|gE func205 [rg [{ i := 5, call := some { cl := true, auto := true, ins := [], res := (RB r1), G' := [] }, dec := some false }], r0] (by kernel_rfl) (P1 (cs_l1In hr1)<|P2 (r1 = false) (eqF h2)<|P0))
theorem cs_mNext {a0 : Gi_Map} {a1 : Int} {a2 : Int} {r : Int} (H : Ds_mNext a0 a1 a2 = some r) : Ct X.P X.gl 200 [gi_Map a0, I a1, I a2] [] (RI r) [] :=
  Ct.of func200 (c := bdy f200) (by kernel_rfl) (by kernel_rfl) <|
  eBind H fun r1 hr1 H =>
  eBind H fun r2 hr2 H =>
  eBind H fun r3 hr3 H =>
  eW RI (fun _ => []) H<|gE func200 [r0, rg [hC 3 true [] (Rs_mHex r1) [], hC 5 true [] (Rs_hStep r2) [], hC 6 true [] (RI r3) []]] (by kernel_rfl) (P1 (cs_mHex hr1)<|P1 (cs_hStep hr2)<|P1 (cs_mIndex hr3)<|P0)
noncomputable def Ks_l1Rising : Ss_l1Rising → List Item
 | .h1 .. => nav 300 2 [] [.code (bdy f179)]
def Zs_l1Rising : Ss_l1Rising → St
 | .h1 l0 lo1 vhi2 t3 t4 t5 => ⟨sts 35 [(0, sl 1 I l0), (1, I lo1), (2, I vhi2), (9, sl 1 I t3), (10, I t4), (11, I t5)], []⟩
abbrev Qs_l1Rising := Nx X 179 0 Ks_l1Rising Zs_l1Rising RB (fun _ => [])
theorem ns_l1Rising : ∀ s o, Bs_l1Rising s = some o → Qs_l1Rising (Ks_l1Rising s) (Zs_l1Rising s) o
 | .h1 l0 lo1 vhi2 t3 t4 t5, o, H =>
  eIf H (fun h1 H =>
  eCk H fun h2 H =>
  eBind H fun x3 hx3 H =>
  eBind H fun r4 hr4 H =>
  gN [rg [hT 0], rg [hE 2 (I x3)]] (by kernel_rfl) (P2 ((decide (t5 < t4)) = true) (decide_eq_true h1)<|P1 h2<|P1 (int_lt_of_at h2 hx3)<|P1 (at_map I hx3)<|P0) <|
  eIf H (fun h5 H =>
  eIf H (fun h6 H =>
  eCk H fun h7 H =>
  eBind H fun x8 hx8 H =>
  eIf H (fun h9 H =>
  eN H<|gE func179 [rg [{ i := 3, call := some { cl := true, auto := true, ins := [], res := (RB r4), G' := [] }, dec := some true }, hT 7, hE 13 (I x8), hT 15], r0] (by kernel_rfl) (P1 (cs_l1In hr4)<|P2 (r4 = true) (h5)<|P2 ((decide (t5 > 0)) = true) (decide_eq_true h6)<|P1 h7<|P1 (int_lt_of_at h7 hx8)<|P1 (at_map I hx8)<|P2 ((decide (x8 ≥ x3)) = true) (decide_eq_true h9)<|P0))
  (fun h9 H =>
  eN H fun r hn => gO [rg [{ i := 3, call := some { cl := true, auto := true, ins := [], res := (RB r4), G' := [] }, dec := some true }, hT 7, hE 13 (I x8), hF 15], r0, .canon [] [0, 1, 2, 9, 10, 11]] (by kernel_rfl) (P1 (cs_l1In hr4)<|P2 (r4 = true) (h5)<|P2 ((decide (t5 > 0)) = true) (decide_eq_true h6)<|P1 h7<|P1 (int_lt_of_at h7 hx8)<|P1 (at_map I hx8)<|P2 ((decide (x8 ≥ x3)) = false) (decide_eq_false h9)<|P0) hn))
  (fun h6 H =>
  eN H fun r hn => gO [rg [{ i := 3, call := some { cl := true, auto := true, ins := [], res := (RB r4), G' := [] }, dec := some true }, hF 7], r0, .canon [] [0, 1, 2, 9, 10, 11]] (by kernel_rfl) (P1 (cs_l1In hr4)<|P2 (r4 = true) (h5)<|P2 ((decide (t5 > 0)) = false) (decide_eq_false h6)<|P0) hn))
  (fun h5 H =>
  eN H<|gE func179 [rg [{ i := 3, call := some { cl := true, auto := true, ins := [], res := (RB r4), G' := [] }, dec := some false }], r0] (by kernel_rfl) (P1 (cs_l1In hr4)<|P2 (r4 = false) (eqF h5)<|P0)))
  (fun h1 H =>
  eN H<|gE func179 [rg [hF 0], r0] (by kernel_rfl) (P2 ((decide (t5 < t4)) = false) (decide_eq_false h1)<|P0))
theorem ws_l1Rising : ∀ s r, loop Bs_l1Rising s = some r → Wc X 179 0 (Ks_l1Rising s) (Zs_l1Rising s) (RB r) ((fun _ => []) r) := Nx.all (ns_l1Rising)
theorem cs_l1Rising {a0 : (List Int)} {a1 : Int} {a2 : Int} {r : Bool} (H : Ds_l1Rising a0 a1 a2 = some r) : Ct X.P X.gl 179 [sl 1 I a0, I a1, I a2] [] (RB r) [] :=
  Ct.of func179 (c := bdy f179) (by kernel_rfl) (by kernel_rfl) <|
  gO [r0, r0, .canon [] [0, 1, 2, 9, 10, 11]] (by kernel_rfl) P0 (ws_l1Rising _ _ H)
noncomputable def Ks_mEdges : Ss_mEdges → List Item
 | .h1 .. => nav 300 2 [] [.code (bdy f191)]
def Zs_mEdges : Ss_mEdges → St
 | .h1 l0 t1 t2 t3 b4 => ⟨sts 36 [(1, sl 1 I l0), (2, .ptr 0 5 0 0), (7, sl 1 I t1), (8, I t2), (9, I t3)], [some ⟨false, true, 5, 1, [gi_Map b4]⟩]⟩
abbrev Qs_mEdges := Nx X 191 0 Ks_mEdges Zs_mEdges RB (fun _ => [])
theorem ns_mEdges : ∀ s o, Bs_mEdges s = some o → Qs_mEdges (Ks_mEdges s) (Zs_mEdges s) o
 | .h1 l0 t1 t2 t3 b4, o, H =>
  eIf H (fun h1 H =>
  eCk H fun h2 H =>
  eBind H fun x3 hx3 H =>
  eBind H fun r4 hr4 H =>
  eBind H fun r5 hr5 H =>
  gN [rg [hT 0], rg [hE 1 (I x3)]] (by kernel_rfl) (P2 ((decide (t3 < t2)) = true) (decide_eq_true h1)<|P1 h2<|P1 (int_lt_of_at h2 hx3)<|P1 (at_map I hx3)<|P0) <|
  eIf H (fun h6 H =>
  eBind H fun r7 hr7 H =>
  eIf H (fun h8 H =>
  eN H<|gE func191 [rg [hC 2 true [] (RI r4) [], { i := 5, call := some { cl := true, auto := true, ins := [], res := (RB r5), G' := [] }, dec := some true }, hC 13 true [] (RI r7) [], hT 14], r0] (by kernel_rfl) (P1 (cs_mSize hr4)<|P1 (cs_l1In hr5)<|P2 (r5 = true) (h6)<|P2 (¬ (3 : Int) = 0) (by decide)<|P2 (¬ (3 : Int) = 0) (by decide)<|P1 (cs_mNext hr7)<|P2 ((decide (r7 < 0)) = true) (decide_eq_true h8)<|P0))
  (fun h8 H =>
  eN H fun r hn => gO [rg [hC 2 true [] (RI r4) [], { i := 5, call := some { cl := true, auto := true, ins := [], res := (RB r5), G' := [] }, dec := some true }, hC 13 true [] (RI r7) [], hF 14], r0, .canon [0] [1, 2, 7, 8, 9]] (by kernel_rfl) (P1 (cs_mSize hr4)<|P1 (cs_l1In hr5)<|P2 (r5 = true) (h6)<|P2 (¬ (3 : Int) = 0) (by decide)<|P2 (¬ (3 : Int) = 0) (by decide)<|P1 (cs_mNext hr7)<|P2 ((decide (r7 < 0)) = false) (decide_eq_false h8)<|P0) hn))
  (fun h6 H =>
  eN H<|gE func191 [rg [hC 2 true [] (RI r4) [], { i := 5, call := some { cl := true, auto := true, ins := [], res := (RB r5), G' := [] }, dec := some false }], r0] (by kernel_rfl) (P1 (cs_mSize hr4)<|P1 (cs_l1In hr5)<|P2 (r5 = false) (eqF h6)<|P0)))
  (fun h1 H =>
  eBind H fun r2 hr2 H =>
  eBind H fun r3 hr3 H =>
  eN H<|gE func191 [rg [hF 0], rg [hC 2 true [] (RI r2) [], hC 5 true [] (RB r3) []]] (by kernel_rfl) (P2 ((decide (t3 < t2)) = false) (decide_eq_false h1)<|P1 (cs_mSize hr2)<|P1 (cs_l1Rising hr3)<|P0))
theorem ws_mEdges : ∀ s r, loop Bs_mEdges s = some r → Wc X 191 0 (Ks_mEdges s) (Zs_mEdges s) (RB r) ((fun _ => []) r) := Nx.all (ns_mEdges)
theorem cs_mEdges {a0 : Gi_Map} {a1 : (List Int)} {r : Bool} (H : Ds_mEdges a0 a1 = some r) : Ct X.P X.gl 191 [gi_Map a0, sl 1 I a1] [] (RB r) [] :=
  Ct.of func191 (c := bdy f191) (by kernel_rfl) (by kernel_rfl) <|
  gO [r0, r0, .canon [0] [1, 2, 7, 8, 9]] (by kernel_rfl) P0 (ws_mEdges _ _ H)
theorem cs_mGood {a0 : Gi_Map} {r : Bool} (H : Ds_mGood a0 = some r) : Ct X.P X.gl 174 [gi_Map a0] [] (RB r) [] :=
  Ct.of func174 (c := bdy f174) (by kernel_rfl) (by kernel_rfl) <|
  eBind H fun r1 hr1 H =>
  gS [r0] (by kernel_rfl) P0 <|
  eIf H (fun h2 H =>
  eBind H fun r3 hr3 H =>
  eIf H (fun h4 H =>
  eBind H fun r5 hr5 H =>
  eIf H (fun h6 H =>
  eBind H fun r7 hr7 H =>
  eIf H (fun h8 H =>
  eBind H fun r9 hr9 H =>
  eIf H (fun h10 H =>
  eBind H fun r11 hr11 H =>
  eW RB (fun _ => []) H<|gE func174 [rg [{ i := 2, call := some { cl := true, auto := true, ins := [], res := (RB r1), G' := [] }, dec := some true }, { i := 6, call := some { cl := true, auto := true, ins := [], res := (RB r3), G' := [] }, dec := some true }, hC 13 true [] (RI r5) [], hT 14, { i := 19, call := some { cl := true, auto := true, ins := [], res := (RB r7), G' := [] }, dec := some true }, { i := 25, call := some { cl := true, auto := true, ins := [], res := (RB r9), G' := [] }, dec := some true }, hC 31 true [] (RB r11) []]] (by kernel_rfl) (P1 (cs_l1In hr1)<|P2 (r1 = true) (h2)<|P1 (cs_l1In hr3)<|P2 (r3 = true) (h4)<|P1 (cs_mSize hr5)<|P2 (((((a0.Terrain.length : Nat) : Int) : Int) == r5) = true) (beqT h6)<|P1 (cs_l1All hr7)<|P2 (r7 = true) (h8)<|P1 (cs_mEdges hr9)<|P2 (r9 = true) (h10)<|P1 (cs_mEdges hr11)<|P0))
  (fun h10 H =>
  eW RB (fun _ => []) H<|gE func174 [rg [{ i := 2, call := some { cl := true, auto := true, ins := [], res := (RB r1), G' := [] }, dec := some true }, { i := 6, call := some { cl := true, auto := true, ins := [], res := (RB r3), G' := [] }, dec := some true }, hC 13 true [] (RI r5) [], hT 14, { i := 19, call := some { cl := true, auto := true, ins := [], res := (RB r7), G' := [] }, dec := some true }, { i := 25, call := some { cl := true, auto := true, ins := [], res := (RB r9), G' := [] }, dec := some false }]] (by kernel_rfl) (P1 (cs_l1In hr1)<|P2 (r1 = true) (h2)<|P1 (cs_l1In hr3)<|P2 (r3 = true) (h4)<|P1 (cs_mSize hr5)<|P2 (((((a0.Terrain.length : Nat) : Int) : Int) == r5) = true) (beqT h6)<|P1 (cs_l1All hr7)<|P2 (r7 = true) (h8)<|P1 (cs_mEdges hr9)<|P2 (r9 = false) (eqF h10)<|P0)))
  (fun h8 H =>
  eW RB (fun _ => []) H<|gE func174 [rg [{ i := 2, call := some { cl := true, auto := true, ins := [], res := (RB r1), G' := [] }, dec := some true }, { i := 6, call := some { cl := true, auto := true, ins := [], res := (RB r3), G' := [] }, dec := some true }, hC 13 true [] (RI r5) [], hT 14, { i := 19, call := some { cl := true, auto := true, ins := [], res := (RB r7), G' := [] }, dec := some false }]] (by kernel_rfl) (P1 (cs_l1In hr1)<|P2 (r1 = true) (h2)<|P1 (cs_l1In hr3)<|P2 (r3 = true) (h4)<|P1 (cs_mSize hr5)<|P2 (((((a0.Terrain.length : Nat) : Int) : Int) == r5) = true) (beqT h6)<|P1 (cs_l1All hr7)<|P2 (r7 = false) (eqF h8)<|P0)))
  (fun h6 H =>
  eW RB (fun _ => []) H<|gE func174 [rg [{ i := 2, call := some { cl := true, auto := true, ins := [], res := (RB r1), G' := [] }, dec := some true }, { i := 6, call := some { cl := true, auto := true, ins := [], res := (RB r3), G' := [] }, dec := some true }, hC 13 true [] (RI r5) [], hF 14]] (by kernel_rfl) (P1 (cs_l1In hr1)<|P2 (r1 = true) (h2)<|P1 (cs_l1In hr3)<|P2 (r3 = true) (h4)<|P1 (cs_mSize hr5)<|P2 (((((a0.Terrain.length : Nat) : Int) : Int) == r5) = false) (beqF h6)<|P0)))
  (fun h4 H =>
  eW RB (fun _ => []) H<|gE func174 [rg [{ i := 2, call := some { cl := true, auto := true, ins := [], res := (RB r1), G' := [] }, dec := some true }, { i := 6, call := some { cl := true, auto := true, ins := [], res := (RB r3), G' := [] }, dec := some false }]] (by kernel_rfl) (P1 (cs_l1In hr1)<|P2 (r1 = true) (h2)<|P1 (cs_l1In hr3)<|P2 (r3 = false) (eqF h4)<|P0)))
  (fun h2 H =>
  eW RB (fun _ => []) H<|gE func174 [rg [{ i := 2, call := some { cl := true, auto := true, ins := [], res := (RB r1), G' := [] }, dec := some false }]] (by kernel_rfl) (P1 (cs_l1In hr1)<|P2 (r1 = false) (eqF h2)<|P0))
theorem cs_bGood {a0 : Gi_Board} {r : Bool} (H : Ds_bGood a0 = some r) : Ct X.P X.gl 147 [gi_Board a0] [] (RB r) [] :=
  Ct.of func147 (c := bdy f147) (by kernel_rfl) (by kernel_rfl) <|
  eBind H fun r1 hr1 H =>
  gS [r0] (by kernel_rfl) P0 <|
  eIf H (fun h2 H =>
  eBind H fun r3 hr3 H =>
  eIf H (fun h4 H =>
  eBind H fun r5 hr5 H =>
  eW RB (fun _ => []) H<|gE func147 [rg [{ i := 2, call := some { cl := true, auto := true, ins := [], res := (RB r1), G' := [] }, dec := some true }, { i := 6, call := some { cl := true, auto := true, ins := [], res := (RB r3), G' := [] }, dec := some true }, hC 17 true [] (RB r5) []]] (by kernel_rfl) (P1 (cs_rGood hr1)<|P2 (r1 = true) (h2)<|P1 (cs_mGood hr3)<|P2 (r3 = true) (h4)<|P1 (cs_l1All hr5)<|P0))
  (fun h4 H =>
  eW RB (fun _ => []) H<|gE func147 [rg [{ i := 2, call := some { cl := true, auto := true, ins := [], res := (RB r1), G' := [] }, dec := some true }, { i := 6, call := some { cl := true, auto := true, ins := [], res := (RB r3), G' := [] }, dec := some false }]] (by kernel_rfl) (P1 (cs_rGood hr1)<|P2 (r1 = true) (h2)<|P1 (cs_mGood hr3)<|P2 (r3 = false) (eqF h4)<|P0)))
  (fun h2 H =>
  eW RB (fun _ => []) H<|gE func147 [rg [{ i := 2, call := some { cl := true, auto := true, ins := [], res := (RB r1), G' := [] }, dec := some false }]] (by kernel_rfl) (P1 (cs_rGood hr1)<|P2 (r1 = false) (eqF h2)<|P0))
theorem cs_kRows {a0 : Int} {r : Int} (H : Ds_kRows a0 = some r) : Ct X.P X.gl 175 [I a0] [] (RI r) [] :=
  Ct.of func175 (c := bdy f175) (by kernel_rfl) (by kernel_rfl) <|
  eW RI (fun _ => []) H<|gE func175 [r0, r0] (by kernel_rfl) P0
noncomputable def Ks_kGood : Ss_kGood → List Item
 | .h1 .. => nav 300 3 [false] [.code (bdy f148)]
 | .h2 .. => nav 300 5 [false, false] [.code (bdy f148)]
def Zs_kGood : Ss_kGood → St
 | .h1 t0 t1 t2 b3 => ⟨sts 90 [(1, .ptr 0 3 0 0), (28, sl 2 gi_Odds t0), (29, I t1), (30, I t2)], [some ⟨false, true, 3, 1, [gi_CombatTable b3]⟩]⟩
 | .h2 t0 t1 t2 b3 => ⟨sts 90 [(1, .ptr 0 3 0 0), (72, sl 1 (sl 1 I) t0), (73, I t1), (74, I t2)], [some ⟨false, true, 3, 1, [gi_CombatTable b3]⟩]⟩
abbrev Qs_kGood := Nx X 148 0 Ks_kGood Zs_kGood RB (fun _ => [])
theorem ns_kGood : ∀ s o, Bs_kGood s = some o → Qs_kGood (Ks_kGood s) (Zs_kGood s) o
 | .h1 t0 t1 t2 b3, o, H =>
  eIf H (fun h1 H =>
  eCk H fun h2 H =>
  eBind H fun x3 hx3 H =>
  eBind H fun r4 hr4 H =>
  gN [rg [hT 0], rg [hE 2 (gi_Odds x3)]] (by kernel_rfl) (P2 ((decide (t2 < t1)) = true) (decide_eq_true h1)<|P1 h2<|P1 (int_lt_of_at h2 hx3)<|P1 (at_map gi_Odds hx3)<|P0) <|
  eIf H (fun h5 H =>
  eBind H fun r6 hr6 H =>
  eIf H (fun h7 H =>
  gN [rg [{ i := 2, call := some { cl := true, auto := true, ins := [], res := (RB r4), G' := [] }, dec := some true }, { i := 7, call := some { cl := true, auto := true, ins := [], res := (RB r6), G' := [] }, dec := some true }]] (by kernel_rfl) (P1 (cs_l1In hr4)<|P2 (r4 = true) (h5)<|P1 (cs_l1In hr6)<|P2 (r6 = true) (h7)<|P0) <|
  eIf H (fun h8 H =>
  eCk H fun h9 H =>
  eBind H fun x10 hx10 H =>
  eCk H fun h11 H =>
  eBind H fun x12 hx12 H =>
  eIf H (fun h13 H =>
  eN H<|gE func148 [rg [hT 1, hE 9 (gi_Odds x10), hE 21 (gi_Odds x12), hT 23], r0] (by kernel_rfl) (P2 ((decide (t2 > 0)) = true) (decide_eq_true h8)<|P1 h9<|P1 (int_lt_of_at h9 hx10)<|P1 (at_map gi_Odds hx10)<|P1 h11<|P1 (int_lt_of_at h11 hx12)<|P1 (at_map gi_Odds hx12)<|P2 ((decide ((IntKind.wrap .i64 (x10.Num * x3.Den)) ≥ (IntKind.wrap .i64 (x3.Num * x12.Den)))) = true) (decide_eq_true h13)<|P0))
  (fun h13 H =>
  eN H fun r hn => gO [rg [hT 1, hE 9 (gi_Odds x10), hE 21 (gi_Odds x12), hF 23], r0, .canon [0] [1, 28, 29, 30]] (by kernel_rfl) (P2 ((decide (t2 > 0)) = true) (decide_eq_true h8)<|P1 h9<|P1 (int_lt_of_at h9 hx10)<|P1 (at_map gi_Odds hx10)<|P1 h11<|P1 (int_lt_of_at h11 hx12)<|P1 (at_map gi_Odds hx12)<|P2 ((decide ((IntKind.wrap .i64 (x10.Num * x3.Den)) ≥ (IntKind.wrap .i64 (x3.Num * x12.Den)))) = false) (decide_eq_false h13)<|P0) hn))
  (fun h8 H =>
  eN H fun r hn => gO [rg [hF 1], r0, .canon [0] [1, 28, 29, 30]] (by kernel_rfl) (P2 ((decide (t2 > 0)) = false) (decide_eq_false h8)<|P0) hn))
  (fun h7 H =>
  eN H<|gE func148 [rg [{ i := 2, call := some { cl := true, auto := true, ins := [], res := (RB r4), G' := [] }, dec := some true }, { i := 7, call := some { cl := true, auto := true, ins := [], res := (RB r6), G' := [] }, dec := some false }], r0] (by kernel_rfl) (P1 (cs_l1In hr4)<|P2 (r4 = true) (h5)<|P1 (cs_l1In hr6)<|P2 (r6 = false) (eqF h7)<|P0)))
  (fun h5 H =>
  eN H<|gE func148 [rg [{ i := 2, call := some { cl := true, auto := true, ins := [], res := (RB r4), G' := [] }, dec := some false }], r0] (by kernel_rfl) (P1 (cs_l1In hr4)<|P2 (r4 = false) (eqF h5)<|P0)))
  (fun h1 H =>
  eN H fun r hn => gO [rg [hF 0], r0, .canon [0] [1, 72, 73, 74]] (by kernel_rfl) (P2 ((decide (t2 < t1)) = false) (decide_eq_false h1)<|P0) hn)
 | .h2 t0 t1 t2 b3, o, H =>
  eIf H (fun h1 H =>
  eCk H fun h2 H =>
  eBind H fun x3 hx3 H =>
  gN [rg [hT 0], rg [hE 1 ((sl 1 I) x3)]] (by kernel_rfl) (P2 ((decide (t2 < t1)) = true) (decide_eq_true h1)<|P1 h2<|P1 (int_lt_of_at h2 hx3)<|P1 (at_map (sl 1 I) hx3)<|P0) <|
  eIf H (fun h4 H =>
  eBind H fun r5 hr5 H =>
  eIf H (fun h6 H =>
  eN H fun r hn => gO [rg [hF 5, { i := 8, call := some { cl := true, auto := true, ins := [], res := (RB r5), G' := [] }, dec := some true }], r0, .canon [0] [1, 72, 73, 74]] (by kernel_rfl) (P2 (((((x3.length : Nat) : Int) : Int) != ((b3.Columns.length : Nat) : Int)) = false) (bneF h4)<|P1 (cs_l1All hr5)<|P2 (r5 = true) (h6)<|P0) hn)
  (fun h6 H =>
  eN H<|gE func148 [rg [hF 5, { i := 8, call := some { cl := true, auto := true, ins := [], res := (RB r5), G' := [] }, dec := some false }], r0] (by kernel_rfl) (P2 (((((x3.length : Nat) : Int) : Int) != ((b3.Columns.length : Nat) : Int)) = false) (bneF h4)<|P1 (cs_l1All hr5)<|P2 (r5 = false) (eqF h6)<|P0)))
  (fun h4 H =>
  eN H<|gE func148 [rg [hT 5], r0] (by kernel_rfl) (P2 (((((x3.length : Nat) : Int) : Int) != ((b3.Columns.length : Nat) : Int)) = true) (bneT h4)<|P0)))
  (fun h1 H =>
  eN H<|gE func148 [rg [hF 0], r0] (by kernel_rfl) (P2 ((decide (t2 < t1)) = false) (decide_eq_false h1)<|P0))
theorem ws_kGood : ∀ s r, loop Bs_kGood s = some r → Wc X 148 0 (Ks_kGood s) (Zs_kGood s) (RB r) ((fun _ => []) r) := Nx.all (ns_kGood)
theorem cs_kGood {a0 : Gi_CombatTable} {r : Bool} (H : Ds_kGood a0 = some r) : Ct X.P X.gl 148 [gi_CombatTable a0] [] (RB r) [] :=
  Ct.of func148 (c := bdy f148) (by kernel_rfl) (by kernel_rfl) <|
  eBind H fun r1 hr1 H =>
  gS [r0] (by kernel_rfl) P0 <|
  eIf H (fun h2 H =>
  eBind H fun r3 hr3 H =>
  eIf H (fun h4 H =>
  eBind H fun r5 hr5 H =>
  eIf H (fun h6 H =>
  gO [rg [{ i := 3, call := some { cl := true, auto := true, ins := [], res := (RB r1), G' := [] }, dec := some true }, { i := 8, call := some { cl := true, auto := true, ins := [], res := (RB r3), G' := [] }, dec := some true }, hC 17 true [] (RI r5) [], hF 18], r0, .canon [0] [1, 28, 29, 30]] (by kernel_rfl) (P1 (cs_l1In hr1)<|P2 (r1 = true) (h2)<|P1 (cs_l1In hr3)<|P2 (r3 = true) (h4)<|P1 (cs_kRows hr5)<|P2 (((((a0.Results.length : Nat) : Int) : Int) != r5) = false) (bneF h6)<|P0) (ws_kGood _ _ H))
  (fun h6 H =>
  eW RB (fun _ => []) H<|gE func148 [rg [{ i := 3, call := some { cl := true, auto := true, ins := [], res := (RB r1), G' := [] }, dec := some true }, { i := 8, call := some { cl := true, auto := true, ins := [], res := (RB r3), G' := [] }, dec := some true }, hC 17 true [] (RI r5) [], hT 18], r0] (by kernel_rfl) (P1 (cs_l1In hr1)<|P2 (r1 = true) (h2)<|P1 (cs_l1In hr3)<|P2 (r3 = true) (h4)<|P1 (cs_kRows hr5)<|P2 (((((a0.Results.length : Nat) : Int) : Int) != r5) = true) (bneT h6)<|P0)))
  (fun h4 H =>
  eW RB (fun _ => []) H<|gE func148 [rg [{ i := 3, call := some { cl := true, auto := true, ins := [], res := (RB r1), G' := [] }, dec := some true }, { i := 8, call := some { cl := true, auto := true, ins := [], res := (RB r3), G' := [] }, dec := some false }], r0] (by kernel_rfl) (P1 (cs_l1In hr1)<|P2 (r1 = true) (h2)<|P1 (cs_l1In hr3)<|P2 (r3 = false) (eqF h4)<|P0)))
  (fun h2 H =>
  eW RB (fun _ => []) H<|gE func148 [rg [{ i := 3, call := some { cl := true, auto := true, ins := [], res := (RB r1), G' := [] }, dec := some false }], r0] (by kernel_rfl) (P1 (cs_l1In hr1)<|P2 (r1 = false) (eqF h2)<|P0))
def Rs_bTerrain (r : Gi_Terrain) : List D := [.agg [.str r.Name, sl 1 I r.Cost, I r.Shift, I r.Height, .bool r.Blocks]]
theorem cs_bTerrain {a0 : Gi_Board} {a1 : Int} {r : Gi_Terrain} (H : Ds_bTerrain a0 a1 = some r) : Ct X.P X.gl 201 [gi_Board a0, I a1] [] (Rs_bTerrain r) [] :=
  Ct.of func201 (c := bdy f201) (by kernel_rfl) (by kernel_rfl) <|
  eCk H fun h1 H =>
  eBind H fun x2 hx2 H =>
  eCk H fun h3 H =>
  eBind H fun x4 hx4 H =>
  eW Rs_bTerrain (fun _ => []) H<|gE func201 [r0, rg [hE 8 (I x2), hE 10 (gi_Terrain x4)]] (by kernel_rfl) (P1 h1<|P1 (int_lt_of_at h1 hx2)<|P1 (at_map I hx2)<|P1 h3<|P1 (int_lt_of_at h3 hx4)<|P1 (at_map gi_Terrain hx4)<|P0)
theorem cs_bCost {a0 : Gi_Board} {a1 : Int} {a2 : Int} {r : Int} (H : Ds_bCost a0 a1 a2 = some r) : Ct X.P X.gl 192 [gi_Board a0, I a1, I a2] [] (RI r) [] :=
  Ct.of func192 (c := bdy f192) (by kernel_rfl) (by kernel_rfl) <|
  eBind H fun r1 hr1 H =>
  eCk H fun h2 H =>
  eBind H fun x3 hx3 H =>
  eW RI (fun _ => []) H<|gE func192 [r0, rg [hC 2 true [] (Rs_bTerrain r1) [], hE 6 (I x3)]] (by kernel_rfl) (P1 (cs_bTerrain hr1)<|P1 h2<|P1 (int_lt_of_at h2 hx3)<|P1 (at_map I hx3)<|P0)
theorem cs_sUnit {a0 : Gi_Board} {a1 : Gi_Unit} {r : Bool} (H : Ds_sUnit a0 a1 = some r) : Ct X.P X.gl 176 [gi_Board a0, gi_Unit a1] [] (RB r) [] :=
  Ct.of func176 (c := bdy f176) (by kernel_rfl) (by kernel_rfl) <|
  eBind H fun r1 hr1 H =>
  gS [r0] (by kernel_rfl) P0 <|
  eIf H (fun h2 H =>
  eBind H fun r3 hr3 H =>
  eIf H (fun h4 H =>
  eCk H fun h5 H =>
  eBind H fun x6 hx6 H =>
  eBind H fun r7 hr7 H =>
  eIf H (fun h8 H =>
  gS [rg [{ i := 2, call := some { cl := true, auto := true, ins := [], res := (RB r1), G' := [] }, dec := some true }, { i := 12, call := some { cl := true, auto := true, ins := [], res := (RB r3), G' := [] }, dec := some true }, hE 25 (gi_Kind x6), { i := 26, call := some { cl := true, auto := true, ins := [], res := (RB r7), G' := [] }, dec := some true }]] (by kernel_rfl) (P1 (cs_l1In hr1)<|P2 (r1 = true) (h2)<|P1 (cs_l1In hr3)<|P2 (r3 = true) (h4)<|P1 h5<|P1 (int_lt_of_at h5 hx6)<|P1 (at_map gi_Kind hx6)<|P1 (cs_l1In hr7)<|P2 (r7 = true) (h8)<|P0) <|
  eIf H (fun h9 H =>
  eW RB (fun _ => []) H<|gE func176 [rg [hT 2]] (by kernel_rfl) (P2 (((a1.At : Int) == (-1)) = true) (beqT h9)<|P0))
  (fun h9 H =>
  eIf H (fun h10 H =>
  eBind H fun r11 hr11 H =>
  eBind H fun r12 hr12 H =>
  eIf H (fun h13 H =>
  eBind H fun r14 hr14 H =>
  eW RB (fun _ => []) H<|gE func176 [rg [hF 2, hT 6, hC 12 true [] (RI r11) [], { i := 14, call := some { cl := true, auto := true, ins := [], res := (RB r12), G' := [] }, dec := some true }, hC 22 true [] (RI r14) []]] (by kernel_rfl) (P2 (((a1.At : Int) == (-1)) = false) (beqF h9)<|P2 ((decide (a1.Steps > 0)) = true) (decide_eq_true h10)<|P1 (cs_mSize hr11)<|P1 (cs_l1In hr12)<|P2 (r12 = true) (h13)<|P1 (cs_bCost hr14)<|P0))
  (fun h13 H =>
  eW RB (fun _ => []) H<|gE func176 [rg [hF 2, hT 6, hC 12 true [] (RI r11) [], { i := 14, call := some { cl := true, auto := true, ins := [], res := (RB r12), G' := [] }, dec := some false }]] (by kernel_rfl) (P2 (((a1.At : Int) == (-1)) = false) (beqF h9)<|P2 ((decide (a1.Steps > 0)) = true) (decide_eq_true h10)<|P1 (cs_mSize hr11)<|P1 (cs_l1In hr12)<|P2 (r12 = false) (eqF h13)<|P0)))
  (fun h10 H =>
  eW RB (fun _ => []) H<|gE func176 [rg [hF 2, hF 6]] (by kernel_rfl) (P2 (((a1.At : Int) == (-1)) = false) (beqF h9)<|P2 ((decide (a1.Steps > 0)) = false) (decide_eq_false h10)<|P0))))
  (fun h8 H =>
  eW RB (fun _ => []) H<|gE func176 [rg [{ i := 2, call := some { cl := true, auto := true, ins := [], res := (RB r1), G' := [] }, dec := some true }, { i := 12, call := some { cl := true, auto := true, ins := [], res := (RB r3), G' := [] }, dec := some true }, hE 25 (gi_Kind x6), { i := 26, call := some { cl := true, auto := true, ins := [], res := (RB r7), G' := [] }, dec := some false }], r0] (by kernel_rfl) (P1 (cs_l1In hr1)<|P2 (r1 = true) (h2)<|P1 (cs_l1In hr3)<|P2 (r3 = true) (h4)<|P1 h5<|P1 (int_lt_of_at h5 hx6)<|P1 (at_map gi_Kind hx6)<|P1 (cs_l1In hr7)<|P2 (r7 = false) (eqF h8)<|P0)))
  (fun h4 H =>
  eW RB (fun _ => []) H<|gE func176 [rg [{ i := 2, call := some { cl := true, auto := true, ins := [], res := (RB r1), G' := [] }, dec := some true }, { i := 12, call := some { cl := true, auto := true, ins := [], res := (RB r3), G' := [] }, dec := some false }], r0] (by kernel_rfl) (P1 (cs_l1In hr1)<|P2 (r1 = true) (h2)<|P1 (cs_l1In hr3)<|P2 (r3 = false) (eqF h4)<|P0)))
  (fun h2 H =>
  eW RB (fun _ => []) H<|gE func176 [rg [{ i := 2, call := some { cl := true, auto := true, ins := [], res := (RB r1), G' := [] }, dec := some false }], r0] (by kernel_rfl) (P1 (cs_l1In hr1)<|P2 (r1 = false) (eqF h2)<|P0))
def Rs_sAt (r : (List Int)) : List D := [ow 1 I r]
noncomputable def Ks_sAt : Ss_sAt → List Item
 | .h1 .. => nav 300 3 [] [.code (bdy f177)]
def Zs_sAt : Ss_sAt → St
 | .h1 i0 side1 t2 t3 t4 l5 => ⟨sts 34 [(1, I i0), (2, I side1), (7, .ref 0 1 none), (11, sl 4 gi_Unit t2), (12, I t3), (13, I t4)], [some ⟨false, false, 1, l5.length, List.map I l5⟩]⟩
abbrev Qs_sAt := Nx X 177 0 Ks_sAt Zs_sAt Rs_sAt (fun _ => [])
theorem ns_sAt : ∀ s o, Bs_sAt s = some o → Qs_sAt (Ks_sAt s) (Zs_sAt s) o
 | .h1 i0 side1 t2 t3 t4 l5, o, H =>
  eIf H (fun h1 H =>
  eCk H fun h2 H =>
  eBind H fun x3 hx3 H =>
  gN [rg [hT 0], rg [hE 2 (gi_Unit x3)]] (by kernel_rfl) (P2 ((decide (t4 < t3)) = true) (decide_eq_true h1)<|P1 h2<|P1 (int_lt_of_at h2 hx3)<|P1 (at_map gi_Unit hx3)<|P0) <|
  eIf H (fun h4 H =>
  eIf H (fun h5 H =>
  eCk H fun h6 H =>
  eN H fun r hn => gO [rg [hT 3, hT 8], rg [hA 3 ((l5 ++ [t4]).length) (List.map I (l5 ++ [t4]))], r0, .canon [3] [1, 2, 7, 11, 12, 13]] (by kernel_rfl) (P2 (((x3.At : Int) == i0) = true) (beqT h4)<|P2 (((x3.Side : Int) == side1) = true) (beqT h5)<|P1 (apL l5 [t4])<|P1 (apB h6)<|P1 (apM I l5 [t4])<|P0) hn)
  (fun h5 H =>
  eN H fun r hn => gO [rg [hT 3, hF 8], r0, .canon [0] [1, 2, 7, 11, 12, 13]] (by kernel_rfl) (P2 (((x3.At : Int) == i0) = true) (beqT h4)<|P2 (((x3.Side : Int) == side1) = false) (beqF h5)<|P0) hn))
  (fun h4 H =>
  eN H fun r hn => gO [rg [hF 3], r0, .canon [0] [1, 2, 7, 11, 12, 13]] (by kernel_rfl) (P2 (((x3.At : Int) == i0) = false) (beqF h4)<|P0) hn))
  (fun h1 H =>
  eN H<|gE func177 [rg [hF 0], r0] (by kernel_rfl) (P2 ((decide (t4 < t3)) = false) (decide_eq_false h1)<|P0))
theorem ws_sAt : ∀ s r, loop Bs_sAt s = some r → Wc X 177 0 (Ks_sAt s) (Zs_sAt s) (Rs_sAt r) ((fun _ => []) r) := Nx.all (ns_sAt)
theorem cs_sAt {a0 : Gi_State} {a1 : Int} {a2 : Int} {r : (List Int)} (H : Ds_sAt a0 a1 a2 = some r) : Ct X.P X.gl 177 [gi_State a0, I a1, I a2] [] (Rs_sAt r) [] :=
  Ct.of func177 (c := bdy f177) (by kernel_rfl) (by kernel_rfl) <|
  gO [r0, r0, r0, .own 7 1, .canon [1] [1, 2, 7, 11, 12, 13]] (by kernel_rfl) P0 (ws_sAt _ _ H)
noncomputable def Ks_sGood : Ss_sGood → List Item
 | .h1 .. => nav 300 3 [false] [.code (bdy f149)]
 | .h2 .. => nav 300 5 [false, false] [.code (bdy f149)]
def Zs_sGood : Ss_sGood → St
 | .h1 t0 t1 t2 b3 b4 => ⟨sts 80 [(2, .ptr 0 12 0 0), (3, .ptr 1 3 0 0), (34, sl 4 gi_Unit t0), (35, I t1), (36, I t2)], [some ⟨false, true, 12, 1, [gi_Board b3]⟩, some ⟨false, true, 3, 1, [gi_State b4]⟩]⟩
 | .h2 t0 t1 t2 b3 b4 => ⟨sts 80 [(2, .ptr 0 12 0 0), (3, .ptr 1 3 0 0), (46, sl 4 gi_Unit t0), (47, I t1), (48, I t2)], [some ⟨false, true, 12, 1, [gi_Board b3]⟩, some ⟨false, true, 3, 1, [gi_State b4]⟩]⟩
abbrev Qs_sGood := Nx X 149 0 Ks_sGood Zs_sGood RB (fun _ => [])
theorem ns_sGood : ∀ s o, Bs_sGood s = some o → Qs_sGood (Ks_sGood s) (Zs_sGood s) o
 | .h1 t0 t1 t2 b3 b4, o, H =>
  eIf H (fun h1 H =>
  eCk H fun h2 H =>
  eBind H fun x3 hx3 H =>
  eBind H fun r4 hr4 H =>
  gN [rg [hT 0], rg [hE 1 (gi_Unit x3)]] (by kernel_rfl) (P2 ((decide (t2 < t1)) = true) (decide_eq_true h1)<|P1 h2<|P1 (int_lt_of_at h2 hx3)<|P1 (at_map gi_Unit hx3)<|P0) <|
  eIf H (fun h5 H =>
  eN H fun r hn => gO [rg [{ i := 2, call := some { cl := true, auto := true, ins := [], res := (RB r4), G' := [] }, dec := some true }], r0, .canon [0, 1] [2, 3, 34, 35, 36]] (by kernel_rfl) (P1 (cs_sUnit hr4)<|P2 (r4 = true) (h5)<|P0) hn)
  (fun h5 H =>
  eN H<|gE func149 [rg [{ i := 2, call := some { cl := true, auto := true, ins := [], res := (RB r4), G' := [] }, dec := some false }], r0] (by kernel_rfl) (P1 (cs_sUnit hr4)<|P2 (r4 = false) (eqF h5)<|P0)))
  (fun h1 H =>
  eN H fun r hn => gO [rg [hF 0], r0, .canon [0, 1] [2, 3, 46, 47, 48]] (by kernel_rfl) (P2 ((decide (t2 < t1)) = false) (decide_eq_false h1)<|P0) hn)
 | .h2 t0 t1 t2 b3 b4, o, H =>
  eIf H (fun h1 H =>
  eCk H fun h2 H =>
  eBind H fun x3 hx3 H =>
  gN [rg [hT 0], rg [hE 1 (gi_Unit x3)]] (by kernel_rfl) (P2 ((decide (t2 < t1)) = true) (decide_eq_true h1)<|P1 h2<|P1 (int_lt_of_at h2 hx3)<|P1 (at_map gi_Unit hx3)<|P0) <|
  eIf H (fun h4 H =>
  eBind H fun r5 hr5 H =>
  eIf H (fun h6 H =>
  eN H<|gE func149 [rg [hT 2, hC 10 true [] (Rs_sAt r5) [], hT 12], r0] (by kernel_rfl) (P2 ((decide (x3.At ≥ 0)) = true) (decide_eq_true h4)<|P1 (cs_sAt hr5)<|P2 ((decide (((r5.length : Nat) : Int) > 0)) = true) (decide_eq_true h6)<|P0))
  (fun h6 H =>
  eBind H fun r7 hr7 H =>
  eIf H (fun h8 H =>
  eN H<|gE func149 [rg [hT 2, hC 10 true [] (Rs_sAt r5) [], hF 12, hC 19 true [] (Rs_sAt r7) [], hT 24], r0] (by kernel_rfl) (P2 ((decide (x3.At ≥ 0)) = true) (decide_eq_true h4)<|P1 (cs_sAt hr5)<|P2 ((decide (((r5.length : Nat) : Int) > 0)) = false) (decide_eq_false h6)<|P1 (cs_sAt hr7)<|P2 ((decide (((r7.length : Nat) : Int) > b3.Rules.Stack)) = true) (decide_eq_true h8)<|P0))
  (fun h8 H =>
  eN H fun r hn => gO [rg [hT 2, hC 10 true [] (Rs_sAt r5) [], hF 12, hC 19 true [] (Rs_sAt r7) [], hF 24], r0, .canon [0, 1] [2, 3, 46, 47, 48]] (by kernel_rfl) (P2 ((decide (x3.At ≥ 0)) = true) (decide_eq_true h4)<|P1 (cs_sAt hr5)<|P2 ((decide (((r5.length : Nat) : Int) > 0)) = false) (decide_eq_false h6)<|P1 (cs_sAt hr7)<|P2 ((decide (((r7.length : Nat) : Int) > b3.Rules.Stack)) = false) (decide_eq_false h8)<|P0) hn)))
  (fun h4 H =>
  eN H fun r hn => gO [rg [hF 2], r0, .canon [0, 1] [2, 3, 46, 47, 48]] (by kernel_rfl) (P2 ((decide (x3.At ≥ 0)) = false) (decide_eq_false h4)<|P0) hn))
  (fun h1 H =>
  eN H<|gE func149 [rg [hF 0], r0] (by kernel_rfl) (P2 ((decide (t2 < t1)) = false) (decide_eq_false h1)<|P0))
theorem ws_sGood : ∀ s r, loop Bs_sGood s = some r → Wc X 149 0 (Ks_sGood s) (Zs_sGood s) (RB r) ((fun _ => []) r) := Nx.all (ns_sGood)
theorem cs_sGood {a0 : Gi_Board} {a1 : Gi_State} {r : Bool} (H : Ds_sGood a0 a1 = some r) : Ct X.P X.gl 149 [gi_Board a0, gi_State a1] [] (RB r) [] :=
  Ct.of func149 (c := bdy f149) (by kernel_rfl) (by kernel_rfl) <|
  eBind H fun r1 hr1 H =>
  gS [r0] (by kernel_rfl) P0 <|
  eIf H (fun h2 H =>
  eBind H fun r3 hr3 H =>
  eIf H (fun h4 H =>
  eBind H fun r5 hr5 H =>
  eIf H (fun h6 H =>
  eIf H (fun h7 H =>
  eW RB (fun _ => []) H<|gE func149 [rg [{ i := 1, call := some { cl := true, auto := true, ins := [], res := (RB r1), G' := [] }, dec := some true }, { i := 9, call := some { cl := true, auto := true, ins := [], res := (RB r3), G' := [] }, dec := some true }, { i := 15, call := some { cl := true, auto := true, ins := [], res := (RB r5), G' := [] }, dec := some true }, hT 22], r0] (by kernel_rfl) (P1 (cs_bGood hr1)<|P2 (r1 = true) (h2)<|P1 (cs_l1In hr3)<|P2 (r3 = true) (h4)<|P1 (cs_l1In hr5)<|P2 (r5 = true) (h6)<|P2 ((decide (((a1.Units.length : Nat) : Int) > 12)) = true) (decide_eq_true h7)<|P0))
  (fun h7 H =>
  gO [rg [{ i := 1, call := some { cl := true, auto := true, ins := [], res := (RB r1), G' := [] }, dec := some true }, { i := 9, call := some { cl := true, auto := true, ins := [], res := (RB r3), G' := [] }, dec := some true }, { i := 15, call := some { cl := true, auto := true, ins := [], res := (RB r5), G' := [] }, dec := some true }, hF 22], r0, .canon [0, 1] [2, 3, 34, 35, 36]] (by kernel_rfl) (P1 (cs_bGood hr1)<|P2 (r1 = true) (h2)<|P1 (cs_l1In hr3)<|P2 (r3 = true) (h4)<|P1 (cs_l1In hr5)<|P2 (r5 = true) (h6)<|P2 ((decide (((a1.Units.length : Nat) : Int) > 12)) = false) (decide_eq_false h7)<|P0) (ws_sGood _ _ H)))
  (fun h6 H =>
  eW RB (fun _ => []) H<|gE func149 [rg [{ i := 1, call := some { cl := true, auto := true, ins := [], res := (RB r1), G' := [] }, dec := some true }, { i := 9, call := some { cl := true, auto := true, ins := [], res := (RB r3), G' := [] }, dec := some true }, { i := 15, call := some { cl := true, auto := true, ins := [], res := (RB r5), G' := [] }, dec := some false }], r0] (by kernel_rfl) (P1 (cs_bGood hr1)<|P2 (r1 = true) (h2)<|P1 (cs_l1In hr3)<|P2 (r3 = true) (h4)<|P1 (cs_l1In hr5)<|P2 (r5 = false) (eqF h6)<|P0)))
  (fun h4 H =>
  eW RB (fun _ => []) H<|gE func149 [rg [{ i := 1, call := some { cl := true, auto := true, ins := [], res := (RB r1), G' := [] }, dec := some true }, { i := 9, call := some { cl := true, auto := true, ins := [], res := (RB r3), G' := [] }, dec := some false }], r0] (by kernel_rfl) (P1 (cs_bGood hr1)<|P2 (r1 = true) (h2)<|P1 (cs_l1In hr3)<|P2 (r3 = false) (eqF h4)<|P0)))
  (fun h2 H =>
  eW RB (fun _ => []) H<|gE func149 [rg [{ i := 1, call := some { cl := true, auto := true, ins := [], res := (RB r1), G' := [] }, dec := some false }], r0] (by kernel_rfl) (P1 (cs_bGood hr1)<|P2 (r1 = false) (eqF h2)<|P0))
noncomputable def Ks_vcGood : Ss_vcGood → List Item
 | .h1 .. => nav 300 3 [false] [.code (bdy f150)]
def Zs_vcGood : Ss_vcGood → St
 | .h1 t0 t1 t2 b3 b4 => ⟨sts 67 [(2, .ptr 0 12 0 0), (3, .ptr 1 3 0 0), (29, sl 2 gi_Goal t0), (30, I t1), (31, I t2)], [some ⟨false, true, 12, 1, [gi_Board b3]⟩, some ⟨false, true, 3, 1, [gi_Conditions b4]⟩]⟩
abbrev Qs_vcGood := Nx X 150 0 Ks_vcGood Zs_vcGood RB (fun _ => [])
theorem ns_vcGood : ∀ s o, Bs_vcGood s = some o → Qs_vcGood (Ks_vcGood s) (Zs_vcGood s) o
 | .h1 t0 t1 t2 b3 b4, o, H =>
  eIf H (fun h1 H =>
  eCk H fun h2 H =>
  eBind H fun x3 hx3 H =>
  eBind H fun r4 hr4 H =>
  eBind H fun r5 hr5 H =>
  gN [rg [hT 0], rg [hE 2 (gi_Goal x3)]] (by kernel_rfl) (P2 ((decide (t2 < t1)) = true) (decide_eq_true h1)<|P1 h2<|P1 (int_lt_of_at h2 hx3)<|P1 (at_map gi_Goal hx3)<|P0) <|
  eIf H (fun h6 H =>
  eBind H fun r7 hr7 H =>
  eIf H (fun h8 H =>
  eIf H (fun h9 H =>
  eCk H fun h10 H =>
  eBind H fun x11 hx11 H =>
  eIf H (fun h12 H =>
  eN H<|gE func150 [rg [hC 4 true [] (RI r4) [], { i := 6, call := some { cl := true, auto := true, ins := [], res := (RB r5), G' := [] }, dec := some true }, { i := 11, call := some { cl := true, auto := true, ins := [], res := (RB r7), G' := [] }, dec := some true }, hT 16, hE 24 (gi_Goal x11), hT 27], r0] (by kernel_rfl) (P1 (cs_mSize hr4)<|P1 (cs_l1In hr5)<|P2 (r5 = true) (h6)<|P1 (cs_l1In hr7)<|P2 (r7 = true) (h8)<|P2 ((decide (t2 > 0)) = true) (decide_eq_true h9)<|P1 h10<|P1 (int_lt_of_at h10 hx11)<|P1 (at_map gi_Goal hx11)<|P2 ((decide (x11.At ≥ x3.At)) = true) (decide_eq_true h12)<|P0))
  (fun h12 H =>
  eN H fun r hn => gO [rg [hC 4 true [] (RI r4) [], { i := 6, call := some { cl := true, auto := true, ins := [], res := (RB r5), G' := [] }, dec := some true }, { i := 11, call := some { cl := true, auto := true, ins := [], res := (RB r7), G' := [] }, dec := some true }, hT 16, hE 24 (gi_Goal x11), hF 27], r0, .canon [0, 1] [2, 3, 29, 30, 31]] (by kernel_rfl) (P1 (cs_mSize hr4)<|P1 (cs_l1In hr5)<|P2 (r5 = true) (h6)<|P1 (cs_l1In hr7)<|P2 (r7 = true) (h8)<|P2 ((decide (t2 > 0)) = true) (decide_eq_true h9)<|P1 h10<|P1 (int_lt_of_at h10 hx11)<|P1 (at_map gi_Goal hx11)<|P2 ((decide (x11.At ≥ x3.At)) = false) (decide_eq_false h12)<|P0) hn))
  (fun h9 H =>
  eN H fun r hn => gO [rg [hC 4 true [] (RI r4) [], { i := 6, call := some { cl := true, auto := true, ins := [], res := (RB r5), G' := [] }, dec := some true }, { i := 11, call := some { cl := true, auto := true, ins := [], res := (RB r7), G' := [] }, dec := some true }, hF 16], r0, .canon [0, 1] [2, 3, 29, 30, 31]] (by kernel_rfl) (P1 (cs_mSize hr4)<|P1 (cs_l1In hr5)<|P2 (r5 = true) (h6)<|P1 (cs_l1In hr7)<|P2 (r7 = true) (h8)<|P2 ((decide (t2 > 0)) = false) (decide_eq_false h9)<|P0) hn))
  (fun h8 H =>
  eN H<|gE func150 [rg [hC 4 true [] (RI r4) [], { i := 6, call := some { cl := true, auto := true, ins := [], res := (RB r5), G' := [] }, dec := some true }, { i := 11, call := some { cl := true, auto := true, ins := [], res := (RB r7), G' := [] }, dec := some false }], r0] (by kernel_rfl) (P1 (cs_mSize hr4)<|P1 (cs_l1In hr5)<|P2 (r5 = true) (h6)<|P1 (cs_l1In hr7)<|P2 (r7 = false) (eqF h8)<|P0)))
  (fun h6 H =>
  eN H<|gE func150 [rg [hC 4 true [] (RI r4) [], { i := 6, call := some { cl := true, auto := true, ins := [], res := (RB r5), G' := [] }, dec := some false }], r0] (by kernel_rfl) (P1 (cs_mSize hr4)<|P1 (cs_l1In hr5)<|P2 (r5 = false) (eqF h6)<|P0)))
  (fun h1 H =>
  eN H<|gE func150 [rg [hF 0], r0] (by kernel_rfl) (P2 ((decide (t2 < t1)) = false) (decide_eq_false h1)<|P0))
theorem ws_vcGood : ∀ s r, loop Bs_vcGood s = some r → Wc X 150 0 (Ks_vcGood s) (Zs_vcGood s) (RB r) ((fun _ => []) r) := Nx.all (ns_vcGood)
theorem cs_vcGood {a0 : Gi_Board} {a1 : Gi_Conditions} {r : Bool} (H : Ds_vcGood a0 a1 = some r) : Ct X.P X.gl 150 [gi_Board a0, gi_Conditions a1] [] (RB r) [] :=
  Ct.of func150 (c := bdy f150) (by kernel_rfl) (by kernel_rfl) <|
  eBind H fun r1 hr1 H =>
  gS [r0] (by kernel_rfl) P0 <|
  eIf H (fun h2 H =>
  eIf H (fun h3 H =>
  eW RB (fun _ => []) H<|gE func150 [rg [{ i := 1, call := some { cl := true, auto := true, ins := [], res := (RB r1), G' := [] }, dec := some true }, hT 7], r0] (by kernel_rfl) (P1 (cs_bGood hr1)<|P2 (r1 = true) (h2)<|P2 ((decide (((a1.Goals.length : Nat) : Int) > 12)) = true) (decide_eq_true h3)<|P0))
  (fun h3 H =>
  eBind H fun r4 hr4 H =>
  eIf H (fun h5 H =>
  eBind H fun r6 hr6 H =>
  eIf H (fun h7 H =>
  gO [rg [{ i := 1, call := some { cl := true, auto := true, ins := [], res := (RB r1), G' := [] }, dec := some true }, hF 7, { i := 12, call := some { cl := true, auto := true, ins := [], res := (RB r4), G' := [] }, dec := some true }, { i := 18, call := some { cl := true, auto := true, ins := [], res := (RB r6), G' := [] }, dec := some true }], r0, .canon [0, 1] [2, 3, 29, 30, 31]] (by kernel_rfl) (P1 (cs_bGood hr1)<|P2 (r1 = true) (h2)<|P2 ((decide (((a1.Goals.length : Nat) : Int) > 12)) = false) (decide_eq_false h3)<|P1 (cs_l1In hr4)<|P2 (r4 = true) (h5)<|P1 (cs_l1In hr6)<|P2 (r6 = true) (h7)<|P0) (ws_vcGood _ _ H))
  (fun h7 H =>
  eW RB (fun _ => []) H<|gE func150 [rg [{ i := 1, call := some { cl := true, auto := true, ins := [], res := (RB r1), G' := [] }, dec := some true }, hF 7, { i := 12, call := some { cl := true, auto := true, ins := [], res := (RB r4), G' := [] }, dec := some true }, { i := 18, call := some { cl := true, auto := true, ins := [], res := (RB r6), G' := [] }, dec := some false }], r0] (by kernel_rfl) (P1 (cs_bGood hr1)<|P2 (r1 = true) (h2)<|P2 ((decide (((a1.Goals.length : Nat) : Int) > 12)) = false) (decide_eq_false h3)<|P1 (cs_l1In hr4)<|P2 (r4 = true) (h5)<|P1 (cs_l1In hr6)<|P2 (r6 = false) (eqF h7)<|P0)))
  (fun h5 H =>
  eW RB (fun _ => []) H<|gE func150 [rg [{ i := 1, call := some { cl := true, auto := true, ins := [], res := (RB r1), G' := [] }, dec := some true }, hF 7, { i := 12, call := some { cl := true, auto := true, ins := [], res := (RB r4), G' := [] }, dec := some false }], r0] (by kernel_rfl) (P1 (cs_bGood hr1)<|P2 (r1 = true) (h2)<|P2 ((decide (((a1.Goals.length : Nat) : Int) > 12)) = false) (decide_eq_false h3)<|P1 (cs_l1In hr4)<|P2 (r4 = false) (eqF h5)<|P0))))
  (fun h2 H =>
  eW RB (fun _ => []) H<|gE func150 [rg [{ i := 1, call := some { cl := true, auto := true, ins := [], res := (RB r1), G' := [] }, dec := some false }], r0] (by kernel_rfl) (P1 (cs_bGood hr1)<|P2 (r1 = false) (eqF h2)<|P0))
theorem cs_jSources {a0 : Gi_Board} {a1 : (List Int)} {r : Bool} (H : Ds_jSources a0 a1 = some r) : Ct X.P X.gl 151 [gi_Board a0, sl 1 I a1] [] (RB r) [] :=
  Ct.of func151 (c := bdy f151) (by kernel_rfl) (by kernel_rfl) <|
  gS [r0] (by kernel_rfl) P0 <|
  eIf H (fun h1 H =>
  eBind H fun r2 hr2 H =>
  eBind H fun r3 hr3 H =>
  eW RB (fun _ => []) H<|gE func151 [rg [hT 2, hC 7 true [] (RI r2) [], hC 9 true [] (RB r3) []]] (by kernel_rfl) (P2 ((decide (((a1.length : Nat) : Int) ≤ 6)) = true) (decide_eq_true h1)<|P1 (cs_mSize hr2)<|P1 (cs_l1Rising hr3)<|P0))
  (fun h1 H =>
  eW RB (fun _ => []) H<|gE func151 [rg [hF 2]] (by kernel_rfl) (P2 ((decide (((a1.length : Nat) : Int) ≤ 6)) = false) (decide_eq_false h1)<|P0))
theorem cs_snCode {a0 : Gi_Scenario} {r : Int} (H : Ds_snCode a0 = some r) : Ct X.P X.gl 112 [gi_Scenario a0] [] (RI r) [] :=
  Ct.of func112 (c := bdy f112) (by kernel_rfl) (by kernel_rfl) <|
  eBind H fun r1 hr1 H =>
  gS [r0] (by kernel_rfl) P0 <|
  eIf H (fun h2 H =>
  eBind H fun r3 hr3 H =>
  gS [rg [{ i := 2, call := some { cl := true, auto := true, ins := [], res := (RB r1), G' := [] }, dec := some true }]] (by kernel_rfl) (P1 (cs_rName hr1)<|P2 (r1 = true) (h2)<|P0) <|
  eIf H (fun h4 H =>
  eBind H fun r5 hr5 H =>
  gS [rg [{ i := 2, call := some { cl := true, auto := true, ins := [], res := (RB r3), G' := [] }, dec := some true }]] (by kernel_rfl) (P1 (cs_bGood hr3)<|P2 (r3 = true) (h4)<|P0) <|
  eIf H (fun h6 H =>
  eBind H fun r7 hr7 H =>
  gS [rg [{ i := 2, call := some { cl := true, auto := true, ins := [], res := (RB r5), G' := [] }, dec := some true }]] (by kernel_rfl) (P1 (cs_kGood hr5)<|P2 (r5 = true) (h6)<|P0) <|
  eIf H (fun h8 H =>
  eBind H fun r9 hr9 H =>
  gS [rg [{ i := 4, call := some { cl := true, auto := true, ins := [], res := (RB r7), G' := [] }, dec := some true }]] (by kernel_rfl) (P1 (cs_sGood hr7)<|P2 (r7 = true) (h8)<|P0) <|
  eIf H (fun h10 H =>
  eBind H fun r11 hr11 H =>
  gS [rg [{ i := 4, call := some { cl := true, auto := true, ins := [], res := (RB r9), G' := [] }, dec := some true }]] (by kernel_rfl) (P1 (cs_vcGood hr9)<|P2 (r9 = true) (h10)<|P0) <|
  eIf H (fun h12 H =>
  eBind H fun r13 hr13 H =>
  eIf H (fun h14 H =>
  eW RI (fun _ => []) H<|gE func112 [rg [{ i := 4, call := some { cl := true, auto := true, ins := [], res := (RB r11), G' := [] }, dec := some true }, { i := 11, call := some { cl := true, auto := true, ins := [], res := (RB r13), G' := [] }, dec := some true }], r0] (by kernel_rfl) (P1 (cs_jSources hr11)<|P2 (r11 = true) (h12)<|P1 (cs_jSources hr13)<|P2 (r13 = true) (h14)<|P0))
  (fun h14 H =>
  eW RI (fun _ => []) H<|gE func112 [rg [{ i := 4, call := some { cl := true, auto := true, ins := [], res := (RB r11), G' := [] }, dec := some true }, { i := 11, call := some { cl := true, auto := true, ins := [], res := (RB r13), G' := [] }, dec := some false }], r0] (by kernel_rfl) (P1 (cs_jSources hr11)<|P2 (r11 = true) (h12)<|P1 (cs_jSources hr13)<|P2 (r13 = false) (eqF h14)<|P0)))
  (fun h12 H =>
  eW RI (fun _ => []) H<|gE func112 [rg [{ i := 4, call := some { cl := true, auto := true, ins := [], res := (RB r11), G' := [] }, dec := some false }], r0] (by kernel_rfl) (P1 (cs_jSources hr11)<|P2 (r11 = false) (eqF h12)<|P0)))
  (fun h10 H =>
  eW RI (fun _ => []) H<|gE func112 [rg [{ i := 4, call := some { cl := true, auto := true, ins := [], res := (RB r9), G' := [] }, dec := some false }], r0] (by kernel_rfl) (P1 (cs_vcGood hr9)<|P2 (r9 = false) (eqF h10)<|P0)))
  (fun h8 H =>
  eW RI (fun _ => []) H<|gE func112 [rg [{ i := 4, call := some { cl := true, auto := true, ins := [], res := (RB r7), G' := [] }, dec := some false }], r0] (by kernel_rfl) (P1 (cs_sGood hr7)<|P2 (r7 = false) (eqF h8)<|P0)))
  (fun h6 H =>
  eW RI (fun _ => []) H<|gE func112 [rg [{ i := 2, call := some { cl := true, auto := true, ins := [], res := (RB r5), G' := [] }, dec := some false }], r0] (by kernel_rfl) (P1 (cs_kGood hr5)<|P2 (r5 = false) (eqF h6)<|P0)))
  (fun h4 H =>
  eW RI (fun _ => []) H<|gE func112 [rg [{ i := 2, call := some { cl := true, auto := true, ins := [], res := (RB r3), G' := [] }, dec := some false }], r0] (by kernel_rfl) (P1 (cs_bGood hr3)<|P2 (r3 = false) (eqF h4)<|P0)))
  (fun h2 H =>
  eW RI (fun _ => []) H<|gE func112 [rg [{ i := 2, call := some { cl := true, auto := true, ins := [], res := (RB r1), G' := [] }, dec := some false }], r0] (by kernel_rfl) (P1 (cs_rName hr1)<|P2 (r1 = false) (eqF h2)<|P0))
theorem cs_snGood {a0 : Gi_Scenario} {r : Bool} (H : Ds_snGood a0 = some r) : Ct X.P X.gl 69 [gi_Scenario a0] [] (RB r) [] :=
  Ct.of func69 (c := bdy f69) (by kernel_rfl) (by kernel_rfl) <|
  eBind H fun r1 hr1 H =>
  eW RB (fun _ => []) H<|gE func69 [r0, rg [hC 1 true [] (RI r1) []]] (by kernel_rfl) (P1 (cs_snCode hr1)<|P0)
noncomputable def Ks_wGood : Ss_wGood → List Item
 | .h1 .. => nav 300 3 [false] [.code (bdy f70)]
def Zs_wGood : Ss_wGood → St
 | .h1 t0 t1 t2 => ⟨sts 39 [(10, sl 1 (sl 1 I) t0), (11, I t1), (12, I t2)], []⟩
abbrev Qs_wGood := Nx X 70 0 Ks_wGood Zs_wGood RB (fun _ => [])
theorem ns_wGood : ∀ s o, Bs_wGood s = some o → Qs_wGood (Ks_wGood s) (Zs_wGood s) o
 | .h1 t0 t1 t2, o, H =>
  eIf H (fun h1 H =>
  eCk H fun h2 H =>
  eBind H fun x3 hx3 H =>
  gN [rg [hT 0], rg [hE 1 ((sl 1 I) x3)]] (by kernel_rfl) (P2 ((decide (t2 < t1)) = true) (decide_eq_true h1)<|P1 h2<|P1 (int_lt_of_at h2 hx3)<|P1 (at_map (sl 1 I) hx3)<|P0) <|
  eIf H (fun h4 H =>
  eBind H fun r5 hr5 H =>
  eIf H (fun h6 H =>
  eBind H fun x7 hx7 H =>
  eBind H fun x8 hx8 H =>
  eBind H fun x9 hx9 H =>
  eIf H (fun h10 H =>
  eN H fun r hn => gO [rg [hF 2, { i := 5, call := some { cl := true, auto := true, ins := [], res := (RB r5), G' := [] }, dec := some true }, hE 11 (I x7), hE 14 (I x8), hE 18 (I x9), hF 20], r0, .canon [] [10, 11, 12]] (by kernel_rfl) (P2 (((((x3.length : Nat) : Int) : Int) != 3) = false) (bneF h4)<|P1 (cs_l1All hr5)<|P2 (r5 = true) (h6)<|P2 ((0 : Int) ≤ 0) (by decide)<|P1 (int_lt_of_at (by decide : (0 : Int) ≤ 0) hx7)<|P1 (at_map I hx7)<|P2 ((0 : Int) ≤ 1) (by decide)<|P1 (int_lt_of_at (by decide : (0 : Int) ≤ 1) hx8)<|P1 (at_map I hx8)<|P2 ((0 : Int) ≤ 2) (by decide)<|P1 (int_lt_of_at (by decide : (0 : Int) ≤ 2) hx9)<|P1 (at_map I hx9)<|P2 ((((IntKind.wrap .i64 ((IntKind.wrap .i64 (x7 + x8)) + x9)) : Int) != 36) = false) (bneF h10)<|P0) hn)
  (fun h10 H =>
  eN H<|gE func70 [rg [hF 2, { i := 5, call := some { cl := true, auto := true, ins := [], res := (RB r5), G' := [] }, dec := some true }, hE 11 (I x7), hE 14 (I x8), hE 18 (I x9), hT 20], r0] (by kernel_rfl) (P2 (((((x3.length : Nat) : Int) : Int) != 3) = false) (bneF h4)<|P1 (cs_l1All hr5)<|P2 (r5 = true) (h6)<|P2 ((0 : Int) ≤ 0) (by decide)<|P1 (int_lt_of_at (by decide : (0 : Int) ≤ 0) hx7)<|P1 (at_map I hx7)<|P2 ((0 : Int) ≤ 1) (by decide)<|P1 (int_lt_of_at (by decide : (0 : Int) ≤ 1) hx8)<|P1 (at_map I hx8)<|P2 ((0 : Int) ≤ 2) (by decide)<|P1 (int_lt_of_at (by decide : (0 : Int) ≤ 2) hx9)<|P1 (at_map I hx9)<|P2 ((((IntKind.wrap .i64 ((IntKind.wrap .i64 (x7 + x8)) + x9)) : Int) != 36) = true) (bneT h10)<|P0)))
  (fun h6 H =>
  eN H<|gE func70 [rg [hF 2, { i := 5, call := some { cl := true, auto := true, ins := [], res := (RB r5), G' := [] }, dec := some false }], r0] (by kernel_rfl) (P2 (((((x3.length : Nat) : Int) : Int) != 3) = false) (bneF h4)<|P1 (cs_l1All hr5)<|P2 (r5 = false) (eqF h6)<|P0)))
  (fun h4 H =>
  eN H<|gE func70 [rg [hT 2], r0] (by kernel_rfl) (P2 (((((x3.length : Nat) : Int) : Int) != 3) = true) (bneT h4)<|P0)))
  (fun h1 H =>
  eN H<|gE func70 [rg [hF 0], r0] (by kernel_rfl) (P2 ((decide (t2 < t1)) = false) (decide_eq_false h1)<|P0))
theorem ws_wGood : ∀ s r, loop Bs_wGood s = some r → Wc X 70 0 (Ks_wGood s) (Zs_wGood s) (RB r) ((fun _ => []) r) := Nx.all (ns_wGood)
theorem cs_wGood {a0 : Gi_Climate} {r : Bool} (H : Ds_wGood a0 = some r) : Ct X.P X.gl 70 [.agg [sl 1 (sl 1 I) a0.Weights]] [] (RB r) [] :=
  Ct.of func70 (c := bdy f70) (by kernel_rfl) (by kernel_rfl) <|
  gS [r0] (by kernel_rfl) P0 <|
  eIf H (fun h1 H =>
  gO [rg [hF 3], r0, .canon [] [10, 11, 12]] (by kernel_rfl) (P2 (((((a0.Weights.length : Nat) : Int) : Int) != 3) = false) (bneF h1)<|P0) (ws_wGood _ _ H))
  (fun h1 H =>
  eW RB (fun _ => []) H<|gE func70 [rg [hT 3], r0] (by kernel_rfl) (P2 (((((a0.Weights.length : Nat) : Int) : Int) != 3) = true) (bneT h1)<|P0))
theorem cs_svBase {a0 : Gi_Scenario} {a1 : Gi_Climate} {r : Bool} (H : Ds_svBase a0 a1 = some r) : Ct X.P X.gl 29 [gi_Scenario a0, .agg [sl 1 (sl 1 I) a1.Weights]] [] (RB r) [] :=
  Ct.of func29 (c := bdy f29) (by kernel_rfl) (by kernel_rfl) <|
  eBind H fun r1 hr1 H =>
  gS [r0] (by kernel_rfl) P0 <|
  eIf H (fun h2 H =>
  eBind H fun r3 hr3 H =>
  eW RB (fun _ => []) H<|gE func29 [rg [{ i := 1, call := some { cl := true, auto := true, ins := [], res := (RB r1), G' := [] }, dec := some true }, hC 4 true [] (RB r3) []]] (by kernel_rfl) (P1 (cs_snGood hr1)<|P2 (r1 = true) (h2)<|P1 (cs_wGood hr3)<|P0))
  (fun h2 H =>
  eW RB (fun _ => []) H<|gE func29 [rg [{ i := 1, call := some { cl := true, auto := true, ins := [], res := (RB r1), G' := [] }, dec := some false }]] (by kernel_rfl) (P1 (cs_snGood hr1)<|P2 (r1 = false) (eqF h2)<|P0))
def Rs_l1Own (r : (List Int)) : List D := [ow 1 I r]
theorem cs_l1Own {a0 : (List Int)} {r : (List Int)} (H : Ds_l1Own a0 = some r) : Ct X.P X.gl 75 [sl 1 I a0] [] (Rs_l1Own r) [] :=
  Ct.of func75 (c := bdy f75) (by kernel_rfl) (by kernel_rfl) <|
  eCk H fun h1 H =>
  eW Rs_l1Own (fun _ => []) H<|gE func75 [r0, rg [hA 2 a0.length (List.map I a0)]] (by kernel_rfl) (P2 (AllFl (List.map I a0)) (allFl_3 _)<|P2 (a0.length = ([] : List Int).length + a0.length) (by simp <;> omega)<|P2 ((([] : List Int).length + a0.length) * 8 ≤ 70368744177664) (by have := h1; simp at this ⊢ <;> omega)<|P2 (List.map I ([] : List Int) ++ List.map I a0 = List.map I a0) (by simp)<|P0)
def Rs_rOwn (r : Gi_Rules) : List D := [.agg [ow 5 goi_Terrain r.Terrains, ow 6 gi_Kind r.Kinds, I r.Stack, I r.River, I r.Road, I r.Supply, I r.Turns]]
noncomputable def Ks_rOwn : Ss_rOwn → List Item
 | .h1 .. => nav 300 4 [] [.code (bdy f71)]
 | .h2 .. => nav 300 9 [true] [.code (bdy f71)]
def Zs_rOwn : Ss_rOwn → St
 | .h1 t0 t1 t2 b3 b4 b5 b6 b7 b8 b9 b10 b11 b12 b13 b14 => ⟨sts 32 [(1, .ptr 0 7 0 0), (2, .ptr 1 7 0 0), (3, .ptr 2 7 0 0), (9, sl 5 gi_Terrain t0), (10, I t1), (11, I t2)], [some ⟨false, true, 7, 1, [gi_Rules b3]⟩, some ⟨false, true, 7, 1, [.agg [.nil, .nil, I b4, I b5, I b6, I b7, I b8]]⟩, some ⟨false, true, 7, 1, [.agg [.nil, sl 6 gi_Kind b9, I b10, I b11, I b12, I b13, I b14]]⟩]⟩
 | .h2 t0 t1 t2 b3 b4 b5 b6 b7 b8 b9 b10 b11 b12 b13 b14 l15 => ⟨sts 32 [(1, .ptr 0 7 0 0), (2, .ptr 1 7 0 0), (3, .ptr 2 7 0 0), (9, sl 5 gi_Terrain t0), (10, I t1), (11, I t2)], [some ⟨false, true, 7, 1, [gi_Rules b3]⟩, some ⟨false, true, 7, 1, [.agg [.nil, .nil, I b4, I b5, I b6, I b7, I b8]]⟩, some ⟨false, true, 7, 1, [.agg [.ref 3 5 none, sl 6 gi_Kind b9, I b10, I b11, I b12, I b13, I b14]]⟩, some ⟨false, false, 5, l15.length, List.map goi_Terrain l15⟩]⟩
abbrev Qs_rOwn := Nx X 71 0 Ks_rOwn Zs_rOwn Rs_rOwn (fun _ => [])
theorem ns_rOwn : ∀ s o, Bs_rOwn s = some o → Qs_rOwn (Ks_rOwn s) (Zs_rOwn s) o
 | .h1 t0 t1 t2 b3 b4 b5 b6 b7 b8 b9 b10 b11 b12 b13 b14, o, H =>
  eIf H (fun h1 H =>
  eCk H fun h2 H =>
  eBind H fun x3 hx3 H =>
  eBind H fun r4 hr4 H =>
  eCk H fun h5 H =>
  eN H fun r hn => gO [rg [hT 0], rg [hE 1 (gi_Terrain x3)], rg [hC 2 true [] (Rs_l1Own r4) []], rg [{ i := 3, post := [.put 5 0 1 4 (List.map goi_Terrain [(Gi_Terrain.mk x3.Name r4 x3.Shift x3.Height x3.Blocks)]), .own 5 1] }, hA 4 ([(Gi_Terrain.mk x3.Name r4 x3.Shift x3.Height x3.Blocks)].length) (List.map goi_Terrain [(Gi_Terrain.mk x3.Name r4 x3.Shift x3.Height x3.Blocks)])], r0, .canon [0, 1, 2, 6] [1, 2, 3, 9, 10, 11]] (by kernel_rfl) (P2 ((decide (t2 < t1)) = true) (decide_eq_true h1)<|P1 h2<|P1 (int_lt_of_at h2 hx3)<|P1 (at_map gi_Terrain hx3)<|P1 (cs_l1Own hr4)<|P2 (getCells [.agg [.str x3.Name, .ref 4 1 none, I x3.Shift, I x3.Height, .bool x3.Blocks]] 0 1 1 = some [.ref 4 1 none]) rfl<|P2 (setCells [.agg [.str x3.Name, .ref 4 1 none, I x3.Shift, I x3.Height, .bool x3.Blocks]] 0 1 [ow 1 I r4] = List.map goi_Terrain [(Gi_Terrain.mk x3.Name r4 x3.Shift x3.Height x3.Blocks)]) rfl<|P1 (allOw_159 [(Gi_Terrain.mk x3.Name r4 x3.Shift x3.Height x3.Blocks)])<|P2 ((1 : Nat) = 1) rfl<|P2 ([(Gi_Terrain.mk x3.Name r4 x3.Shift x3.Height x3.Blocks)].length = 0 + [(Gi_Terrain.mk x3.Name r4 x3.Shift x3.Height x3.Blocks)].length) (by simp <;> omega)<|P2 ((0 + [(Gi_Terrain.mk x3.Name r4 x3.Shift x3.Height x3.Blocks)].length) * 64 ≤ 70368744177664) (by have := h5; simp at this ⊢ <;> omega)<|P2 (([] : List D) ++ List.map goi_Terrain [(Gi_Terrain.mk x3.Name r4 x3.Shift x3.Height x3.Blocks)] = List.map goi_Terrain [(Gi_Terrain.mk x3.Name r4 x3.Shift x3.Height x3.Blocks)]) (by simp)<|P0) hn)
  (fun h1 H =>
  eCk H fun h2 H =>
  eN H<|gE func71 [rg [hF 0], rg [hA 3 b3.Kinds.length (List.map gi_Kind b3.Kinds)], r0] (by kernel_rfl) (P2 ((decide (t2 < t1)) = false) (decide_eq_false h1)<|P2 (AllFl (List.map gi_Kind b3.Kinds)) (allFl_199 _)<|P2 (b3.Kinds.length = ([] : List Gi_Kind).length + b3.Kinds.length) (by simp <;> omega)<|P2 ((([] : List Gi_Kind).length + b3.Kinds.length) * 56 ≤ 70368744177664) (by have := h2; simp at this ⊢ <;> omega)<|P2 (List.map gi_Kind ([] : List Gi_Kind) ++ List.map gi_Kind b3.Kinds = List.map gi_Kind b3.Kinds) (by simp)<|P0))
 | .h2 t0 t1 t2 b3 b4 b5 b6 b7 b8 b9 b10 b11 b12 b13 b14 l15, o, H =>
  eIf H (fun h1 H =>
  eCk H fun h2 H =>
  eBind H fun x3 hx3 H =>
  eBind H fun r4 hr4 H =>
  eCk H fun h5 H =>
  eN H fun r hn => gO [rg [hT 0], rg [hE 1 (gi_Terrain x3)], rg [hC 2 true [] (Rs_l1Own r4) []], rg [{ i := 3, post := [.put 6 0 1 5 (List.map goi_Terrain [(Gi_Terrain.mk x3.Name r4 x3.Shift x3.Height x3.Blocks)]), .own 6 1] }, hA 4 ((l15 ++ [(Gi_Terrain.mk x3.Name r4 x3.Shift x3.Height x3.Blocks)]).length) (List.map goi_Terrain (l15 ++ [(Gi_Terrain.mk x3.Name r4 x3.Shift x3.Height x3.Blocks)]))], r0, .canon [0, 1, 2, 7] [1, 2, 3, 9, 10, 11]] (by kernel_rfl) (P2 ((decide (t2 < t1)) = true) (decide_eq_true h1)<|P1 h2<|P1 (int_lt_of_at h2 hx3)<|P1 (at_map gi_Terrain hx3)<|P1 (cs_l1Own hr4)<|P2 (getCells [.agg [.str x3.Name, .ref 5 1 none, I x3.Shift, I x3.Height, .bool x3.Blocks]] 0 1 1 = some [.ref 5 1 none]) rfl<|P2 (setCells [.agg [.str x3.Name, .ref 5 1 none, I x3.Shift, I x3.Height, .bool x3.Blocks]] 0 1 [ow 1 I r4] = List.map goi_Terrain [(Gi_Terrain.mk x3.Name r4 x3.Shift x3.Height x3.Blocks)]) rfl<|P1 (allOw_159 [(Gi_Terrain.mk x3.Name r4 x3.Shift x3.Height x3.Blocks)])<|P2 ((1 : Nat) = 1) rfl<|P1 (apL l15 [(Gi_Terrain.mk x3.Name r4 x3.Shift x3.Height x3.Blocks)])<|P1 (apB h5)<|P1 (apM goi_Terrain l15 [(Gi_Terrain.mk x3.Name r4 x3.Shift x3.Height x3.Blocks)])<|P0) hn)
  (fun h1 H =>
  eCk H fun h2 H =>
  eN H<|gE func71 [rg [hF 0], rg [hA 3 b3.Kinds.length (List.map gi_Kind b3.Kinds)], r0] (by kernel_rfl) (P2 ((decide (t2 < t1)) = false) (decide_eq_false h1)<|P2 (AllFl (List.map gi_Kind b3.Kinds)) (allFl_199 _)<|P2 (b3.Kinds.length = ([] : List Gi_Kind).length + b3.Kinds.length) (by simp <;> omega)<|P2 ((([] : List Gi_Kind).length + b3.Kinds.length) * 56 ≤ 70368744177664) (by have := h2; simp at this ⊢ <;> omega)<|P2 (List.map gi_Kind ([] : List Gi_Kind) ++ List.map gi_Kind b3.Kinds = List.map gi_Kind b3.Kinds) (by simp)<|P0))
theorem ws_rOwn : ∀ s r, loop Bs_rOwn s = some r → Wc X 71 0 (Ks_rOwn s) (Zs_rOwn s) (Rs_rOwn r) ((fun _ => []) r) := Nx.all (ns_rOwn)
theorem cs_rOwn {a0 : Gi_Rules} {r : Gi_Rules} (H : Ds_rOwn a0 = some r) : Ct X.P X.gl 71 [gi_Rules a0] [] (Rs_rOwn r) [] :=
  Ct.of func71 (c := bdy f71) (by kernel_rfl) (by kernel_rfl) <|
  gO [r0, r0, r0, r0, .canon [0, 1, 2] [1, 2, 3, 9, 10, 11]] (by kernel_rfl) P0 (ws_rOwn _ _ H)
def Rs_mOwn (r : Gi_Map) : List D := [.agg [I r.Width, I r.Height, ow 1 I r.Terrain, ow 1 I r.Rivers, ow 1 I r.Roads]]
theorem cs_mOwn {a0 : Gi_Map} {r : Gi_Map} (H : Ds_mOwn a0 = some r) : Ct X.P X.gl 72 [gi_Map a0] [] (Rs_mOwn r) [] :=
  Ct.of func72 (c := bdy f72) (by kernel_rfl) (by kernel_rfl) <|
  eBind H fun r1 hr1 H =>
  eBind H fun r2 hr2 H =>
  eBind H fun r3 hr3 H =>
  eW Rs_mOwn (fun _ => []) H<|gE func72 [r0, rg [hC 6 true [] (Rs_l1Own r1) [], hC 9 true [] (Rs_l1Own r2) [], hC 12 true [] (Rs_l1Own r3) []]] (by kernel_rfl) (P1 (cs_l1Own hr1)<|P1 (cs_l1Own hr2)<|P1 (cs_l1Own hr3)<|P0)
def Rs_kOwn (r : Gi_CombatTable) : List D := [.agg [ow 2 gi_Odds r.Columns, I r.Dice, ow 1 (ow 1 I) r.Results]]
noncomputable def Ks_kOwn : Ss_kOwn → List Item
 | .h1 .. => nav 300 3 [] [.code (bdy f73)]
 | .h2 .. => nav 300 7 [true] [.code (bdy f73)]
def Zs_kOwn : Ss_kOwn → St
 | .h1 t0 t1 t2 b3 b4 l5 => ⟨sts 29 [(2, .ptr 0 3 0 0), (3, .ptr 1 3 0 0), (14, sl 1 (sl 1 I) t0), (15, I t1), (16, I t2)], [some ⟨false, true, 3, 1, [.agg [.nil, I b3, .nil]]⟩, some ⟨false, true, 3, 1, [.agg [.ref 2 2 none, I b4, .nil]]⟩, some ⟨false, false, 2, l5.length, List.map gi_Odds l5⟩]⟩
 | .h2 t0 t1 t2 b3 b4 l5 l6 => ⟨sts 29 [(2, .ptr 0 3 0 0), (3, .ptr 1 3 0 0), (14, sl 1 (sl 1 I) t0), (15, I t1), (16, I t2)], [some ⟨false, true, 3, 1, [.agg [.nil, I b3, .nil]]⟩, some ⟨false, true, 3, 1, [.agg [.ref 2 2 none, I b4, .ref 3 1 none]]⟩, some ⟨false, false, 2, l5.length, List.map gi_Odds l5⟩, some ⟨false, false, 1, l6.length, List.map (ow 1 I) l6⟩]⟩
abbrev Qs_kOwn := Nx X 73 0 Ks_kOwn Zs_kOwn Rs_kOwn (fun _ => [])
theorem ns_kOwn : ∀ s o, Bs_kOwn s = some o → Qs_kOwn (Ks_kOwn s) (Zs_kOwn s) o
 | .h1 t0 t1 t2 b3 b4 l5, o, H =>
  eIf H (fun h1 H =>
  eCk H fun h2 H =>
  eBind H fun x3 hx3 H =>
  eBind H fun r4 hr4 H =>
  eCk H fun h5 H =>
  eN H fun r hn => gO [rg [hT 0], rg [hE 1 ((sl 1 I) x3)], rg [hC 3 true [] (Rs_l1Own r4) [], { i := 4, post := [.put 4 0 0 3 (List.map (ow 1 I) [r4]), .own 4 1] }, hA 5 ([r4].length) (List.map (ow 1 I) [r4])], r0, .canon [0, 1, 2, 5] [2, 3, 14, 15, 16]] (by kernel_rfl) (P2 ((decide (t2 < t1)) = true) (decide_eq_true h1)<|P1 h2<|P1 (int_lt_of_at h2 hx3)<|P1 (at_map (sl 1 I) hx3)<|P1 (cs_l1Own hr4)<|P2 (getCells [.ref 3 1 none] 0 0 1 = some [.ref 3 1 none]) rfl<|P2 (setCells [.ref 3 1 none] 0 0 [ow 1 I r4] = List.map (ow 1 I) [r4]) rfl<|P1 (allOw_26 [r4])<|P2 ((1 : Nat) = 1) rfl<|P2 ([r4].length = 0 + [r4].length) (by simp <;> omega)<|P2 ((0 + [r4].length) * 24 ≤ 70368744177664) (by have := h5; simp at this ⊢ <;> omega)<|P2 (([] : List D) ++ List.map (ow 1 I) [r4] = List.map (ow 1 I) [r4]) (by simp)<|P0) hn)
  (fun h1 H =>
  eN H<|gE func73 [rg [hF 0], r0] (by kernel_rfl) (P2 ((decide (t2 < t1)) = false) (decide_eq_false h1)<|P0))
 | .h2 t0 t1 t2 b3 b4 l5 l6, o, H =>
  eIf H (fun h1 H =>
  eCk H fun h2 H =>
  eBind H fun x3 hx3 H =>
  eBind H fun r4 hr4 H =>
  eCk H fun h5 H =>
  eN H fun r hn => gO [rg [hT 0], rg [hE 1 ((sl 1 I) x3)], rg [hC 3 true [] (Rs_l1Own r4) [], { i := 4, post := [.put 5 0 0 4 (List.map (ow 1 I) [r4]), .own 5 1] }, hA 5 ((l6 ++ [r4]).length) (List.map (ow 1 I) (l6 ++ [r4]))], r0, .canon [0, 1, 2, 6] [2, 3, 14, 15, 16]] (by kernel_rfl) (P2 ((decide (t2 < t1)) = true) (decide_eq_true h1)<|P1 h2<|P1 (int_lt_of_at h2 hx3)<|P1 (at_map (sl 1 I) hx3)<|P1 (cs_l1Own hr4)<|P2 (getCells [.ref 4 1 none] 0 0 1 = some [.ref 4 1 none]) rfl<|P2 (setCells [.ref 4 1 none] 0 0 [ow 1 I r4] = List.map (ow 1 I) [r4]) rfl<|P1 (allOw_26 [r4])<|P2 ((1 : Nat) = 1) rfl<|P1 (apL l6 [r4])<|P1 (apB h5)<|P1 (apM (ow 1 I) l6 [r4])<|P0) hn)
  (fun h1 H =>
  eN H<|gE func73 [rg [hF 0], r0] (by kernel_rfl) (P2 ((decide (t2 < t1)) = false) (decide_eq_false h1)<|P0))
theorem ws_kOwn : ∀ s r, loop Bs_kOwn s = some r → Wc X 73 0 (Ks_kOwn s) (Zs_kOwn s) (Rs_kOwn r) ((fun _ => []) r) := Nx.all (ns_kOwn)
theorem cs_kOwn {a0 : Gi_CombatTable} {r : Gi_CombatTable} (H : Ds_kOwn a0 = some r) : Ct X.P X.gl 73 [gi_CombatTable a0] [] (Rs_kOwn r) [] :=
  Ct.of func73 (c := bdy f73) (by kernel_rfl) (by kernel_rfl) <|
  eCk H fun h1 H =>
  gO [r0, rg [hA 3 a0.Columns.length (List.map gi_Odds a0.Columns)], r0, .canon [1, 4, 3] [2, 3, 14, 15, 16]] (by kernel_rfl) (P2 (AllFl (List.map gi_Odds a0.Columns)) (allFl_163 _)<|P2 (a0.Columns.length = ([] : List Gi_Odds).length + a0.Columns.length) (by simp <;> omega)<|P2 ((([] : List Gi_Odds).length + a0.Columns.length) * 16 ≤ 70368744177664) (by have := h1; simp at this ⊢ <;> omega)<|P2 (List.map gi_Odds ([] : List Gi_Odds) ++ List.map gi_Odds a0.Columns = List.map gi_Odds a0.Columns) (by simp)<|P0) (ws_kOwn _ _ H)
def Rs_sOwn (r : Gi_State) : List D := [.agg [I r.Turn, I r.Weather, ow 4 gi_Unit r.Units]]
theorem cs_sOwn {a0 : Gi_State} {r : Gi_State} (H : Ds_sOwn a0 = some r) : Ct X.P X.gl 74 [gi_State a0] [] (Rs_sOwn r) [] :=
  Ct.of func74 (c := bdy f74) (by kernel_rfl) (by kernel_rfl) <|
  eCk H fun h1 H =>
  eW Rs_sOwn (fun _ => []) H<|gE func74 [r0, rg [hA 7 a0.Units.length (List.map gi_Unit a0.Units)]] (by kernel_rfl) (P2 (AllFl (List.map gi_Unit a0.Units)) (allFl_167 _)<|P2 (a0.Units.length = ([] : List Gi_Unit).length + a0.Units.length) (by simp <;> omega)<|P2 ((([] : List Gi_Unit).length + a0.Units.length) * 32 ≤ 70368744177664) (by have := h1; simp at this ⊢ <;> omega)<|P2 (List.map gi_Unit ([] : List Gi_Unit) ++ List.map gi_Unit a0.Units = List.map gi_Unit a0.Units) (by simp)<|P0)
def Rs_snOwn (r : Gi_Scenario) : List D := [.agg [.str r.Name, ow 5 goi_Terrain r.Board.Rules.Terrains, ow 6 gi_Kind r.Board.Rules.Kinds, I r.Board.Rules.Stack, I r.Board.Rules.River, I r.Board.Rules.Road, I r.Board.Rules.Supply, I r.Board.Rules.Turns, I r.Board.Map.Width, I r.Board.Map.Height, ow 1 I r.Board.Map.Terrain, ow 1 I r.Board.Map.Rivers, ow 1 I r.Board.Map.Roads, ow 2 gi_Odds r.Table.Columns, I r.Table.Dice, ow 1 (ow 1 I) r.Table.Results, I r.Start.Turn, I r.Start.Weather, ow 4 gi_Unit r.Start.Units, ow 2 gi_Goal r.Conditions.Goals, I r.Conditions.Step, I r.Conditions.Margin, ow 1 I r.First, ow 1 I r.Other]]
theorem cs_snOwn {a0 : Gi_Scenario} {r : Gi_Scenario} (H : Ds_snOwn a0 = some r) : Ct X.P X.gl 31 [gi_Scenario a0] [] (Rs_snOwn r) [] :=
  Ct.of func31 (c := bdy f31) (by kernel_rfl) (by kernel_rfl) <|
  eBind H fun r1 hr1 H =>
  eBind H fun r2 hr2 H =>
  eBind H fun r3 hr3 H =>
  eBind H fun r4 hr4 H =>
  eCk H fun h5 H =>
  eBind H fun r6 hr6 H =>
  eBind H fun r7 hr7 H =>
  eW Rs_snOwn (fun _ => []) H<|gE func31 [r0, r0, rg [hC 3 true [] (Rs_rOwn r1) [], hC 7 true [] (Rs_mOwn r2) []], rg [hC 2 true [] (Rs_kOwn r3) []], rg [hC 2 true [] (Rs_sOwn r4) []], rg [hA 4 a0.Conditions.Goals.length (List.map gi_Goal a0.Conditions.Goals)], rg [hC 2 true [] (Rs_l1Own r6) []], rg [hC 2 true [] (Rs_l1Own r7) []], r0] (by kernel_rfl) (P1 (cs_rOwn hr1)<|P1 (cs_mOwn hr2)<|P1 (cs_kOwn hr3)<|P1 (cs_sOwn hr4)<|P2 (AllFl (List.map gi_Goal a0.Conditions.Goals)) (allFl_171 _)<|P2 (a0.Conditions.Goals.length = ([] : List Gi_Goal).length + a0.Conditions.Goals.length) (by simp <;> omega)<|P2 ((([] : List Gi_Goal).length + a0.Conditions.Goals.length) * 16 ≤ 70368744177664) (by have := h5; simp at this ⊢ <;> omega)<|P2 (List.map gi_Goal ([] : List Gi_Goal) ++ List.map gi_Goal a0.Conditions.Goals = List.map gi_Goal a0.Conditions.Goals) (by simp)<|P1 (cs_l1Own hr6)<|P1 (cs_l1Own hr7)<|P0)
def Rs_svClimate (r : Gi_Climate) : List D := [.agg [ow 1 (ow 1 I) r.Weights]]
noncomputable def Ks_svClimate : Ss_svClimate → List Item
 | .h1 .. => nav 300 3 [] [.code (bdy f32)]
 | .h2 .. => nav 300 7 [true] [.code (bdy f32)]
def Zs_svClimate : Ss_svClimate → St
 | .h1 t0 t1 t2 => ⟨sts 23 [(2, .ptr 0 1 0 0), (3, .ptr 1 1 0 0), (8, sl 1 (sl 1 I) t0), (9, I t1), (10, I t2)], [some ⟨false, true, 1, 1, [.agg [.nil]]⟩, some ⟨false, true, 1, 1, [.agg [.nil]]⟩]⟩
 | .h2 t0 t1 t2 l3 => ⟨sts 23 [(2, .ptr 0 1 0 0), (3, .ptr 1 1 0 0), (8, sl 1 (sl 1 I) t0), (9, I t1), (10, I t2)], [some ⟨false, true, 1, 1, [.agg [.nil]]⟩, some ⟨false, true, 1, 1, [.agg [.ref 2 1 none]]⟩, some ⟨false, false, 1, l3.length, List.map (ow 1 I) l3⟩]⟩
abbrev Qs_svClimate := Nx X 32 0 Ks_svClimate Zs_svClimate Rs_svClimate (fun _ => [])
theorem ns_svClimate : ∀ s o, Bs_svClimate s = some o → Qs_svClimate (Ks_svClimate s) (Zs_svClimate s) o
 | .h1 t0 t1 t2, o, H =>
  eIf H (fun h1 H =>
  eCk H fun h2 H =>
  eBind H fun x3 hx3 H =>
  eBind H fun r4 hr4 H =>
  eCk H fun h5 H =>
  eN H fun r hn => gO [rg [hT 0], rg [hE 1 ((sl 1 I) x3)], rg [hC 3 true [] (Rs_l1Own r4) [], { i := 4, post := [.put 3 0 0 2 (List.map (ow 1 I) [r4]), .own 3 1] }, hA 5 ([r4].length) (List.map (ow 1 I) [r4])], r0, .canon [0, 1, 4] [2, 3, 8, 9, 10]] (by kernel_rfl) (P2 ((decide (t2 < t1)) = true) (decide_eq_true h1)<|P1 h2<|P1 (int_lt_of_at h2 hx3)<|P1 (at_map (sl 1 I) hx3)<|P1 (cs_l1Own hr4)<|P2 (getCells [.ref 2 1 none] 0 0 1 = some [.ref 2 1 none]) rfl<|P2 (setCells [.ref 2 1 none] 0 0 [ow 1 I r4] = List.map (ow 1 I) [r4]) rfl<|P1 (allOw_26 [r4])<|P2 ((1 : Nat) = 1) rfl<|P2 ([r4].length = 0 + [r4].length) (by simp <;> omega)<|P2 ((0 + [r4].length) * 24 ≤ 70368744177664) (by have := h5; simp at this ⊢ <;> omega)<|P2 (([] : List D) ++ List.map (ow 1 I) [r4] = List.map (ow 1 I) [r4]) (by simp)<|P0) hn)
  (fun h1 H =>
  eN H<|gE func32 [rg [hF 0], r0] (by kernel_rfl) (P2 ((decide (t2 < t1)) = false) (decide_eq_false h1)<|P0))
 | .h2 t0 t1 t2 l3, o, H =>
  eIf H (fun h1 H =>
  eCk H fun h2 H =>
  eBind H fun x3 hx3 H =>
  eBind H fun r4 hr4 H =>
  eCk H fun h5 H =>
  eN H fun r hn => gO [rg [hT 0], rg [hE 1 ((sl 1 I) x3)], rg [hC 3 true [] (Rs_l1Own r4) [], { i := 4, post := [.put 4 0 0 3 (List.map (ow 1 I) [r4]), .own 4 1] }, hA 5 ((l3 ++ [r4]).length) (List.map (ow 1 I) (l3 ++ [r4]))], r0, .canon [0, 1, 5] [2, 3, 8, 9, 10]] (by kernel_rfl) (P2 ((decide (t2 < t1)) = true) (decide_eq_true h1)<|P1 h2<|P1 (int_lt_of_at h2 hx3)<|P1 (at_map (sl 1 I) hx3)<|P1 (cs_l1Own hr4)<|P2 (getCells [.ref 3 1 none] 0 0 1 = some [.ref 3 1 none]) rfl<|P2 (setCells [.ref 3 1 none] 0 0 [ow 1 I r4] = List.map (ow 1 I) [r4]) rfl<|P1 (allOw_26 [r4])<|P2 ((1 : Nat) = 1) rfl<|P1 (apL l3 [r4])<|P1 (apB h5)<|P1 (apM (ow 1 I) l3 [r4])<|P0) hn)
  (fun h1 H =>
  eN H<|gE func32 [rg [hF 0], r0] (by kernel_rfl) (P2 ((decide (t2 < t1)) = false) (decide_eq_false h1)<|P0))
theorem ws_svClimate : ∀ s r, loop Bs_svClimate s = some r → Wc X 32 0 (Ks_svClimate s) (Zs_svClimate s) (Rs_svClimate r) ((fun _ => []) r) := Nx.all (ns_svClimate)
theorem cs_svClimate {a0 : Gi_Climate} {r : Gi_Climate} (H : Ds_svClimate a0 = some r) : Ct X.P X.gl 32 [.agg [sl 1 (sl 1 I) a0.Weights]] [] (Rs_svClimate r) [] :=
  Ct.of func32 (c := bdy f32) (by kernel_rfl) (by kernel_rfl) <|
  gO [r0, r0, r0, .canon [1, 2] [2, 3, 8, 9, 10]] (by kernel_rfl) P0 (ws_svClimate _ _ H)
def Rs_oOwn (r : Gi_Order) : List D := [.agg [I r.Unit, ow 1 I r.Path, I r.Attack]]
theorem cs_oOwn {a0 : Gi_Order} {r : Gi_Order} (H : Ds_oOwn a0 = some r) : Ct X.P X.gl 137 [gi_Order a0] [] (Rs_oOwn r) [] :=
  Ct.of func137 (c := bdy f137) (by kernel_rfl) (by kernel_rfl) <|
  eBind H fun r1 hr1 H =>
  eW Rs_oOwn (fun _ => []) H<|gE func137 [r0, rg [hC 4 true [] (Rs_l1Own r1) []]] (by kernel_rfl) (P1 (cs_l1Own hr1)<|P0)
def Rs_oSheet (r : Gi_Sheet) : List D := [.agg [I r.Side, ow 3 goi_Order r.Orders]]
noncomputable def Ks_oSheet : Ss_oSheet → List Item
 | .h1 .. => nav 300 3 [] [.code (bdy f102)]
 | .h2 .. => nav 300 7 [true] [.code (bdy f102)]
def Zs_oSheet : Ss_oSheet → St
 | .h1 t0 t1 t2 b3 b4 => ⟨sts 25 [(2, .ptr 0 2 0 0), (3, .ptr 1 2 0 0), (10, sl 3 gi_Order t0), (11, I t1), (12, I t2)], [some ⟨false, true, 2, 1, [.agg [I b3, .nil]]⟩, some ⟨false, true, 2, 1, [.agg [I b4, .nil]]⟩]⟩
 | .h2 t0 t1 t2 b3 b4 l5 => ⟨sts 25 [(2, .ptr 0 2 0 0), (3, .ptr 1 2 0 0), (10, sl 3 gi_Order t0), (11, I t1), (12, I t2)], [some ⟨false, true, 2, 1, [.agg [I b3, .nil]]⟩, some ⟨false, true, 2, 1, [.agg [I b4, .ref 2 3 none]]⟩, some ⟨false, false, 3, l5.length, List.map goi_Order l5⟩]⟩
abbrev Qs_oSheet := Nx X 102 0 Ks_oSheet Zs_oSheet Rs_oSheet (fun _ => [])
theorem ns_oSheet : ∀ s o, Bs_oSheet s = some o → Qs_oSheet (Ks_oSheet s) (Zs_oSheet s) o
 | .h1 t0 t1 t2 b3 b4, o, H =>
  eIf H (fun h1 H =>
  eCk H fun h2 H =>
  eBind H fun x3 hx3 H =>
  eBind H fun r4 hr4 H =>
  eCk H fun h5 H =>
  eN H fun r hn => gO [rg [hT 0], rg [hE 1 (gi_Order x3)], rg [hC 3 true [] (Rs_oOwn r4) [], { i := 4, post := [.put 5 0 1 4 (List.map goi_Order [r4]), .own 5 1] }, hA 5 ([r4].length) (List.map goi_Order [r4])], r0, .canon [0, 1, 6] [2, 3, 10, 11, 12]] (by kernel_rfl) (P2 ((decide (t2 < t1)) = true) (decide_eq_true h1)<|P1 h2<|P1 (int_lt_of_at h2 hx3)<|P1 (at_map gi_Order hx3)<|P1 (cs_oOwn hr4)<|P2 (getCells [.agg [I r4.Unit, .ref 4 1 none, I r4.Attack]] 0 1 1 = some [.ref 4 1 none]) rfl<|P2 (setCells [.agg [I r4.Unit, .ref 4 1 none, I r4.Attack]] 0 1 [ow 1 I r4.Path] = List.map goi_Order [r4]) rfl<|P1 (allOw_189 [r4])<|P2 ((1 : Nat) = 1) rfl<|P2 ([r4].length = 0 + [r4].length) (by simp <;> omega)<|P2 ((0 + [r4].length) * 40 ≤ 70368744177664) (by have := h5; simp at this ⊢ <;> omega)<|P2 (([] : List D) ++ List.map goi_Order [r4] = List.map goi_Order [r4]) (by simp)<|P0) hn)
  (fun h1 H =>
  eN H<|gE func102 [rg [hF 0], r0] (by kernel_rfl) (P2 ((decide (t2 < t1)) = false) (decide_eq_false h1)<|P0))
 | .h2 t0 t1 t2 b3 b4 l5, o, H =>
  eIf H (fun h1 H =>
  eCk H fun h2 H =>
  eBind H fun x3 hx3 H =>
  eBind H fun r4 hr4 H =>
  eCk H fun h5 H =>
  eN H fun r hn => gO [rg [hT 0], rg [hE 1 (gi_Order x3)], rg [hC 3 true [] (Rs_oOwn r4) [], { i := 4, post := [.put 6 0 1 5 (List.map goi_Order [r4]), .own 6 1] }, hA 5 ((l5 ++ [r4]).length) (List.map goi_Order (l5 ++ [r4]))], r0, .canon [0, 1, 7] [2, 3, 10, 11, 12]] (by kernel_rfl) (P2 ((decide (t2 < t1)) = true) (decide_eq_true h1)<|P1 h2<|P1 (int_lt_of_at h2 hx3)<|P1 (at_map gi_Order hx3)<|P1 (cs_oOwn hr4)<|P2 (getCells [.agg [I r4.Unit, .ref 5 1 none, I r4.Attack]] 0 1 1 = some [.ref 5 1 none]) rfl<|P2 (setCells [.agg [I r4.Unit, .ref 5 1 none, I r4.Attack]] 0 1 [ow 1 I r4.Path] = List.map goi_Order [r4]) rfl<|P1 (allOw_189 [r4])<|P2 ((1 : Nat) = 1) rfl<|P1 (apL l5 [r4])<|P1 (apB h5)<|P1 (apM goi_Order l5 [r4])<|P0) hn)
  (fun h1 H =>
  eN H<|gE func102 [rg [hF 0], r0] (by kernel_rfl) (P2 ((decide (t2 < t1)) = false) (decide_eq_false h1)<|P0))
theorem ws_oSheet : ∀ s r, loop Bs_oSheet s = some r → Wc X 102 0 (Ks_oSheet s) (Zs_oSheet s) (Rs_oSheet r) ((fun _ => []) r) := Nx.all (ns_oSheet)
theorem cs_oSheet {a0 : Gi_Sheet} {r : Gi_Sheet} (H : Ds_oSheet a0 = some r) : Ct X.P X.gl 102 [gi_Sheet a0] [] (Rs_oSheet r) [] :=
  Ct.of func102 (c := bdy f102) (by kernel_rfl) (by kernel_rfl) <|
  gO [r0, r0, r0, .canon [1, 2] [2, 3, 10, 11, 12]] (by kernel_rfl) P0 (ws_oSheet _ _ H)
def Rs_svOwn (r : Gi_Save) : List D := [.agg [.str r.Scenario.Name, ow 5 goi_Terrain r.Scenario.Board.Rules.Terrains, ow 6 gi_Kind r.Scenario.Board.Rules.Kinds, I r.Scenario.Board.Rules.Stack, I r.Scenario.Board.Rules.River, I r.Scenario.Board.Rules.Road, I r.Scenario.Board.Rules.Supply, I r.Scenario.Board.Rules.Turns, I r.Scenario.Board.Map.Width, I r.Scenario.Board.Map.Height, ow 1 I r.Scenario.Board.Map.Terrain, ow 1 I r.Scenario.Board.Map.Rivers, ow 1 I r.Scenario.Board.Map.Roads, ow 2 gi_Odds r.Scenario.Table.Columns, I r.Scenario.Table.Dice, ow 1 (ow 1 I) r.Scenario.Table.Results, I r.Scenario.Start.Turn, I r.Scenario.Start.Weather, ow 4 gi_Unit r.Scenario.Start.Units, ow 2 gi_Goal r.Scenario.Conditions.Goals, I r.Scenario.Conditions.Step, I r.Scenario.Conditions.Margin, ow 1 I r.Scenario.First, ow 1 I r.Scenario.Other, ow 1 (ow 1 I) r.Climate.Weights, ow 5 goi_SavedTurn r.Turns]]
noncomputable def Ks_svOwn : Ss_svOwn → List Item
 | .h1 .. => nav 300 3 [] [.code (bdy f58)]
 | .h2 .. => nav 300 7 [true] [.code (bdy f58)]
def Zs_svOwn : Ss_svOwn → St
 | .h1 t0 t1 t2 b3 b4 b5 b6 b7 b8 b9 b10 b11 b12 b13 b14 b15 b16 b17 b18 b19 b20 b21 b22 b23 b24 b25 b26 b27 b28 l29 l30 l31 l32 l33 l34 l35 l36 l37 l38 l39 l40 => ⟨sts 40 [(4, .ptr 0 26 0 0), (5, .ptr 1 26 0 0), (18, sl 5 gi_SavedTurn t0), (19, I t1), (20, I t2)], [some ⟨false, true, 26, 1, [.agg [.str b3, .nil, .nil, I b4, I b5, I b6, I b7, I b8, I b9, I b10, .nil, .nil, .nil, .nil, I b11, .nil, I b12, I b13, .nil, .nil, I b14, I b15, .nil, .nil, .nil, .nil]]⟩, some ⟨false, true, 26, 1, [.agg [.str b16, .ref 2 5 none, .ref 3 6 none, I b17, I b18, I b19, I b20, I b21, I b22, I b23, .ref 4 1 none, .ref 5 1 none, .ref 6 1 none, .ref 7 2 none, I b24, .ref 8 1 none, I b25, I b26, .ref 9 4 none, .ref 10 2 none, I b27, I b28, .ref 11 1 none, .ref 12 1 none, .ref 13 1 none, .nil]]⟩, some ⟨false, false, 5, l29.length, List.map goi_Terrain l29⟩, some ⟨false, false, 6, l30.length, List.map gi_Kind l30⟩, some ⟨false, false, 1, l31.length, List.map I l31⟩, some ⟨false, false, 1, l32.length, List.map I l32⟩, some ⟨false, false, 1, l33.length, List.map I l33⟩, some ⟨false, false, 2, l34.length, List.map gi_Odds l34⟩, some ⟨false, false, 1, l35.length, List.map (ow 1 I) l35⟩, some ⟨false, false, 4, l36.length, List.map gi_Unit l36⟩, some ⟨false, false, 2, l37.length, List.map gi_Goal l37⟩, some ⟨false, false, 1, l38.length, List.map I l38⟩, some ⟨false, false, 1, l39.length, List.map I l39⟩, some ⟨false, false, 1, l40.length, List.map (ow 1 I) l40⟩]⟩
 | .h2 t0 t1 t2 b3 b4 b5 b6 b7 b8 b9 b10 b11 b12 b13 b14 b15 b16 b17 b18 b19 b20 b21 b22 b23 b24 b25 b26 b27 b28 l29 l30 l31 l32 l33 l34 l35 l36 l37 l38 l39 l40 l41 => ⟨sts 40 [(4, .ptr 0 26 0 0), (5, .ptr 1 26 0 0), (18, sl 5 gi_SavedTurn t0), (19, I t1), (20, I t2)], [some ⟨false, true, 26, 1, [.agg [.str b3, .nil, .nil, I b4, I b5, I b6, I b7, I b8, I b9, I b10, .nil, .nil, .nil, .nil, I b11, .nil, I b12, I b13, .nil, .nil, I b14, I b15, .nil, .nil, .nil, .nil]]⟩, some ⟨false, true, 26, 1, [.agg [.str b16, .ref 2 5 none, .ref 3 6 none, I b17, I b18, I b19, I b20, I b21, I b22, I b23, .ref 4 1 none, .ref 5 1 none, .ref 6 1 none, .ref 7 2 none, I b24, .ref 8 1 none, I b25, I b26, .ref 9 4 none, .ref 10 2 none, I b27, I b28, .ref 11 1 none, .ref 12 1 none, .ref 13 1 none, .ref 14 5 none]]⟩, some ⟨false, false, 5, l29.length, List.map goi_Terrain l29⟩, some ⟨false, false, 6, l30.length, List.map gi_Kind l30⟩, some ⟨false, false, 1, l31.length, List.map I l31⟩, some ⟨false, false, 1, l32.length, List.map I l32⟩, some ⟨false, false, 1, l33.length, List.map I l33⟩, some ⟨false, false, 2, l34.length, List.map gi_Odds l34⟩, some ⟨false, false, 1, l35.length, List.map (ow 1 I) l35⟩, some ⟨false, false, 4, l36.length, List.map gi_Unit l36⟩, some ⟨false, false, 2, l37.length, List.map gi_Goal l37⟩, some ⟨false, false, 1, l38.length, List.map I l38⟩, some ⟨false, false, 1, l39.length, List.map I l39⟩, some ⟨false, false, 1, l40.length, List.map (ow 1 I) l40⟩, some ⟨false, false, 5, l41.length, List.map goi_SavedTurn l41⟩]⟩
abbrev Qs_svOwn := Nx X 58 0 Ks_svOwn Zs_svOwn Rs_svOwn (fun _ => [])
theorem ns_svOwn : ∀ s o, Bs_svOwn s = some o → Qs_svOwn (Ks_svOwn s) (Zs_svOwn s) o
 | .h1 t0 t1 t2 b3 b4 b5 b6 b7 b8 b9 b10 b11 b12 b13 b14 b15 b16 b17 b18 b19 b20 b21 b22 b23 b24 b25 b26 b27 b28 l29 l30 l31 l32 l33 l34 l35 l36 l37 l38 l39 l40, o, H =>
  eIf H (fun h1 H =>
  eCk H fun h2 H =>
  eBind H fun x3 hx3 H =>
  eBind H fun r4 hr4 H =>
  eBind H fun r5 hr5 H =>
  eCk H fun h6 H =>
  eN H fun r hn => gO [rg [hT 0], rg [hE 1 (gi_SavedTurn x3)], rg [hC 6 true [] (Rs_oSheet r4) [], hC 9 true [] (Rs_oSheet r5) [], { i := 11, post := [.put 19 0 2 16 ([.agg [I x3.Seed, I r4.Side, ow 3 goi_Order r4.Orders, I r5.Side, .ref 18 3 none]]), .put 19 0 4 18 (List.map goi_SavedTurn [(Gi_SavedTurn.mk x3.Seed r4 r5)]), .own 19 1] }, hA 12 ([(Gi_SavedTurn.mk x3.Seed r4 r5)].length) (List.map goi_SavedTurn [(Gi_SavedTurn.mk x3.Seed r4 r5)])], r0, .canon [0, 1, 2, 3, 4, 5, 6, 7, 8, 9, 10, 11, 12, 13, 20] [4, 5, 18, 19, 20]] (by kernel_rfl) (P2 ((decide (t2 < t1)) = true) (decide_eq_true h1)<|P1 h2<|P1 (int_lt_of_at h2 hx3)<|P1 (at_map gi_SavedTurn hx3)<|P1 (cs_oSheet hr4)<|P1 (cs_oSheet hr5)<|P2 (getCells [.agg [I x3.Seed, I r4.Side, .ref 16 3 none, I r5.Side, .ref 18 3 none]] 0 2 1 = some [.ref 16 3 none]) rfl<|P2 (setCells [.agg [I x3.Seed, I r4.Side, .ref 16 3 none, I r5.Side, .ref 18 3 none]] 0 2 [ow 3 goi_Order r4.Orders] = [.agg [I x3.Seed, I r4.Side, ow 3 goi_Order r4.Orders, I r5.Side, .ref 18 3 none]]) rfl<|P2 (getCells [.agg [I x3.Seed, I r4.Side, ow 3 goi_Order r4.Orders, I r5.Side, .ref 18 3 none]] 0 4 1 = some [.ref 18 3 none]) rfl<|P2 (setCells [.agg [I x3.Seed, I r4.Side, ow 3 goi_Order r4.Orders, I r5.Side, .ref 18 3 none]] 0 4 [ow 3 goi_Order r5.Orders] = List.map goi_SavedTurn [(Gi_SavedTurn.mk x3.Seed r4 r5)]) rfl<|P1 (allOw_150 [(Gi_SavedTurn.mk x3.Seed r4 r5)])<|P2 ((1 : Nat) = 1) rfl<|P2 ([(Gi_SavedTurn.mk x3.Seed r4 r5)].length = 0 + [(Gi_SavedTurn.mk x3.Seed r4 r5)].length) (by simp <;> omega)<|P2 ((0 + [(Gi_SavedTurn.mk x3.Seed r4 r5)].length) * 72 ≤ 70368744177664) (by have := h6; simp at this ⊢ <;> omega)<|P2 (([] : List D) ++ List.map goi_SavedTurn [(Gi_SavedTurn.mk x3.Seed r4 r5)] = List.map goi_SavedTurn [(Gi_SavedTurn.mk x3.Seed r4 r5)]) (by simp)<|P0) hn)
  (fun h1 H =>
  eN H<|gE func58 [rg [hF 0], r0] (by kernel_rfl) (P2 ((decide (t2 < t1)) = false) (decide_eq_false h1)<|P0))
 | .h2 t0 t1 t2 b3 b4 b5 b6 b7 b8 b9 b10 b11 b12 b13 b14 b15 b16 b17 b18 b19 b20 b21 b22 b23 b24 b25 b26 b27 b28 l29 l30 l31 l32 l33 l34 l35 l36 l37 l38 l39 l40 l41, o, H =>
  eIf H (fun h1 H =>
  eCk H fun h2 H =>
  eBind H fun x3 hx3 H =>
  eBind H fun r4 hr4 H =>
  eBind H fun r5 hr5 H =>
  eCk H fun h6 H =>
  eN H fun r hn => gO [rg [hT 0], rg [hE 1 (gi_SavedTurn x3)], rg [hC 6 true [] (Rs_oSheet r4) [], hC 9 true [] (Rs_oSheet r5) [], { i := 11, post := [.put 20 0 2 17 ([.agg [I x3.Seed, I r4.Side, ow 3 goi_Order r4.Orders, I r5.Side, .ref 19 3 none]]), .put 20 0 4 19 (List.map goi_SavedTurn [(Gi_SavedTurn.mk x3.Seed r4 r5)]), .own 20 1] }, hA 12 ((l41 ++ [(Gi_SavedTurn.mk x3.Seed r4 r5)]).length) (List.map goi_SavedTurn (l41 ++ [(Gi_SavedTurn.mk x3.Seed r4 r5)]))], r0, .canon [0, 1, 2, 3, 4, 5, 6, 7, 8, 9, 10, 11, 12, 13, 21] [4, 5, 18, 19, 20]] (by kernel_rfl) (P2 ((decide (t2 < t1)) = true) (decide_eq_true h1)<|P1 h2<|P1 (int_lt_of_at h2 hx3)<|P1 (at_map gi_SavedTurn hx3)<|P1 (cs_oSheet hr4)<|P1 (cs_oSheet hr5)<|P2 (getCells [.agg [I x3.Seed, I r4.Side, .ref 17 3 none, I r5.Side, .ref 19 3 none]] 0 2 1 = some [.ref 17 3 none]) rfl<|P2 (setCells [.agg [I x3.Seed, I r4.Side, .ref 17 3 none, I r5.Side, .ref 19 3 none]] 0 2 [ow 3 goi_Order r4.Orders] = [.agg [I x3.Seed, I r4.Side, ow 3 goi_Order r4.Orders, I r5.Side, .ref 19 3 none]]) rfl<|P2 (getCells [.agg [I x3.Seed, I r4.Side, ow 3 goi_Order r4.Orders, I r5.Side, .ref 19 3 none]] 0 4 1 = some [.ref 19 3 none]) rfl<|P2 (setCells [.agg [I x3.Seed, I r4.Side, ow 3 goi_Order r4.Orders, I r5.Side, .ref 19 3 none]] 0 4 [ow 3 goi_Order r5.Orders] = List.map goi_SavedTurn [(Gi_SavedTurn.mk x3.Seed r4 r5)]) rfl<|P1 (allOw_150 [(Gi_SavedTurn.mk x3.Seed r4 r5)])<|P2 ((1 : Nat) = 1) rfl<|P1 (apL l41 [(Gi_SavedTurn.mk x3.Seed r4 r5)])<|P1 (apB h6)<|P1 (apM goi_SavedTurn l41 [(Gi_SavedTurn.mk x3.Seed r4 r5)])<|P0) hn)
  (fun h1 H =>
  eN H<|gE func58 [rg [hF 0], r0] (by kernel_rfl) (P2 ((decide (t2 < t1)) = false) (decide_eq_false h1)<|P0))
theorem ws_svOwn : ∀ s r, loop Bs_svOwn s = some r → Wc X 58 0 (Ks_svOwn s) (Zs_svOwn s) (Rs_svOwn r) ((fun _ => []) r) := Nx.all (ns_svOwn)
theorem cs_svOwn {a0 : Gi_Save} {a1 : Int} {r : Gi_Save} (H : Ds_svOwn a0 a1 = some r) : Ct X.P X.gl 58 [gi_Save a0, I a1] [] (Rs_svOwn r) [] :=
  Ct.of func58 (c := bdy f58) (by kernel_rfl) (by kernel_rfl) <|
  eBind H fun r1 hr1 H =>
  eBind H fun r2 hr2 H =>
  eCk H fun h3 H =>
  eCk H fun h4 H =>
  gO [r0, rg [hC 2 true [] (Rs_snOwn r1) [], hC 5 true [] (Rs_svClimate r2) []], rg [hA 3 ((List.take ((Int.toNat a1) - 0) (List.drop 0 a0.Turns)).length) (List.map gi_SavedTurn (List.take ((Int.toNat a1) - 0) (List.drop 0 a0.Turns)))], .canon [1, 27, 3, 4, 12, 13, 14, 15, 17, 20, 21, 24, 25, 26] [4, 5, 18, 19, 20]] (by kernel_rfl) (P1 (cs_snOwn hr1)<|P1 (cs_svClimate hr2)<|P2 ((0 : Int) ≤ a1) h3<|P2 ((a1 : Int) ≤ ((a0.Turns.length : Nat) : Int)) h4<|P2 ((List.take ((Int.toNat a1) - 0) (List.drop 0 a0.Turns)).length = (Int.toNat a1) - 0) (by simp <;> omega)<|P2 (List.take ((Int.toNat a1) - 0) (List.drop 0 (List.map gi_SavedTurn a0.Turns)) = List.map gi_SavedTurn (List.take ((Int.toNat a1) - 0) (List.drop 0 a0.Turns))) (by simp [List.map_drop, List.map_take])<|P0) (ws_svOwn _ _ H)
def Rs_NewSave (r : Gi_Save × Bool) : List D := [.agg [.str r.1.Scenario.Name, ow 5 goi_Terrain r.1.Scenario.Board.Rules.Terrains, ow 6 gi_Kind r.1.Scenario.Board.Rules.Kinds, I r.1.Scenario.Board.Rules.Stack, I r.1.Scenario.Board.Rules.River, I r.1.Scenario.Board.Rules.Road, I r.1.Scenario.Board.Rules.Supply, I r.1.Scenario.Board.Rules.Turns, I r.1.Scenario.Board.Map.Width, I r.1.Scenario.Board.Map.Height, ow 1 I r.1.Scenario.Board.Map.Terrain, ow 1 I r.1.Scenario.Board.Map.Rivers, ow 1 I r.1.Scenario.Board.Map.Roads, ow 2 gi_Odds r.1.Scenario.Table.Columns, I r.1.Scenario.Table.Dice, ow 1 (ow 1 I) r.1.Scenario.Table.Results, I r.1.Scenario.Start.Turn, I r.1.Scenario.Start.Weather, ow 4 gi_Unit r.1.Scenario.Start.Units, ow 2 gi_Goal r.1.Scenario.Conditions.Goals, I r.1.Scenario.Conditions.Step, I r.1.Scenario.Conditions.Margin, ow 1 I r.1.Scenario.First, ow 1 I r.1.Scenario.Other, ow 1 (ow 1 I) r.1.Climate.Weights, ow 5 goi_SavedTurn r.1.Turns], .bool r.2]
theorem cs_NewSave {a0 : Gi_Scenario} {a1 : Gi_Climate} {r : Gi_Save × Bool} (H : Ds_NewSave a0 a1 = some r) : Ct X.P X.gl 18 [gi_Scenario a0, .agg [sl 1 (sl 1 I) a1.Weights]] [] (Rs_NewSave r) [] :=
  Ct.of func18 (c := bdy f18) (by kernel_rfl) (by kernel_rfl) <|
  eBind H fun r1 hr1 H =>
  gS [r0] (by kernel_rfl) P0 <|
  eIf H (fun h2 H =>
  eBind H fun r3 hr3 H =>
  eW Rs_NewSave (fun _ => []) H<|gE func18 [rg [{ i := 2, call := some { cl := true, auto := true, ins := [], res := (RB r1), G' := [] }, dec := some true }], rg [{ i := 3, call := some { cl := true, ins := [], args := [.agg [.str a0.Name, sl 5 gi_Terrain a0.Board.Rules.Terrains, sl 6 gi_Kind a0.Board.Rules.Kinds, I a0.Board.Rules.Stack, I a0.Board.Rules.River, I a0.Board.Rules.Road, I a0.Board.Rules.Supply, I a0.Board.Rules.Turns, I a0.Board.Map.Width, I a0.Board.Map.Height, sl 1 I a0.Board.Map.Terrain, sl 1 I a0.Board.Map.Rivers, sl 1 I a0.Board.Map.Roads, sl 2 gi_Odds a0.Table.Columns, I a0.Table.Dice, sl 1 (sl 1 I) a0.Table.Results, I a0.Start.Turn, I a0.Start.Weather, sl 4 gi_Unit a0.Start.Units, sl 2 gi_Goal a0.Conditions.Goals, I a0.Conditions.Step, I a0.Conditions.Margin, sl 1 I a0.First, sl 1 I a0.Other, sl 1 (sl 1 I) a1.Weights, sl 5 gi_SavedTurn []], I 0], res := Rs_svOwn r3, G' := [] } }]] (by kernel_rfl) (P1 (cs_svBase hr1)<|P2 (r1 = true) (h2)<|PI a0.Name<|PL gi_Terrain a0.Board.Rules.Terrains<|PL gi_Kind a0.Board.Rules.Kinds<|PI a0.Board.Rules.Stack<|PI a0.Board.Rules.River<|PI a0.Board.Rules.Road<|PI a0.Board.Rules.Supply<|PI a0.Board.Rules.Turns<|PI a0.Board.Map.Width<|PI a0.Board.Map.Height<|PL I a0.Board.Map.Terrain<|PL I a0.Board.Map.Rivers<|PL I a0.Board.Map.Roads<|PL gi_Odds a0.Table.Columns<|PI a0.Table.Dice<|PL (sl 1 I) a0.Table.Results<|PI a0.Start.Turn<|PI a0.Start.Weather<|PL gi_Unit a0.Start.Units<|PL gi_Goal a0.Conditions.Goals<|PI a0.Conditions.Step<|PI a0.Conditions.Margin<|PL I a0.First<|PL I a0.Other<|PL (sl 1 I) a1.Weights<|PI (0 : Nat)<|PI ([] : List D)<|PI (0 : Int)<|P1 (cs_svOwn hr3)<|P0))
  (fun h2 H =>
  eW Rs_NewSave (fun _ => []) H<|gE func18 [rg [{ i := 2, call := some { cl := true, auto := true, ins := [], res := (RB r1), G' := [] }, dec := some false }], r0] (by kernel_rfl) (P1 (cs_svBase hr1)<|P2 (r1 = false) (eqF h2)<|P0))
theorem ci_inRange {a0 : Int} {a1 : Int} {a2 : Int} {r : Bool} (H : Di_inRange a0 a1 a2 = some r) : Ct X.P X.gl 83 [I a0, I a1, I a2] [] (RB r) [] :=
  Ct.of func83 (c := bdy f83) (by kernel_rfl) (by kernel_rfl) <|
  gS [r0] (by kernel_rfl) P0 <|
  eIf H (fun h1 H =>
  eW RB (fun _ => []) H<|gE func83 [rg [hT 2]] (by kernel_rfl) (P2 ((decide (a1 ≤ a0)) = true) (decide_eq_true h1)<|P0))
  (fun h1 H =>
  eW RB (fun _ => []) H<|gE func83 [rg [hF 2]] (by kernel_rfl) (P2 ((decide (a1 ≤ a0)) = false) (decide_eq_false h1)<|P0))
noncomputable def Ki_isName : Si_isName → List Item
 | .h1 .. => nav 300 2 [] [.code (bdy f119)]
def Zi_isName : Si_isName → St
 | .h1 s0 i1 => ⟨sts 23 [(0, .str s0), (3, I i1)], []⟩
abbrev Qi_isName := Nx X 119 0 Ki_isName Zi_isName RB (fun _ => [])
theorem ni_isName : ∀ s o, Bi_isName s = some o → Qi_isName (Ki_isName s) (Zi_isName s) o
 | .h1 s0 i1, o, H =>
  eIf H (fun h1 H =>
  eCk H fun h2 H =>
  eCk H fun h3 H =>
  gN [rg [hT 3]] (by kernel_rfl) (P2 ((decide (i1 < ((ByteArray.size s0 : Nat) : Int))) = true) (decide_eq_true h1)<|P0) <|
  eIf H (fun h4 H =>
  eN H<|gE func119 [rg [{ i := 2, n := byteAt s0 (Int.toNat i1) }, hT 3], r0] (by kernel_rfl) (P2 ((0 : Int) ≤ i1) h2<|P2 (i1 < (ByteArray.size s0 : Int)) h3<|P2 ((s0.data.toList[(Int.toNat i1)]?.map fun b => (b.toNat : Int)) = some ((byteAt s0 (Int.toNat i1) : Nat) : Int)) (byteAt_ok (by omega))<|P2 ((decide (((byteAt s0 (Int.toNat i1) : Nat) : Int) < 97)) = true) (decide_eq_true h4)<|P0))
  (fun h4 H =>
  eCk H fun h5 H =>
  eCk H fun h6 H =>
  eIf H (fun h7 H =>
  eN H<|gE func119 [rg [{ i := 2, n := byteAt s0 (Int.toNat i1) }, hF 3, { i := 7, n := byteAt s0 (Int.toNat i1) }, hT 8], r0] (by kernel_rfl) (P2 ((0 : Int) ≤ i1) h2<|P2 (i1 < (ByteArray.size s0 : Int)) h3<|P2 ((s0.data.toList[(Int.toNat i1)]?.map fun b => (b.toNat : Int)) = some ((byteAt s0 (Int.toNat i1) : Nat) : Int)) (byteAt_ok (by omega))<|P2 ((decide (((byteAt s0 (Int.toNat i1) : Nat) : Int) < 97)) = false) (decide_eq_false h4)<|P2 ((0 : Int) ≤ i1) h5<|P2 (i1 < (ByteArray.size s0 : Int)) h6<|P2 ((s0.data.toList[(Int.toNat i1)]?.map fun b => (b.toNat : Int)) = some ((byteAt s0 (Int.toNat i1) : Nat) : Int)) (byteAt_ok (by omega))<|P2 ((decide (((byteAt s0 (Int.toNat i1) : Nat) : Int) > 122)) = true) (decide_eq_true h7)<|P0))
  (fun h7 H =>
  eN H fun r hn => gO [rg [{ i := 2, n := byteAt s0 (Int.toNat i1) }, hF 3, { i := 7, n := byteAt s0 (Int.toNat i1) }, hF 8], r0, .canon [] [0, 3]] (by kernel_rfl) (P2 ((0 : Int) ≤ i1) h2<|P2 (i1 < (ByteArray.size s0 : Int)) h3<|P2 ((s0.data.toList[(Int.toNat i1)]?.map fun b => (b.toNat : Int)) = some ((byteAt s0 (Int.toNat i1) : Nat) : Int)) (byteAt_ok (by omega))<|P2 ((decide (((byteAt s0 (Int.toNat i1) : Nat) : Int) < 97)) = false) (decide_eq_false h4)<|P2 ((0 : Int) ≤ i1) h5<|P2 (i1 < (ByteArray.size s0 : Int)) h6<|P2 ((s0.data.toList[(Int.toNat i1)]?.map fun b => (b.toNat : Int)) = some ((byteAt s0 (Int.toNat i1) : Nat) : Int)) (byteAt_ok (by omega))<|P2 ((decide (((byteAt s0 (Int.toNat i1) : Nat) : Int) > 122)) = false) (decide_eq_false h7)<|P0) hn)))
  (fun h1 H =>
  eBind H fun r2 hr2 H =>
  eN H<|gE func119 [rg [hF 3], rg [hC 2 true [] (RB r2) []]] (by kernel_rfl) (P2 ((decide (i1 < ((ByteArray.size s0 : Nat) : Int))) = false) (decide_eq_false h1)<|P1 (ci_inRange hr2)<|P0))
theorem wi_isName : ∀ s r, loop Bi_isName s = some r → Wc X 119 0 (Ki_isName s) (Zi_isName s) (RB r) ((fun _ => []) r) := Nx.all (ni_isName)
theorem ci_isName {a0 : ByteArray} {r : Bool} (H : Di_isName a0 = some r) : Ct X.P X.gl 119 [.str a0] [] (RB r) [] :=
  Ct.of func119 (c := bdy f119) (by kernel_rfl) (by kernel_rfl) <|
  gO [r0, r0, .canon [] [0, 3]] (by kernel_rfl) P0 (wi_isName _ _ H)
theorem ci_goodTerrain_1 {a0 : Int} {r : Bool} (H : Di_goodTerrain_1 a0 = some r) : Ct X.P X.gl 193 [I a0] [] (RB r) [] :=
  Ct.of func193 (c := bdy f193) (by kernel_rfl) (by kernel_rfl) <|
  eBind H fun r1 hr1 H =>
  eW RB (fun _ => []) H<|gE func193 [r0, rg [hC 1 true [] (RB r1) []]] (by kernel_rfl) (P1 (ci_inRange hr1)<|P0)
noncomputable def Kslices_IndexFunc_int_i_goodTerrain_1 : Sslices_IndexFunc_int_i_goodTerrain_1 → List Item
 | .h1 .. => nav 300 2 [] [.code (bdy f185)]
def Zslices_IndexFunc_int_i_goodTerrain_1 : Sslices_IndexFunc_int_i_goodTerrain_1 → St
 | .h1 s0 t1 t2 => ⟨sts 19 [(0, sl 1 I s0), (1, .fn 193 []), (7, I t1), (8, I t2)], []⟩
abbrev Qslices_IndexFunc_int_i_goodTerrain_1 := Nx X 185 0 Kslices_IndexFunc_int_i_goodTerrain_1 Zslices_IndexFunc_int_i_goodTerrain_1 RI (fun _ => [])
theorem nslices_IndexFunc_int_i_goodTerrain_1 : ∀ s o, Bslices_IndexFunc_int_i_goodTerrain_1 s = some o → Qslices_IndexFunc_int_i_goodTerrain_1 (Kslices_IndexFunc_int_i_goodTerrain_1 s) (Zslices_IndexFunc_int_i_goodTerrain_1 s) o
 | .h1 s0 t1 t2, o, H =>
  eIf H (fun h1 H =>
  eCk H fun h2 H =>
  eBind H fun x3 hx3 H =>
  eBind H fun r4 hr4 H =>
  gN [rg [hT 0], r0] (by kernel_rfl) (P2 ((decide (t2 < t1)) = true) (decide_eq_true h1)<|P0) <|
  eIf H (fun h5 H =>
  eN H<|gE func185 [rg [hE 4 (I x3), { i := 5, call := some { cl := true, auto := true, ins := [], res := (RB r4), G' := [] }, dec := some true }], r0] (by kernel_rfl) (P1 h2<|P1 (int_lt_of_at h2 hx3)<|P1 (at_map I hx3)<|P1 (ci_goodTerrain_1 hr4)<|P2 (r4 = true) (h5)<|P0))
  (fun h5 H =>
  eN H fun r hn => gO [rg [hE 4 (I x3), { i := 5, call := some { cl := true, auto := true, ins := [], res := (RB r4), G' := [] }, dec := some false }], r0, .canon [] [0, 1, 7, 8]] (by kernel_rfl) (P1 h2<|P1 (int_lt_of_at h2 hx3)<|P1 (at_map I hx3)<|P1 (ci_goodTerrain_1 hr4)<|P2 (r4 = false) (eqF h5)<|P0) hn))
  (fun h1 H =>
  eN H<|gE func185 [rg [hF 0], r0] (by kernel_rfl) (P2 ((decide (t2 < t1)) = false) (decide_eq_false h1)<|P0))
theorem wslices_IndexFunc_int_i_goodTerrain_1 : ∀ s r, loop Bslices_IndexFunc_int_i_goodTerrain_1 s = some r → Wc X 185 0 (Kslices_IndexFunc_int_i_goodTerrain_1 s) (Zslices_IndexFunc_int_i_goodTerrain_1 s) (RI r) ((fun _ => []) r) := Nx.all (nslices_IndexFunc_int_i_goodTerrain_1)
theorem cslices_IndexFunc_int_i_goodTerrain_1 {a0 : (List Int)} {r : Int} (H : Dslices_IndexFunc_int_i_goodTerrain_1 a0 = some r) : Ct X.P X.gl 185 [sl 1 I a0, .fn 193 []] [] (RI r) [] :=
  Ct.of func185 (c := bdy f185) (by kernel_rfl) (by kernel_rfl) <|
  gO [r0, r0, .canon [] [0, 1, 7, 8]] (by kernel_rfl) P0 (wslices_IndexFunc_int_i_goodTerrain_1 _ _ H)
theorem cslices_ContainsFunc_int_i_goodTerrain_1 {a0 : (List Int)} {r : Bool} (H : Dslices_ContainsFunc_int_i_goodTerrain_1 a0 = some r) : Ct X.P X.gl 157 [sl 1 I a0, .fn 193 []] [] (RB r) [] :=
  Ct.of func157 (c := bdy f157) (by kernel_rfl) (by kernel_rfl) <|
  eBind H fun r1 hr1 H =>
  eW RB (fun _ => []) H<|gE func157 [r0, rg [hC 2 true [] (RI r1) []]] (by kernel_rfl) (P1 (cslices_IndexFunc_int_i_goodTerrain_1 hr1)<|P0)
theorem ci_goodTerrain {a0 : Gi_Terrain} {a1 : Int} {r : Bool} (H : Di_goodTerrain a0 a1 = some r) : Ct X.P X.gl 180 [gi_Terrain a0, I a1] [] (RB r) [] :=
  Ct.of func180 (c := bdy f180) (by kernel_rfl) (by kernel_rfl) <|
  eBind H fun r1 hr1 H =>
  gS [r0] (by kernel_rfl) P0 <|
  eIf H (fun h2 H =>
  eIf H (fun h3 H =>
  eBind H fun r4 hr4 H =>
  eIf H (fun h5 H =>
  eBind H fun r6 hr6 H =>
  eIf H (fun h7 H =>
  eBind H fun r8 hr8 H =>
  eW RB (fun _ => []) H<|gE func180 [rg [{ i := 2, call := some { cl := true, auto := true, ins := [], res := (RB r1), G' := [] }, dec := some true }, hF 9, { i := 14, call := some { cl := true, auto := true, ins := [], res := (RB r4), G' := [] }, dec := some true }, { i := 20, call := some { cl := true, auto := true, ins := [], res := (RB r6), G' := [] }, dec := some true }], rg [hC 2 true [] (RB r8) []]] (by kernel_rfl) (P1 (ci_isName hr1)<|P2 (r1 = true) (h2)<|P2 (((((a0.Cost.length : Nat) : Int) : Int) != a1) = false) (bneF h3)<|P1 (ci_inRange hr4)<|P2 (r4 = true) (h5)<|P1 (ci_inRange hr6)<|P2 (r6 = true) (h7)<|P1 (cslices_ContainsFunc_int_i_goodTerrain_1 hr8)<|P0))
  (fun h7 H =>
  eW RB (fun _ => []) H<|gE func180 [rg [{ i := 2, call := some { cl := true, auto := true, ins := [], res := (RB r1), G' := [] }, dec := some true }, hF 9, { i := 14, call := some { cl := true, auto := true, ins := [], res := (RB r4), G' := [] }, dec := some true }, { i := 20, call := some { cl := true, auto := true, ins := [], res := (RB r6), G' := [] }, dec := some false }], r0] (by kernel_rfl) (P1 (ci_isName hr1)<|P2 (r1 = true) (h2)<|P2 (((((a0.Cost.length : Nat) : Int) : Int) != a1) = false) (bneF h3)<|P1 (ci_inRange hr4)<|P2 (r4 = true) (h5)<|P1 (ci_inRange hr6)<|P2 (r6 = false) (eqF h7)<|P0)))
  (fun h5 H =>
  eW RB (fun _ => []) H<|gE func180 [rg [{ i := 2, call := some { cl := true, auto := true, ins := [], res := (RB r1), G' := [] }, dec := some true }, hF 9, { i := 14, call := some { cl := true, auto := true, ins := [], res := (RB r4), G' := [] }, dec := some false }], r0] (by kernel_rfl) (P1 (ci_isName hr1)<|P2 (r1 = true) (h2)<|P2 (((((a0.Cost.length : Nat) : Int) : Int) != a1) = false) (bneF h3)<|P1 (ci_inRange hr4)<|P2 (r4 = false) (eqF h5)<|P0)))
  (fun h3 H =>
  eW RB (fun _ => []) H<|gE func180 [rg [{ i := 2, call := some { cl := true, auto := true, ins := [], res := (RB r1), G' := [] }, dec := some true }, hT 9], r0] (by kernel_rfl) (P1 (ci_isName hr1)<|P2 (r1 = true) (h2)<|P2 (((((a0.Cost.length : Nat) : Int) : Int) != a1) = true) (bneT h3)<|P0)))
  (fun h2 H =>
  eW RB (fun _ => []) H<|gE func180 [rg [{ i := 2, call := some { cl := true, auto := true, ins := [], res := (RB r1), G' := [] }, dec := some false }], r0] (by kernel_rfl) (P1 (ci_isName hr1)<|P2 (r1 = false) (eqF h2)<|P0))
theorem ci_terrainIndex_1 {a0 : Gi_Terrain} {a1 : ByteArray} {r : Bool} (H : Di_terrainIndex_1 a0 a1 = some r) : Ct X.P X.gl 195 [gi_Terrain a0, .fptr 1 [.agg [.str a1]] 0 0] [] (RB r) [] :=
  Ct.of func195 (c := bdy f195) (by kernel_rfl) (by kernel_rfl) <|
  eW RB (fun _ => []) H<|gE func195 [r0, r0] (by kernel_rfl) P0
noncomputable def Kslices_IndexFunc_i_Terrain_i_terrainIndex_1 : Sslices_IndexFunc_i_Terrain_i_terrainIndex_1 → List Item
 | .h1 .. => nav 300 2 [] [.code (bdy f194)]
def Zslices_IndexFunc_i_Terrain_i_terrainIndex_1 : Sslices_IndexFunc_i_Terrain_i_terrainIndex_1 → St
 | .h1 s0 f1 t2 t3 => ⟨sts 19 [(0, sl 5 gi_Terrain s0), (1, .fn 195 [.fptr 1 [.agg [.str f1]] 0 0]), (7, I t2), (8, I t3)], []⟩
abbrev Qslices_IndexFunc_i_Terrain_i_terrainIndex_1 := Nx X 194 0 Kslices_IndexFunc_i_Terrain_i_terrainIndex_1 Zslices_IndexFunc_i_Terrain_i_terrainIndex_1 RI (fun _ => [])
theorem nslices_IndexFunc_i_Terrain_i_terrainIndex_1 : ∀ s o, Bslices_IndexFunc_i_Terrain_i_terrainIndex_1 s = some o → Qslices_IndexFunc_i_Terrain_i_terrainIndex_1 (Kslices_IndexFunc_i_Terrain_i_terrainIndex_1 s) (Zslices_IndexFunc_i_Terrain_i_terrainIndex_1 s) o
 | .h1 s0 f1 t2 t3, o, H =>
  eIf H (fun h1 H =>
  eCk H fun h2 H =>
  eBind H fun x3 hx3 H =>
  eBind H fun r4 hr4 H =>
  gN [rg [hT 0], r0] (by kernel_rfl) (P2 ((decide (t3 < t2)) = true) (decide_eq_true h1)<|P0) <|
  eIf H (fun h5 H =>
  eN H<|gE func194 [rg [hE 4 (gi_Terrain x3), { i := 5, call := some { cl := true, auto := true, ins := [], res := (RB r4), G' := [] }, dec := some true }], r0] (by kernel_rfl) (P1 h2<|P1 (int_lt_of_at h2 hx3)<|P1 (at_map gi_Terrain hx3)<|P1 (ci_terrainIndex_1 hr4)<|P2 (r4 = true) (h5)<|P0))
  (fun h5 H =>
  eN H fun r hn => gO [rg [hE 4 (gi_Terrain x3), { i := 5, call := some { cl := true, auto := true, ins := [], res := (RB r4), G' := [] }, dec := some false }], r0, .canon [] [0, 1, 7, 8]] (by kernel_rfl) (P1 h2<|P1 (int_lt_of_at h2 hx3)<|P1 (at_map gi_Terrain hx3)<|P1 (ci_terrainIndex_1 hr4)<|P2 (r4 = false) (eqF h5)<|P0) hn))
  (fun h1 H =>
  eN H<|gE func194 [rg [hF 0], r0] (by kernel_rfl) (P2 ((decide (t3 < t2)) = false) (decide_eq_false h1)<|P0))
theorem wslices_IndexFunc_i_Terrain_i_terrainIndex_1 : ∀ s r, loop Bslices_IndexFunc_i_Terrain_i_terrainIndex_1 s = some r → Wc X 194 0 (Kslices_IndexFunc_i_Terrain_i_terrainIndex_1 s) (Zslices_IndexFunc_i_Terrain_i_terrainIndex_1 s) (RI r) ((fun _ => []) r) := Nx.all (nslices_IndexFunc_i_Terrain_i_terrainIndex_1)
theorem cslices_IndexFunc_i_Terrain_i_terrainIndex_1 {a0 : (List Gi_Terrain)} {a100 : ByteArray} {r : Int} (H : Dslices_IndexFunc_i_Terrain_i_terrainIndex_1 a0 a100 = some r) : Ct X.P X.gl 194 [sl 5 gi_Terrain a0, .fn 195 [.fptr 1 [.agg [.str a100]] 0 0]] [] (RI r) [] :=
  Ct.of func194 (c := bdy f194) (by kernel_rfl) (by kernel_rfl) <|
  gO [r0, r0, .canon [] [0, 1, 7, 8]] (by kernel_rfl) P0 (wslices_IndexFunc_i_Terrain_i_terrainIndex_1 _ _ H)
theorem ci_terrainIndex {a0 : (List Gi_Terrain)} {a1 : ByteArray} {r : Int} (H : Di_terrainIndex a0 a1 = some r) : Ct X.P X.gl 181 [sl 5 gi_Terrain a0, .str a1] [] (RI r) [] :=
  Ct.of func181 (c := bdy f181) (by kernel_rfl) (by kernel_rfl) <|
  eBind H fun r1 hr1 H =>
  eW RI (fun _ => []) H<|gE func181 [r0, rg [hC 2 false [] (RI r1) []]] (by kernel_rfl) (P1 (cslices_IndexFunc_i_Terrain_i_terrainIndex_1 hr1)<|P0)
theorem ci_goodKind {a0 : Gi_Kind} {r : Bool} (H : Di_goodKind a0 = some r) : Ct X.P X.gl 182 [gi_Kind a0] [] (RB r) [] :=
  Ct.of func182 (c := bdy f182) (by kernel_rfl) (by kernel_rfl) <|
  eBind H fun r1 hr1 H =>
  gS [r0] (by kernel_rfl) P0 <|
  eIf H (fun h2 H =>
  eBind H fun r3 hr3 H =>
  eIf H (fun h4 H =>
  eBind H fun r5 hr5 H =>
  eIf H (fun h6 H =>
  eBind H fun r7 hr7 H =>
  eIf H (fun h8 H =>
  eBind H fun r9 hr9 H =>
  eW RB (fun _ => []) H<|gE func182 [rg [{ i := 2, call := some { cl := true, auto := true, ins := [], res := (RB r1), G' := [] }, dec := some true }, { i := 6, call := some { cl := true, auto := true, ins := [], res := (RB r3), G' := [] }, dec := some true }, { i := 11, call := some { cl := true, auto := true, ins := [], res := (RB r5), G' := [] }, dec := some true }, { i := 16, call := some { cl := true, auto := true, ins := [], res := (RB r7), G' := [] }, dec := some true }, hC 21 true [] (RB r9) []]] (by kernel_rfl) (P1 (ci_isName hr1)<|P2 (r1 = true) (h2)<|P1 (ci_inRange hr3)<|P2 (r3 = true) (h4)<|P1 (ci_inRange hr5)<|P2 (r5 = true) (h6)<|P1 (ci_inRange hr7)<|P2 (r7 = true) (h8)<|P1 (ci_inRange hr9)<|P0))
  (fun h8 H =>
  eW RB (fun _ => []) H<|gE func182 [rg [{ i := 2, call := some { cl := true, auto := true, ins := [], res := (RB r1), G' := [] }, dec := some true }, { i := 6, call := some { cl := true, auto := true, ins := [], res := (RB r3), G' := [] }, dec := some true }, { i := 11, call := some { cl := true, auto := true, ins := [], res := (RB r5), G' := [] }, dec := some true }, { i := 16, call := some { cl := true, auto := true, ins := [], res := (RB r7), G' := [] }, dec := some false }]] (by kernel_rfl) (P1 (ci_isName hr1)<|P2 (r1 = true) (h2)<|P1 (ci_inRange hr3)<|P2 (r3 = true) (h4)<|P1 (ci_inRange hr5)<|P2 (r5 = true) (h6)<|P1 (ci_inRange hr7)<|P2 (r7 = false) (eqF h8)<|P0)))
  (fun h6 H =>
  eW RB (fun _ => []) H<|gE func182 [rg [{ i := 2, call := some { cl := true, auto := true, ins := [], res := (RB r1), G' := [] }, dec := some true }, { i := 6, call := some { cl := true, auto := true, ins := [], res := (RB r3), G' := [] }, dec := some true }, { i := 11, call := some { cl := true, auto := true, ins := [], res := (RB r5), G' := [] }, dec := some false }]] (by kernel_rfl) (P1 (ci_isName hr1)<|P2 (r1 = true) (h2)<|P1 (ci_inRange hr3)<|P2 (r3 = true) (h4)<|P1 (ci_inRange hr5)<|P2 (r5 = false) (eqF h6)<|P0)))
  (fun h4 H =>
  eW RB (fun _ => []) H<|gE func182 [rg [{ i := 2, call := some { cl := true, auto := true, ins := [], res := (RB r1), G' := [] }, dec := some true }, { i := 6, call := some { cl := true, auto := true, ins := [], res := (RB r3), G' := [] }, dec := some false }]] (by kernel_rfl) (P1 (ci_isName hr1)<|P2 (r1 = true) (h2)<|P1 (ci_inRange hr3)<|P2 (r3 = false) (eqF h4)<|P0)))
  (fun h2 H =>
  eW RB (fun _ => []) H<|gE func182 [rg [{ i := 2, call := some { cl := true, auto := true, ins := [], res := (RB r1), G' := [] }, dec := some false }]] (by kernel_rfl) (P1 (ci_isName hr1)<|P2 (r1 = false) (eqF h2)<|P0))
theorem ci_kindIndex_1 {a0 : Gi_Kind} {a1 : ByteArray} {r : Bool} (H : Di_kindIndex_1 a0 a1 = some r) : Ct X.P X.gl 197 [gi_Kind a0, .fptr 1 [.agg [.str a1]] 0 0] [] (RB r) [] :=
  Ct.of func197 (c := bdy f197) (by kernel_rfl) (by kernel_rfl) <|
  eW RB (fun _ => []) H<|gE func197 [r0, r0] (by kernel_rfl) P0
noncomputable def Kslices_IndexFunc_i_Kind_i_kindIndex_1 : Sslices_IndexFunc_i_Kind_i_kindIndex_1 → List Item
 | .h1 .. => nav 300 2 [] [.code (bdy f196)]
def Zslices_IndexFunc_i_Kind_i_kindIndex_1 : Sslices_IndexFunc_i_Kind_i_kindIndex_1 → St
 | .h1 s0 f1 t2 t3 => ⟨sts 19 [(0, sl 6 gi_Kind s0), (1, .fn 197 [.fptr 1 [.agg [.str f1]] 0 0]), (7, I t2), (8, I t3)], []⟩
abbrev Qslices_IndexFunc_i_Kind_i_kindIndex_1 := Nx X 196 0 Kslices_IndexFunc_i_Kind_i_kindIndex_1 Zslices_IndexFunc_i_Kind_i_kindIndex_1 RI (fun _ => [])
theorem nslices_IndexFunc_i_Kind_i_kindIndex_1 : ∀ s o, Bslices_IndexFunc_i_Kind_i_kindIndex_1 s = some o → Qslices_IndexFunc_i_Kind_i_kindIndex_1 (Kslices_IndexFunc_i_Kind_i_kindIndex_1 s) (Zslices_IndexFunc_i_Kind_i_kindIndex_1 s) o
 | .h1 s0 f1 t2 t3, o, H =>
  eIf H (fun h1 H =>
  eCk H fun h2 H =>
  eBind H fun x3 hx3 H =>
  eBind H fun r4 hr4 H =>
  gN [rg [hT 0], r0] (by kernel_rfl) (P2 ((decide (t3 < t2)) = true) (decide_eq_true h1)<|P0) <|
  eIf H (fun h5 H =>
  eN H<|gE func196 [rg [hE 4 (gi_Kind x3), { i := 5, call := some { cl := true, auto := true, ins := [], res := (RB r4), G' := [] }, dec := some true }], r0] (by kernel_rfl) (P1 h2<|P1 (int_lt_of_at h2 hx3)<|P1 (at_map gi_Kind hx3)<|P1 (ci_kindIndex_1 hr4)<|P2 (r4 = true) (h5)<|P0))
  (fun h5 H =>
  eN H fun r hn => gO [rg [hE 4 (gi_Kind x3), { i := 5, call := some { cl := true, auto := true, ins := [], res := (RB r4), G' := [] }, dec := some false }], r0, .canon [] [0, 1, 7, 8]] (by kernel_rfl) (P1 h2<|P1 (int_lt_of_at h2 hx3)<|P1 (at_map gi_Kind hx3)<|P1 (ci_kindIndex_1 hr4)<|P2 (r4 = false) (eqF h5)<|P0) hn))
  (fun h1 H =>
  eN H<|gE func196 [rg [hF 0], r0] (by kernel_rfl) (P2 ((decide (t3 < t2)) = false) (decide_eq_false h1)<|P0))
theorem wslices_IndexFunc_i_Kind_i_kindIndex_1 : ∀ s r, loop Bslices_IndexFunc_i_Kind_i_kindIndex_1 s = some r → Wc X 196 0 (Kslices_IndexFunc_i_Kind_i_kindIndex_1 s) (Zslices_IndexFunc_i_Kind_i_kindIndex_1 s) (RI r) ((fun _ => []) r) := Nx.all (nslices_IndexFunc_i_Kind_i_kindIndex_1)
theorem cslices_IndexFunc_i_Kind_i_kindIndex_1 {a0 : (List Gi_Kind)} {a100 : ByteArray} {r : Int} (H : Dslices_IndexFunc_i_Kind_i_kindIndex_1 a0 a100 = some r) : Ct X.P X.gl 196 [sl 6 gi_Kind a0, .fn 197 [.fptr 1 [.agg [.str a100]] 0 0]] [] (RI r) [] :=
  Ct.of func196 (c := bdy f196) (by kernel_rfl) (by kernel_rfl) <|
  gO [r0, r0, .canon [] [0, 1, 7, 8]] (by kernel_rfl) P0 (wslices_IndexFunc_i_Kind_i_kindIndex_1 _ _ H)
theorem ci_kindIndex {a0 : (List Gi_Kind)} {a1 : ByteArray} {r : Int} (H : Di_kindIndex a0 a1 = some r) : Ct X.P X.gl 183 [sl 6 gi_Kind a0, .str a1] [] (RI r) [] :=
  Ct.of func183 (c := bdy f183) (by kernel_rfl) (by kernel_rfl) <|
  eBind H fun r1 hr1 H =>
  eW RI (fun _ => []) H<|gE func183 [r0, rg [hC 2 false [] (RI r1) []]] (by kernel_rfl) (P1 (cslices_IndexFunc_i_Kind_i_kindIndex_1 hr1)<|P0)
noncomputable def Ki_IsRules : Si_IsRules → List Item
 | .h1 .. => nav 300 3 [false] [.code (bdy f155)]
 | .h2 .. => nav 300 5 [false, false] [.code (bdy f155)]
def Zi_IsRules : Si_IsRules → St
 | .h1 t0 t1 t2 b3 => ⟨sts 87 [(1, .ptr 0 7 0 0), (20, sl 5 gi_Terrain t0), (21, I t1), (22, I t2)], [some ⟨false, true, 7, 1, [gi_Rules b3]⟩]⟩
 | .h2 t0 t1 t2 b3 => ⟨sts 87 [(1, .ptr 0 7 0 0), (44, sl 6 gi_Kind t0), (45, I t1), (46, I t2)], [some ⟨false, true, 7, 1, [gi_Rules b3]⟩]⟩
abbrev Qi_IsRules := Nx X 155 0 Ki_IsRules Zi_IsRules RB (fun _ => [])
theorem ni_IsRules : ∀ s o, Bi_IsRules s = some o → Qi_IsRules (Ki_IsRules s) (Zi_IsRules s) o
 | .h1 t0 t1 t2 b3, o, H =>
  eIf H (fun h1 H =>
  eCk H fun h2 H =>
  eBind H fun x3 hx3 H =>
  eBind H fun r4 hr4 H =>
  gN [rg [hT 0], rg [hE 2 (gi_Terrain x3)]] (by kernel_rfl) (P2 ((decide (t2 < t1)) = true) (decide_eq_true h1)<|P1 h2<|P1 (int_lt_of_at h2 hx3)<|P1 (at_map gi_Terrain hx3)<|P0) <|
  eIf H (fun h5 H =>
  eBind H fun r6 hr6 H =>
  eIf H (fun h7 H =>
  eN H fun r hn => gO [rg [{ i := 4, call := some { cl := true, auto := true, ins := [], res := (RB r4), G' := [] }, dec := some true }, hC 11 true [] (RI r6) [], hF 13], r0, .canon [0] [1, 20, 21, 22]] (by kernel_rfl) (P1 (ci_goodTerrain hr4)<|P2 (r4 = true) (h5)<|P1 (ci_terrainIndex hr6)<|P2 (((r6 : Int) != t2) = false) (bneF h7)<|P0) hn)
  (fun h7 H =>
  eN H<|gE func155 [rg [{ i := 4, call := some { cl := true, auto := true, ins := [], res := (RB r4), G' := [] }, dec := some true }, hC 11 true [] (RI r6) [], hT 13], r0] (by kernel_rfl) (P1 (ci_goodTerrain hr4)<|P2 (r4 = true) (h5)<|P1 (ci_terrainIndex hr6)<|P2 (((r6 : Int) != t2) = true) (bneT h7)<|P0)))
  (fun h5 H =>
  eN H<|gE func155 [rg [{ i := 4, call := some { cl := true, auto := true, ins := [], res := (RB r4), G' := [] }, dec := some false }], r0] (by kernel_rfl) (P1 (ci_goodTerrain hr4)<|P2 (r4 = false) (eqF h5)<|P0)))
  (fun h1 H =>
  eN H fun r hn => gO [rg [hF 0], r0, .canon [0] [1, 44, 45, 46]] (by kernel_rfl) (P2 ((decide (t2 < t1)) = false) (decide_eq_false h1)<|P0) hn)
 | .h2 t0 t1 t2 b3, o, H =>
  eIf H (fun h1 H =>
  eCk H fun h2 H =>
  eBind H fun x3 hx3 H =>
  eBind H fun r4 hr4 H =>
  gN [rg [hT 0], rg [hE 2 (gi_Kind x3)]] (by kernel_rfl) (P2 ((decide (t2 < t1)) = true) (decide_eq_true h1)<|P1 h2<|P1 (int_lt_of_at h2 hx3)<|P1 (at_map gi_Kind hx3)<|P0) <|
  eIf H (fun h5 H =>
  eBind H fun r6 hr6 H =>
  eIf H (fun h7 H =>
  eN H fun r hn => gO [rg [{ i := 1, call := some { cl := true, auto := true, ins := [], res := (RB r4), G' := [] }, dec := some true }, hC 8 true [] (RI r6) [], hF 10], r0, .canon [0] [1, 44, 45, 46]] (by kernel_rfl) (P1 (ci_goodKind hr4)<|P2 (r4 = true) (h5)<|P1 (ci_kindIndex hr6)<|P2 (((r6 : Int) != t2) = false) (bneF h7)<|P0) hn)
  (fun h7 H =>
  eN H<|gE func155 [rg [{ i := 1, call := some { cl := true, auto := true, ins := [], res := (RB r4), G' := [] }, dec := some true }, hC 8 true [] (RI r6) [], hT 10], r0] (by kernel_rfl) (P1 (ci_goodKind hr4)<|P2 (r4 = true) (h5)<|P1 (ci_kindIndex hr6)<|P2 (((r6 : Int) != t2) = true) (bneT h7)<|P0)))
  (fun h5 H =>
  eN H<|gE func155 [rg [{ i := 1, call := some { cl := true, auto := true, ins := [], res := (RB r4), G' := [] }, dec := some false }], r0] (by kernel_rfl) (P1 (ci_goodKind hr4)<|P2 (r4 = false) (eqF h5)<|P0)))
  (fun h1 H =>
  eBind H fun r2 hr2 H =>
  gN [rg [hF 0]] (by kernel_rfl) (P2 ((decide (t2 < t1)) = false) (decide_eq_false h1)<|P0) <|
  eIf H (fun h3 H =>
  eBind H fun r4 hr4 H =>
  eIf H (fun h5 H =>
  eBind H fun r6 hr6 H =>
  eIf H (fun h7 H =>
  eBind H fun r8 hr8 H =>
  eIf H (fun h9 H =>
  eBind H fun r10 hr10 H =>
  eN H<|gE func155 [rg [{ i := 2, call := some { cl := true, auto := true, ins := [], res := (RB r2), G' := [] }, dec := some true }, { i := 6, call := some { cl := true, auto := true, ins := [], res := (RB r4), G' := [] }, dec := some true }, { i := 11, call := some { cl := true, auto := true, ins := [], res := (RB r6), G' := [] }, dec := some true }, { i := 16, call := some { cl := true, auto := true, ins := [], res := (RB r8), G' := [] }, dec := some true }, hC 21 true [] (RB r10) []]] (by kernel_rfl) (P1 (ci_inRange hr2)<|P2 (r2 = true) (h3)<|P1 (ci_inRange hr4)<|P2 (r4 = true) (h5)<|P1 (ci_inRange hr6)<|P2 (r6 = true) (h7)<|P1 (ci_inRange hr8)<|P2 (r8 = true) (h9)<|P1 (ci_inRange hr10)<|P0))
  (fun h9 H =>
  eN H<|gE func155 [rg [{ i := 2, call := some { cl := true, auto := true, ins := [], res := (RB r2), G' := [] }, dec := some true }, { i := 6, call := some { cl := true, auto := true, ins := [], res := (RB r4), G' := [] }, dec := some true }, { i := 11, call := some { cl := true, auto := true, ins := [], res := (RB r6), G' := [] }, dec := some true }, { i := 16, call := some { cl := true, auto := true, ins := [], res := (RB r8), G' := [] }, dec := some false }]] (by kernel_rfl) (P1 (ci_inRange hr2)<|P2 (r2 = true) (h3)<|P1 (ci_inRange hr4)<|P2 (r4 = true) (h5)<|P1 (ci_inRange hr6)<|P2 (r6 = true) (h7)<|P1 (ci_inRange hr8)<|P2 (r8 = false) (eqF h9)<|P0)))
  (fun h7 H =>
  eN H<|gE func155 [rg [{ i := 2, call := some { cl := true, auto := true, ins := [], res := (RB r2), G' := [] }, dec := some true }, { i := 6, call := some { cl := true, auto := true, ins := [], res := (RB r4), G' := [] }, dec := some true }, { i := 11, call := some { cl := true, auto := true, ins := [], res := (RB r6), G' := [] }, dec := some false }]] (by kernel_rfl) (P1 (ci_inRange hr2)<|P2 (r2 = true) (h3)<|P1 (ci_inRange hr4)<|P2 (r4 = true) (h5)<|P1 (ci_inRange hr6)<|P2 (r6 = false) (eqF h7)<|P0)))
  (fun h5 H =>
  eN H<|gE func155 [rg [{ i := 2, call := some { cl := true, auto := true, ins := [], res := (RB r2), G' := [] }, dec := some true }, { i := 6, call := some { cl := true, auto := true, ins := [], res := (RB r4), G' := [] }, dec := some false }]] (by kernel_rfl) (P1 (ci_inRange hr2)<|P2 (r2 = true) (h3)<|P1 (ci_inRange hr4)<|P2 (r4 = false) (eqF h5)<|P0)))
  (fun h3 H =>
  eN H<|gE func155 [rg [{ i := 2, call := some { cl := true, auto := true, ins := [], res := (RB r2), G' := [] }, dec := some false }]] (by kernel_rfl) (P1 (ci_inRange hr2)<|P2 (r2 = false) (eqF h3)<|P0)))
theorem wi_IsRules : ∀ s r, loop Bi_IsRules s = some r → Wc X 155 0 (Ki_IsRules s) (Zi_IsRules s) (RB r) ((fun _ => []) r) := Nx.all (ni_IsRules)
theorem ci_IsRules {a0 : Gi_Rules} {r : Bool} (H : Di_IsRules a0 = some r) : Ct X.P X.gl 155 [gi_Rules a0] [] (RB r) [] :=
  Ct.of func155 (c := bdy f155) (by kernel_rfl) (by kernel_rfl) <|
  eBind H fun r1 hr1 H =>
  gS [r0] (by kernel_rfl) P0 <|
  eIf H (fun h2 H =>
  eBind H fun r3 hr3 H =>
  eIf H (fun h4 H =>
  gO [rg [{ i := 3, call := some { cl := true, auto := true, ins := [], res := (RB r1), G' := [] }, dec := some true }, { i := 9, call := some { cl := true, auto := true, ins := [], res := (RB r3), G' := [] }, dec := some true }], r0, .canon [0] [1, 20, 21, 22]] (by kernel_rfl) (P1 (ci_inRange hr1)<|P2 (r1 = true) (h2)<|P1 (ci_inRange hr3)<|P2 (r3 = true) (h4)<|P0) (wi_IsRules _ _ H))
  (fun h4 H =>
  eW RB (fun _ => []) H<|gE func155 [rg [{ i := 3, call := some { cl := true, auto := true, ins := [], res := (RB r1), G' := [] }, dec := some true }, { i := 9, call := some { cl := true, auto := true, ins := [], res := (RB r3), G' := [] }, dec := some false }], r0] (by kernel_rfl) (P1 (ci_inRange hr1)<|P2 (r1 = true) (h2)<|P1 (ci_inRange hr3)<|P2 (r3 = false) (eqF h4)<|P0)))
  (fun h2 H =>
  eW RB (fun _ => []) H<|gE func155 [rg [{ i := 3, call := some { cl := true, auto := true, ins := [], res := (RB r1), G' := [] }, dec := some false }], r0] (by kernel_rfl) (P1 (ci_inRange hr1)<|P2 (r1 = false) (eqF h2)<|P0))
theorem ci_isIndex {a0 : Int} {a1 : Int} {r : Bool} (H : Di_isIndex a0 a1 = some r) : Ct X.P X.gl 163 [I a0, I a1] [] (RB r) [] :=
  Ct.of func163 (c := bdy f163) (by kernel_rfl) (by kernel_rfl) <|
  eBind H fun r1 hr1 H =>
  eW RB (fun _ => []) H<|gE func163 [r0, rg [hC 3 true [] (RB r1) []]] (by kernel_rfl) (P1 (ci_inRange hr1)<|P0)
noncomputable def Ki_increasing : Si_increasing → List Item
 | .h1 .. => nav 300 2 [] [.code (bdy f164)]
def Zi_increasing : Si_increasing → St
 | .h1 list0 i1 => ⟨sts 20 [(0, sl 1 I list0), (3, I i1)], []⟩
abbrev Qi_increasing := Nx X 164 0 Ki_increasing Zi_increasing RB (fun _ => [])
theorem ni_increasing : ∀ s o, Bi_increasing s = some o → Qi_increasing (Ki_increasing s) (Zi_increasing s) o
 | .h1 list0 i1, o, H =>
  eIf H (fun h1 H =>
  eCk H fun h2 H =>
  eBind H fun x3 hx3 H =>
  eCk H fun h4 H =>
  eBind H fun x5 hx5 H =>
  gN [rg [hT 3]] (by kernel_rfl) (P2 ((decide (i1 < ((list0.length : Nat) : Int))) = true) (decide_eq_true h1)<|P0) <|
  eIf H (fun h6 H =>
  eN H<|gE func164 [rg [hE 4 (I x3), hE 8 (I x5), hT 9], r0] (by kernel_rfl) (P1 h2<|P1 (int_lt_of_at h2 hx3)<|P1 (at_map I hx3)<|P1 h4<|P1 (int_lt_of_at h4 hx5)<|P1 (at_map I hx5)<|P2 ((decide (x3 ≥ x5)) = true) (decide_eq_true h6)<|P0))
  (fun h6 H =>
  eN H fun r hn => gO [rg [hE 4 (I x3), hE 8 (I x5), hF 9], r0, .canon [] [0, 3]] (by kernel_rfl) (P1 h2<|P1 (int_lt_of_at h2 hx3)<|P1 (at_map I hx3)<|P1 h4<|P1 (int_lt_of_at h4 hx5)<|P1 (at_map I hx5)<|P2 ((decide (x3 ≥ x5)) = false) (decide_eq_false h6)<|P0) hn))
  (fun h1 H =>
  eN H<|gE func164 [rg [hF 3], r0] (by kernel_rfl) (P2 ((decide (i1 < ((list0.length : Nat) : Int))) = false) (decide_eq_false h1)<|P0))
theorem wi_increasing : ∀ s r, loop Bi_increasing s = some r → Wc X 164 0 (Ki_increasing s) (Zi_increasing s) (RB r) ((fun _ => []) r) := Nx.all (ni_increasing)
theorem ci_increasing {a0 : (List Int)} {r : Bool} (H : Di_increasing a0 = some r) : Ct X.P X.gl 164 [sl 1 I a0] [] (RB r) [] :=
  Ct.of func164 (c := bdy f164) (by kernel_rfl) (by kernel_rfl) <|
  gO [r0, r0, .canon [] [0, 3]] (by kernel_rfl) P0 (wi_increasing _ _ H)
def Ri_hexOf (r : Gi_Hex) : List D := [.agg [I r.Q, I r.R]]
theorem ci_hexOf {a0 : Gi_Map} {a1 : Int} {r : Gi_Hex} (H : Di_hexOf a0 a1 = some r) : Ct X.P X.gl 204 [gi_Map a0, I a1] [] (Ri_hexOf r) [] :=
  Ct.of func204 (c := bdy f204) (by kernel_rfl) (by kernel_rfl) <|
  eCk H fun h1 H =>
  eCk H fun h2 H =>
  eW Ri_hexOf (fun _ => []) H<|gE func204 [r0, r0] (by kernel_rfl) (P2 (¬ (a0.Width : Int) = 0) h1<|P2 (¬ (a0.Width : Int) = 0) h2<|P0)
def Ri_stepBy (r : Gi_Hex) : List D := [.agg [I r.Q, I r.R]]
theorem ci_stepBy {a0 : Gi_Hex} {a1 : Int} {a2 : Int} {r : Gi_Hex} (H : Di_stepBy a0 a1 a2 = some r) : Ct X.P X.gl 203 [gi_Hex a0, I a1, I a2] [] (Ri_stepBy r) [] :=
  Ct.of func203 (c := bdy f203) (by kernel_rfl) (by kernel_rfl) <|
  eCk H fun h1 H =>
  eBind H fun x2 hx2 H =>
  eCk H fun h3 H =>
  eBind H fun x4 hx4 H =>
  eW Ri_stepBy (fun _ => []) H<|gE func203 [r0, rg [{ i := 6, xs := [I x2.Q] }, { i := 15, xs := [I x4.R] }]] (by kernel_rfl) (P1 h1<|P2 (a1 < ((6 : Nat) : Int)) (int_lt_of_at h1 hx2)<|P2 (getCells gc0 0 (0 + Int.toNat a1 * 2 + 0) 1 = some [I x2.Q]) (flat_at (enc := gi_Hex) (w := 2) (off := 0) (fun _ => rfl) hx2 (by omega) (by decide))<|P1 h3<|P2 (a1 < ((6 : Nat) : Int)) (int_lt_of_at h3 hx4)<|P2 (getCells gc0 0 (0 + Int.toNat a1 * 2 + 1) 1 = some [I x4.R]) (flat_at (enc := gi_Hex) (w := 2) (off := 1) (fun _ => rfl) hx4 (by omega) (by decide))<|P0)
theorem ci_indexOf {a0 : Gi_Map} {a1 : Gi_Hex} {r : Int} (H : Di_indexOf a0 a1 = some r) : Ct X.P X.gl 202 [gi_Map a0, gi_Hex a1] [] (RI r) [] :=
  Ct.of func202 (c := bdy f202) (by kernel_rfl) (by kernel_rfl) <|
  eBind H fun r1 hr1 H =>
  gS [r0] (by kernel_rfl) P0 <|
  eIf H (fun h2 H =>
  eBind H fun r3 hr3 H =>
  eIf H (fun h4 H =>
  eW RI (fun _ => []) H<|gE func202 [rg [{ i := 4, call := some { cl := true, auto := true, ins := [], res := (RB r1), G' := [] }, dec := some true }, { i := 11, call := some { cl := true, auto := true, ins := [], res := (RB r3), G' := [] }, dec := some true }], r0] (by kernel_rfl) (P1 (ci_isIndex hr1)<|P2 (r1 = true) (h2)<|P1 (ci_isIndex hr3)<|P2 (r3 = true) (h4)<|P0))
  (fun h4 H =>
  eW RI (fun _ => []) H<|gE func202 [rg [{ i := 4, call := some { cl := true, auto := true, ins := [], res := (RB r1), G' := [] }, dec := some true }, { i := 11, call := some { cl := true, auto := true, ins := [], res := (RB r3), G' := [] }, dec := some false }], r0] (by kernel_rfl) (P1 (ci_isIndex hr1)<|P2 (r1 = true) (h2)<|P1 (ci_isIndex hr3)<|P2 (r3 = false) (eqF h4)<|P0)))
  (fun h2 H =>
  eW RI (fun _ => []) H<|gE func202 [rg [{ i := 4, call := some { cl := true, auto := true, ins := [], res := (RB r1), G' := [] }, dec := some false }], r0] (by kernel_rfl) (P1 (ci_isIndex hr1)<|P2 (r1 = false) (eqF h2)<|P0))
theorem ci_nextTo {a0 : Gi_Map} {a1 : Int} {a2 : Int} {r : Int} (H : Di_nextTo a0 a1 a2 = some r) : Ct X.P X.gl 198 [gi_Map a0, I a1, I a2] [] (RI r) [] :=
  Ct.of func198 (c := bdy f198) (by kernel_rfl) (by kernel_rfl) <|
  eBind H fun r1 hr1 H =>
  eBind H fun r2 hr2 H =>
  eBind H fun r3 hr3 H =>
  eW RI (fun _ => []) H<|gE func198 [r0, rg [hC 3 true [] (Ri_hexOf r1) [], hC 5 true [] (Ri_stepBy r2) [], hC 6 true [] (RI r3) []]] (by kernel_rfl) (P1 (ci_hexOf hr1)<|P1 (ci_stepBy hr2)<|P1 (ci_indexOf hr3)<|P0)
theorem ci_isEdge {a0 : Gi_Map} {a1 : Int} {r : Bool} (H : Di_isEdge a0 a1 = some r) : Ct X.P X.gl 184 [gi_Map a0, I a1] [] (RB r) [] :=
  Ct.of func184 (c := bdy f184) (by kernel_rfl) (by kernel_rfl) <|
  eBind H fun r1 hr1 H =>
  gS [r0] (by kernel_rfl) P0 <|
  eIf H (fun h2 H =>
  eBind H fun r3 hr3 H =>
  eW RB (fun _ => []) H<|gE func184 [rg [{ i := 8, call := some { cl := true, auto := true, ins := [], res := (RB r1), G' := [] }, dec := some true }, hC 15 true [] (RI r3) []]] (by kernel_rfl) (P1 (ci_inRange hr1)<|P2 (r1 = true) (h2)<|P2 (¬ (3 : Int) = 0) (by decide)<|P2 (¬ (3 : Int) = 0) (by decide)<|P1 (ci_nextTo hr3)<|P0))
  (fun h2 H =>
  eW RB (fun _ => []) H<|gE func184 [rg [{ i := 8, call := some { cl := true, auto := true, ins := [], res := (RB r1), G' := [] }, dec := some false }]] (by kernel_rfl) (P1 (ci_inRange hr1)<|P2 (r1 = false) (eqF h2)<|P0))
noncomputable def Ki_IsMap : Si_IsMap → List Item
 | .h1 .. => nav 300 3 [false] [.code (bdy f156)]
 | .h2 .. => nav 300 5 [false, false] [.code (bdy f156)]
 | .h3 .. => nav 300 9 [false, false, true, false] [.code (bdy f156)]
def Zi_IsMap : Si_IsMap → St
 | .h1 t0 t1 t2 b3 => ⟨sts 66 [(1, .ptr 0 5 0 0), (31, sl 1 I t0), (32, I t1), (33, I t2)], [some ⟨false, true, 5, 1, [gi_Map b3]⟩]⟩
 | .h2 t0 t1 b2 l3 => ⟨sts 66 [(1, .ptr 0 5 0 0), (45, .ref 1 1 none), (46, I t0), (47, I t1)], [some ⟨false, true, 5, 1, [gi_Map b2]⟩, some ⟨false, false, 1, l3.length, List.map (sl 1 I) l3⟩]⟩
 | .h3 t0 t1 t2 t3 t4 b5 l6 => ⟨sts 66 [(1, .ptr 0 5 0 0), (45, .ref 1 1 none), (46, I t0), (47, I t1), (54, sl 1 I t2), (55, I t3), (56, I t4)], [some ⟨false, true, 5, 1, [gi_Map b5]⟩, some ⟨false, false, 1, l6.length, List.map (sl 1 I) l6⟩]⟩
abbrev Qi_IsMap := Nx X 156 0 Ki_IsMap Zi_IsMap RB (fun _ => [])
theorem ni_IsMap : ∀ s o, Bi_IsMap s = some o → Qi_IsMap (Ki_IsMap s) (Zi_IsMap s) o
 | .h1 t0 t1 t2 b3, o, H =>
  eIf H (fun h1 H =>
  eCk H fun h2 H =>
  eBind H fun x3 hx3 H =>
  eBind H fun r4 hr4 H =>
  gN [rg [hT 0], rg [hE 1 (I x3)]] (by kernel_rfl) (P2 ((decide (t2 < t1)) = true) (decide_eq_true h1)<|P1 h2<|P1 (int_lt_of_at h2 hx3)<|P1 (at_map I hx3)<|P0) <|
  eIf H (fun h5 H =>
  eN H fun r hn => gO [rg [{ i := 1, call := some { cl := true, auto := true, ins := [], res := (RB r4), G' := [] }, dec := some true }], r0, .canon [0] [1, 31, 32, 33]] (by kernel_rfl) (P1 (ci_isIndex hr4)<|P2 (r4 = true) (h5)<|P0) hn)
  (fun h5 H =>
  eN H<|gE func156 [rg [{ i := 1, call := some { cl := true, auto := true, ins := [], res := (RB r4), G' := [] }, dec := some false }], r0] (by kernel_rfl) (P1 (ci_isIndex hr4)<|P2 (r4 = false) (eqF h5)<|P0)))
  (fun h1 H =>
  eN H fun r hn => gO [rg [hF 0], r0, .canon [0, 1] [1, 45, 46, 47]] (by kernel_rfl) (P2 ((decide (t2 < t1)) = false) (decide_eq_false h1)<|P0) hn)
 | .h2 t0 t1 b2 l3, o, H =>
  eIf H (fun h1 H =>
  eCk H fun h2 H =>
  eBind H fun x3 hx3 H =>
  eBind H fun r4 hr4 H =>
  gN [rg [hT 0], rg [hE 1 ((sl 1 I) x3)]] (by kernel_rfl) (P2 ((decide (t1 < t0)) = true) (decide_eq_true h1)<|P1 h2<|P1 (int_lt_of_at h2 hx3)<|P1 (at_map (sl 1 I) hx3)<|P0) <|
  eIf H (fun h5 H =>
  eN H fun r hn => gO [rg [{ i := 1, call := some { cl := true, auto := true, ins := [], res := (RB r4), G' := [] }, dec := some true }], r0, .canon [0, 1] [1, 45, 46, 47, 54, 55, 56]] (by kernel_rfl) (P1 (ci_increasing hr4)<|P2 (r4 = true) (h5)<|P0) hn)
  (fun h5 H =>
  eN H<|gE func156 [rg [{ i := 1, call := some { cl := true, auto := true, ins := [], res := (RB r4), G' := [] }, dec := some false }], r0] (by kernel_rfl) (P1 (ci_increasing hr4)<|P2 (r4 = false) (eqF h5)<|P0)))
  (fun h1 H =>
  eN H<|gE func156 [rg [hF 0], r0] (by kernel_rfl) (P2 ((decide (t1 < t0)) = false) (decide_eq_false h1)<|P0))
 | .h3 t0 t1 t2 t3 t4 b5 l6, o, H =>
  eIf H (fun h1 H =>
  eCk H fun h2 H =>
  eBind H fun x3 hx3 H =>
  eBind H fun r4 hr4 H =>
  gN [rg [hT 0], rg [hE 1 (I x3)]] (by kernel_rfl) (P2 ((decide (t4 < t3)) = true) (decide_eq_true h1)<|P1 h2<|P1 (int_lt_of_at h2 hx3)<|P1 (at_map I hx3)<|P0) <|
  eIf H (fun h5 H =>
  eN H fun r hn => gO [rg [{ i := 2, call := some { cl := true, auto := true, ins := [], res := (RB r4), G' := [] }, dec := some true }], r0, .canon [0, 1] [1, 45, 46, 47, 54, 55, 56]] (by kernel_rfl) (P1 (ci_isEdge hr4)<|P2 (r4 = true) (h5)<|P0) hn)
  (fun h5 H =>
  eN H<|gE func156 [rg [{ i := 2, call := some { cl := true, auto := true, ins := [], res := (RB r4), G' := [] }, dec := some false }], r0] (by kernel_rfl) (P1 (ci_isEdge hr4)<|P2 (r4 = false) (eqF h5)<|P0)))
  (fun h1 H =>
  eN H fun r hn => gO [rg [hF 0], r0, .canon [0, 1] [1, 45, 46, 47]] (by kernel_rfl) (P2 ((decide (t4 < t3)) = false) (decide_eq_false h1)<|P0) hn)
theorem wi_IsMap : ∀ s r, loop Bi_IsMap s = some r → Wc X 156 0 (Ki_IsMap s) (Zi_IsMap s) (RB r) ((fun _ => []) r) := Nx.all (ni_IsMap)
theorem ci_IsMap {a0 : Gi_Map} {r : Bool} (H : Di_IsMap a0 = some r) : Ct X.P X.gl 156 [gi_Map a0] [] (RB r) [] :=
  Ct.of func156 (c := bdy f156) (by kernel_rfl) (by kernel_rfl) <|
  eBind H fun r1 hr1 H =>
  gS [r0] (by kernel_rfl) P0 <|
  eIf H (fun h2 H =>
  eBind H fun r3 hr3 H =>
  eIf H (fun h4 H =>
  eIf H (fun h5 H =>
  gO [rg [{ i := 2, call := some { cl := true, auto := true, ins := [], res := (RB r1), G' := [] }, dec := some true }, { i := 7, call := some { cl := true, auto := true, ins := [], res := (RB r3), G' := [] }, dec := some true }, hF 19], r0, .canon [0] [1, 31, 32, 33]] (by kernel_rfl) (P1 (ci_inRange hr1)<|P2 (r1 = true) (h2)<|P1 (ci_inRange hr3)<|P2 (r3 = true) (h4)<|P2 (((((a0.Terrain.length : Nat) : Int) : Int) != (IntKind.wrap .i64 (a0.Width * a0.Height))) = false) (bneF h5)<|P0) (wi_IsMap _ _ H))
  (fun h5 H =>
  eW RB (fun _ => []) H<|gE func156 [rg [{ i := 2, call := some { cl := true, auto := true, ins := [], res := (RB r1), G' := [] }, dec := some true }, { i := 7, call := some { cl := true, auto := true, ins := [], res := (RB r3), G' := [] }, dec := some true }, hT 19], r0] (by kernel_rfl) (P1 (ci_inRange hr1)<|P2 (r1 = true) (h2)<|P1 (ci_inRange hr3)<|P2 (r3 = true) (h4)<|P2 (((((a0.Terrain.length : Nat) : Int) : Int) != (IntKind.wrap .i64 (a0.Width * a0.Height))) = true) (bneT h5)<|P0)))
  (fun h4 H =>
  eW RB (fun _ => []) H<|gE func156 [rg [{ i := 2, call := some { cl := true, auto := true, ins := [], res := (RB r1), G' := [] }, dec := some true }, { i := 7, call := some { cl := true, auto := true, ins := [], res := (RB r3), G' := [] }, dec := some false }], r0] (by kernel_rfl) (P1 (ci_inRange hr1)<|P2 (r1 = true) (h2)<|P1 (ci_inRange hr3)<|P2 (r3 = false) (eqF h4)<|P0)))
  (fun h2 H =>
  eW RB (fun _ => []) H<|gE func156 [rg [{ i := 2, call := some { cl := true, auto := true, ins := [], res := (RB r1), G' := [] }, dec := some false }], r0] (by kernel_rfl) (P1 (ci_inRange hr1)<|P2 (r1 = false) (eqF h2)<|P0))
theorem ci_IsBoard_1 {a0 : Int} {a1 : Gi_Board} {r : Bool} (H : Di_IsBoard_1 a0 a1 = some r) : Ct X.P X.gl 158 [I a0, .fptr 12 [.agg [sl 5 gi_Terrain a1.Rules.Terrains, sl 6 gi_Kind a1.Rules.Kinds, I a1.Rules.Stack, I a1.Rules.River, I a1.Rules.Road, I a1.Rules.Supply, I a1.Rules.Turns, I a1.Map.Width, I a1.Map.Height, sl 1 I a1.Map.Terrain, sl 1 I a1.Map.Rivers, sl 1 I a1.Map.Roads]] 0 0] [] (RB r) [] :=
  Ct.of func158 (c := bdy f158) (by kernel_rfl) (by kernel_rfl) <|
  eW RB (fun _ => []) H<|gE func158 [r0, r0] (by kernel_rfl) P0
noncomputable def Kslices_IndexFunc_int_i_IsBoard_1 : Sslices_IndexFunc_int_i_IsBoard_1 → List Item
 | .h1 .. => nav 300 2 [] [.code (bdy f185)]
def Zslices_IndexFunc_int_i_IsBoard_1 : Sslices_IndexFunc_int_i_IsBoard_1 → St
 | .h1 s0 f1 t2 t3 => ⟨sts 19 [(0, sl 1 I s0), (1, .fn 158 [.fptr 12 [.agg [sl 5 gi_Terrain f1.Rules.Terrains, sl 6 gi_Kind f1.Rules.Kinds, I f1.Rules.Stack, I f1.Rules.River, I f1.Rules.Road, I f1.Rules.Supply, I f1.Rules.Turns, I f1.Map.Width, I f1.Map.Height, sl 1 I f1.Map.Terrain, sl 1 I f1.Map.Rivers, sl 1 I f1.Map.Roads]] 0 0]), (7, I t2), (8, I t3)], []⟩
abbrev Qslices_IndexFunc_int_i_IsBoard_1 := Nx X 185 0 Kslices_IndexFunc_int_i_IsBoard_1 Zslices_IndexFunc_int_i_IsBoard_1 RI (fun _ => [])
theorem nslices_IndexFunc_int_i_IsBoard_1 : ∀ s o, Bslices_IndexFunc_int_i_IsBoard_1 s = some o → Qslices_IndexFunc_int_i_IsBoard_1 (Kslices_IndexFunc_int_i_IsBoard_1 s) (Zslices_IndexFunc_int_i_IsBoard_1 s) o
 | .h1 s0 f1 t2 t3, o, H =>
  eIf H (fun h1 H =>
  eCk H fun h2 H =>
  eBind H fun x3 hx3 H =>
  eBind H fun r4 hr4 H =>
  gN [rg [hT 0], r0] (by kernel_rfl) (P2 ((decide (t3 < t2)) = true) (decide_eq_true h1)<|P0) <|
  eIf H (fun h5 H =>
  eN H<|gE func185 [rg [hE 4 (I x3), { i := 5, call := some { cl := true, auto := true, ins := [], res := (RB r4), G' := [] }, dec := some true }], r0] (by kernel_rfl) (P1 h2<|P1 (int_lt_of_at h2 hx3)<|P1 (at_map I hx3)<|P1 (ci_IsBoard_1 hr4)<|P2 (r4 = true) (h5)<|P0))
  (fun h5 H =>
  eN H fun r hn => gO [rg [hE 4 (I x3), { i := 5, call := some { cl := true, auto := true, ins := [], res := (RB r4), G' := [] }, dec := some false }], r0, .canon [] [0, 1, 7, 8]] (by kernel_rfl) (P1 h2<|P1 (int_lt_of_at h2 hx3)<|P1 (at_map I hx3)<|P1 (ci_IsBoard_1 hr4)<|P2 (r4 = false) (eqF h5)<|P0) hn))
  (fun h1 H =>
  eN H<|gE func185 [rg [hF 0], r0] (by kernel_rfl) (P2 ((decide (t3 < t2)) = false) (decide_eq_false h1)<|P0))
theorem wslices_IndexFunc_int_i_IsBoard_1 : ∀ s r, loop Bslices_IndexFunc_int_i_IsBoard_1 s = some r → Wc X 185 0 (Kslices_IndexFunc_int_i_IsBoard_1 s) (Zslices_IndexFunc_int_i_IsBoard_1 s) (RI r) ((fun _ => []) r) := Nx.all (nslices_IndexFunc_int_i_IsBoard_1)
theorem cslices_IndexFunc_int_i_IsBoard_1 {a0 : (List Int)} {a100 : Gi_Board} {r : Int} (H : Dslices_IndexFunc_int_i_IsBoard_1 a0 a100 = some r) : Ct X.P X.gl 185 [sl 1 I a0, .fn 158 [.fptr 12 [.agg [sl 5 gi_Terrain a100.Rules.Terrains, sl 6 gi_Kind a100.Rules.Kinds, I a100.Rules.Stack, I a100.Rules.River, I a100.Rules.Road, I a100.Rules.Supply, I a100.Rules.Turns, I a100.Map.Width, I a100.Map.Height, sl 1 I a100.Map.Terrain, sl 1 I a100.Map.Rivers, sl 1 I a100.Map.Roads]] 0 0]] [] (RI r) [] :=
  Ct.of func185 (c := bdy f185) (by kernel_rfl) (by kernel_rfl) <|
  gO [r0, r0, .canon [] [0, 1, 7, 8]] (by kernel_rfl) P0 (wslices_IndexFunc_int_i_IsBoard_1 _ _ H)
theorem cslices_ContainsFunc_int_i_IsBoard_1 {a0 : (List Int)} {a100 : Gi_Board} {r : Bool} (H : Dslices_ContainsFunc_int_i_IsBoard_1 a0 a100 = some r) : Ct X.P X.gl 157 [sl 1 I a0, .fn 158 [.fptr 12 [.agg [sl 5 gi_Terrain a100.Rules.Terrains, sl 6 gi_Kind a100.Rules.Kinds, I a100.Rules.Stack, I a100.Rules.River, I a100.Rules.Road, I a100.Rules.Supply, I a100.Rules.Turns, I a100.Map.Width, I a100.Map.Height, sl 1 I a100.Map.Terrain, sl 1 I a100.Map.Rivers, sl 1 I a100.Map.Roads]] 0 0]] [] (RB r) [] :=
  Ct.of func157 (c := bdy f157) (by kernel_rfl) (by kernel_rfl) <|
  eBind H fun r1 hr1 H =>
  eW RB (fun _ => []) H<|gE func157 [r0, rg [hC 2 true [] (RI r1) []]] (by kernel_rfl) (P1 (cslices_IndexFunc_int_i_IsBoard_1 hr1)<|P0)
theorem ci_IsBoard {a0 : Gi_Board} {r : Bool} (H : Di_IsBoard a0 = some r) : Ct X.P X.gl 120 [gi_Board a0] [] (RB r) [] :=
  Ct.of func120 (c := bdy f120) (by kernel_rfl) (by kernel_rfl) <|
  eBind H fun r1 hr1 H =>
  gS [r0] (by kernel_rfl) P0 <|
  eIf H (fun h2 H =>
  eBind H fun r3 hr3 H =>
  eIf H (fun h4 H =>
  eBind H fun r5 hr5 H =>
  eW RB (fun _ => []) H<|gE func120 [rg [{ i := 2, call := some { cl := true, auto := true, ins := [], res := (RB r1), G' := [] }, dec := some true }, { i := 7, call := some { cl := true, auto := true, ins := [], res := (RB r3), G' := [] }, dec := some true }], rg [hC 4 false [] (RB r5) []]] (by kernel_rfl) (P1 (ci_IsRules hr1)<|P2 (r1 = true) (h2)<|P1 (ci_IsMap hr3)<|P2 (r3 = true) (h4)<|P1 (cslices_ContainsFunc_int_i_IsBoard_1 hr5)<|P0))
  (fun h4 H =>
  eW RB (fun _ => []) H<|gE func120 [rg [{ i := 2, call := some { cl := true, auto := true, ins := [], res := (RB r1), G' := [] }, dec := some true }, { i := 7, call := some { cl := true, auto := true, ins := [], res := (RB r3), G' := [] }, dec := some false }], r0] (by kernel_rfl) (P1 (ci_IsRules hr1)<|P2 (r1 = true) (h2)<|P1 (ci_IsMap hr3)<|P2 (r3 = false) (eqF h4)<|P0)))
  (fun h2 H =>
  eW RB (fun _ => []) H<|gE func120 [rg [{ i := 2, call := some { cl := true, auto := true, ins := [], res := (RB r1), G' := [] }, dec := some false }], r0] (by kernel_rfl) (P1 (ci_IsRules hr1)<|P2 (r1 = false) (eqF h2)<|P0))
theorem ci_isResult {a0 : Int} {r : Bool} (H : Di_isResult a0 = some r) : Ct X.P X.gl 160 [I a0] [] (RB r) [] :=
  Ct.of func160 (c := bdy f160) (by kernel_rfl) (by kernel_rfl) <|
  eBind H fun r1 hr1 H =>
  eW RB (fun _ => []) H<|gE func160 [r0, rg [hC 1 true [] (RB r1) []]] (by kernel_rfl) (P1 (ci_inRange hr1)<|P0)
theorem ci_IsCombatTable_1 {a0 : Int} {r : Bool} (H : Di_IsCombatTable_1 a0 = some r) : Ct X.P X.gl 159 [I a0] [] (RB r) [] :=
  Ct.of func159 (c := bdy f159) (by kernel_rfl) (by kernel_rfl) <|
  eBind H fun r1 hr1 H =>
  eW RB (fun _ => []) H<|gE func159 [r0, rg [hC 1 true [] (RB r1) []]] (by kernel_rfl) (P1 (ci_isResult hr1)<|P0)
noncomputable def Kslices_IndexFunc_int_i_IsCombatTable_1 : Sslices_IndexFunc_int_i_IsCombatTable_1 → List Item
 | .h1 .. => nav 300 2 [] [.code (bdy f185)]
def Zslices_IndexFunc_int_i_IsCombatTable_1 : Sslices_IndexFunc_int_i_IsCombatTable_1 → St
 | .h1 s0 t1 t2 => ⟨sts 19 [(0, sl 1 I s0), (1, .fn 159 []), (7, I t1), (8, I t2)], []⟩
abbrev Qslices_IndexFunc_int_i_IsCombatTable_1 := Nx X 185 0 Kslices_IndexFunc_int_i_IsCombatTable_1 Zslices_IndexFunc_int_i_IsCombatTable_1 RI (fun _ => [])
theorem nslices_IndexFunc_int_i_IsCombatTable_1 : ∀ s o, Bslices_IndexFunc_int_i_IsCombatTable_1 s = some o → Qslices_IndexFunc_int_i_IsCombatTable_1 (Kslices_IndexFunc_int_i_IsCombatTable_1 s) (Zslices_IndexFunc_int_i_IsCombatTable_1 s) o
 | .h1 s0 t1 t2, o, H =>
  eIf H (fun h1 H =>
  eCk H fun h2 H =>
  eBind H fun x3 hx3 H =>
  eBind H fun r4 hr4 H =>
  gN [rg [hT 0], r0] (by kernel_rfl) (P2 ((decide (t2 < t1)) = true) (decide_eq_true h1)<|P0) <|
  eIf H (fun h5 H =>
  eN H<|gE func185 [rg [hE 4 (I x3), { i := 5, call := some { cl := true, auto := true, ins := [], res := (RB r4), G' := [] }, dec := some true }], r0] (by kernel_rfl) (P1 h2<|P1 (int_lt_of_at h2 hx3)<|P1 (at_map I hx3)<|P1 (ci_IsCombatTable_1 hr4)<|P2 (r4 = true) (h5)<|P0))
  (fun h5 H =>
  eN H fun r hn => gO [rg [hE 4 (I x3), { i := 5, call := some { cl := true, auto := true, ins := [], res := (RB r4), G' := [] }, dec := some false }], r0, .canon [] [0, 1, 7, 8]] (by kernel_rfl) (P1 h2<|P1 (int_lt_of_at h2 hx3)<|P1 (at_map I hx3)<|P1 (ci_IsCombatTable_1 hr4)<|P2 (r4 = false) (eqF h5)<|P0) hn))
  (fun h1 H =>
  eN H<|gE func185 [rg [hF 0], r0] (by kernel_rfl) (P2 ((decide (t2 < t1)) = false) (decide_eq_false h1)<|P0))
theorem wslices_IndexFunc_int_i_IsCombatTable_1 : ∀ s r, loop Bslices_IndexFunc_int_i_IsCombatTable_1 s = some r → Wc X 185 0 (Kslices_IndexFunc_int_i_IsCombatTable_1 s) (Zslices_IndexFunc_int_i_IsCombatTable_1 s) (RI r) ((fun _ => []) r) := Nx.all (nslices_IndexFunc_int_i_IsCombatTable_1)
theorem cslices_IndexFunc_int_i_IsCombatTable_1 {a0 : (List Int)} {r : Int} (H : Dslices_IndexFunc_int_i_IsCombatTable_1 a0 = some r) : Ct X.P X.gl 185 [sl 1 I a0, .fn 159 []] [] (RI r) [] :=
  Ct.of func185 (c := bdy f185) (by kernel_rfl) (by kernel_rfl) <|
  gO [r0, r0, .canon [] [0, 1, 7, 8]] (by kernel_rfl) P0 (wslices_IndexFunc_int_i_IsCombatTable_1 _ _ H)
theorem cslices_ContainsFunc_int_i_IsCombatTable_1 {a0 : (List Int)} {r : Bool} (H : Dslices_ContainsFunc_int_i_IsCombatTable_1 a0 = some r) : Ct X.P X.gl 157 [sl 1 I a0, .fn 159 []] [] (RB r) [] :=
  Ct.of func157 (c := bdy f157) (by kernel_rfl) (by kernel_rfl) <|
  eBind H fun r1 hr1 H =>
  eW RB (fun _ => []) H<|gE func157 [r0, rg [hC 2 true [] (RI r1) []]] (by kernel_rfl) (P1 (cslices_IndexFunc_int_i_IsCombatTable_1 hr1)<|P0)
end Go.Proofs.YtcblbhjbocipbaaGreatDoor.Ab
