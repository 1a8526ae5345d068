/- Part of the proof of FnExactMirrorScenarioCard: no condition of its own. -/
import Derived.Test.YtdafkeddonfjkaaGreatDoorAb5
import Derived.Test.YtdafkeddonfjkaaGreatDoorAb5
import Derived.Test.YtdafkeddonfjkaaGreatDoorChecked
import Derived.Test.YtdafkeddonfjkaaGreatDoorD2MD
set_option linter.unusedVariables false
set_option linter.unusedSimpArgs false
open Go Go.Proofs Go.Proofs.Tryz
namespace Go.Proofs.YtdafkeddonfjkaaGreatDoor.Ab
def T : Tab := [(3, ⟨(TK.int IntKind.i64), 1, 8, I 0⟩),
 (4, ⟨TK.bool, 1, 1, (D.bool false)⟩),
 (5, ⟨(TK.int IntKind.u8), 1, 1, .int .u8 0⟩),
 (9, ⟨TK.str, 1, 16, (D.str (ByteArray.mk (Array.mk [])))⟩),
 (22, ⟨(TK.slice 186), 1, 24, D.nil⟩),
 (23, ⟨(TK.slice 189), 1, 24, D.nil⟩),
 (25, ⟨(TK.strct [(FI.mk 0 1 false), (FI.mk 1 1 false), (FI.mk 2 1 false), (FI.mk 3 1 false), (FI.mk 4 1 false), (FI.mk 5 1 false), (FI.mk 6 1 false)] none), 7, 88, (D.agg [D.nil, D.nil, I 0, I 0, I 0, I 0, I 0])⟩),
 (26, ⟨(TK.slice 3), 1, 24, D.nil⟩),
 (28, ⟨(TK.strct [(FI.mk 0 1 false), (FI.mk 1 1 false), (FI.mk 2 1 false), (FI.mk 3 1 false), (FI.mk 4 1 false)] none), 5, 88, (D.agg [I 0, I 0, D.nil, D.nil, D.nil])⟩),
 (30, ⟨(TK.strct [(FI.mk 0 7 true), (FI.mk 7 5 true)] none), 12, 176, (D.agg [D.nil, D.nil, I 0, I 0, I 0, I 0, I 0, I 0, I 0, D.nil, D.nil, D.nil])⟩),
 (31, ⟨(TK.slice 159), 1, 24, D.nil⟩),
 (32, ⟨(TK.slice 26), 1, 24, D.nil⟩),
 (34, ⟨(TK.strct [(FI.mk 0 1 false), (FI.mk 1 1 false), (FI.mk 2 1 false)] none), 3, 56, (D.agg [D.nil, I 0, D.nil])⟩),
 (35, ⟨(TK.slice 161), 1, 24, D.nil⟩),
 (37, ⟨(TK.strct [(FI.mk 0 1 false), (FI.mk 1 1 false), (FI.mk 2 1 false)] none), 3, 40, (D.agg [I 0, I 0, D.nil])⟩),
 (38, ⟨(TK.slice 163), 1, 24, D.nil⟩),
 (40, ⟨(TK.strct [(FI.mk 0 1 false), (FI.mk 1 1 false), (FI.mk 2 1 false)] none), 3, 40, (D.agg [D.nil, I 0, I 0])⟩),
 (42, ⟨(TK.strct [(FI.mk 0 1 false), (FI.mk 1 12 true), (FI.mk 13 3 true), (FI.mk 16 3 true), (FI.mk 19 3 true), (FI.mk 22 1 false), (FI.mk 23 1 false)] none), 24, 376, (D.agg [(D.str (ByteArray.mk (Array.mk []))), D.nil, D.nil, I 0, I 0, I 0, I 0, I 0, I 0, I 0, D.nil, D.nil, D.nil, D.nil, I 0, D.nil, I 0, I 0, D.nil, D.nil, I 0, I 0, D.nil, D.nil])⟩),
 (46, ⟨(TK.slice 152), 1, 24, D.nil⟩),
 (47, ⟨(TK.slice 197), 1, 24, D.nil⟩),
 (49, ⟨(TK.strct [(FI.mk 0 1 false), (FI.mk 1 1 false), (FI.mk 2 1 false), (FI.mk 3 1 false), (FI.mk 4 1 false), (FI.mk 5 1 false), (FI.mk 6 1 false)] none), 7, 88, (D.agg [D.nil, D.nil, I 0, I 0, I 0, I 0, I 0])⟩),
 (50, ⟨(TK.strct [(FI.mk 0 1 false), (FI.mk 1 1 false), (FI.mk 2 1 false), (FI.mk 3 1 false), (FI.mk 4 1 false)] none), 5, 88, (D.agg [I 0, I 0, D.nil, D.nil, D.nil])⟩),
 (52, ⟨(TK.strct [(FI.mk 0 7 true), (FI.mk 7 5 true)] none), 12, 176, (D.agg [D.nil, D.nil, I 0, I 0, I 0, I 0, I 0, I 0, I 0, D.nil, D.nil, D.nil])⟩),
 (53, ⟨(TK.slice 157), 1, 24, D.nil⟩),
 (55, ⟨(TK.strct [(FI.mk 0 1 false), (FI.mk 1 1 false), (FI.mk 2 1 false)] none), 3, 56, (D.agg [D.nil, I 0, D.nil])⟩),
 (56, ⟨(TK.slice 83), 1, 24, D.nil⟩),
 (58, ⟨(TK.strct [(FI.mk 0 1 false), (FI.mk 1 1 false), (FI.mk 2 1 false)] none), 3, 40, (D.agg [I 0, I 0, D.nil])⟩),
 (59, ⟨(TK.slice 80), 1, 24, D.nil⟩),
 (61, ⟨(TK.strct [(FI.mk 0 1 false), (FI.mk 1 1 false), (FI.mk 2 1 false)] none), 3, 40, (D.agg [D.nil, I 0, I 0])⟩),
 (63, ⟨(TK.strct [(FI.mk 0 1 false), (FI.mk 1 12 true), (FI.mk 13 3 true), (FI.mk 16 3 true), (FI.mk 19 3 true), (FI.mk 22 1 false), (FI.mk 23 1 false)] none), 24, 376, (D.agg [(D.str (ByteArray.mk (Array.mk []))), D.nil, D.nil, I 0, I 0, I 0, I 0, I 0, I 0, I 0, D.nil, D.nil, D.nil, D.nil, I 0, D.nil, I 0, I 0, D.nil, D.nil, I 0, I 0, D.nil, D.nil])⟩),
 (80, ⟨(TK.strct [(FI.mk 0 1 false), (FI.mk 1 1 false)] (some [(LK.int IntKind.i64), (LK.int IntKind.i64)])), 2, 16, (D.agg [I 0, I 0])⟩),
 (83, ⟨(TK.strct [(FI.mk 0 1 false), (FI.mk 1 1 false), (FI.mk 2 1 false), (FI.mk 3 1 false)] (some [(LK.int IntKind.i64), (LK.int IntKind.i64), (LK.int IntKind.i64), (LK.int IntKind.i64)])), 4, 32, (D.agg [I 0, I 0, I 0, I 0])⟩),
 (148, ⟨(TK.strct [(FI.mk 0 1 false), (FI.mk 1 1 false)] (some [(LK.int IntKind.i64), (LK.int IntKind.i64)])), 2, 16, (D.agg [I 0, I 0])⟩),
 (152, ⟨(TK.strct [(FI.mk 0 1 false), (FI.mk 1 1 false), (FI.mk 2 1 false), (FI.mk 3 1 false), (FI.mk 4 1 false)] none), 5, 64, (D.agg [(D.str (ByteArray.mk (Array.mk []))), D.nil, I 0, I 0, (D.bool false)])⟩),
 (157, ⟨(TK.strct [(FI.mk 0 1 false), (FI.mk 1 1 false)] (some [(LK.int IntKind.i64), (LK.int IntKind.i64)])), 2, 16, (D.agg [I 0, I 0])⟩),
 (159, ⟨(TK.strct [(FI.mk 0 1 false), (FI.mk 1 1 false)] (some [(LK.int IntKind.i64), (LK.int IntKind.i64)])), 2, 16, (D.agg [I 0, I 0])⟩),
 (161, ⟨(TK.strct [(FI.mk 0 1 false), (FI.mk 1 1 false), (FI.mk 2 1 false), (FI.mk 3 1 false)] (some [(LK.int IntKind.i64), (LK.int IntKind.i64), (LK.int IntKind.i64), (LK.int IntKind.i64)])), 4, 32, (D.agg [I 0, I 0, I 0, I 0])⟩),
 (163, ⟨(TK.strct [(FI.mk 0 1 false), (FI.mk 1 1 false)] (some [(LK.int IntKind.i64), (LK.int IntKind.i64)])), 2, 16, (D.agg [I 0, I 0])⟩),
 (184, ⟨(TK.int IntKind.u64), 1, 8, (D.int IntKind.u64 (Int.ofNat 0))⟩),
 (186, ⟨(TK.strct [(FI.mk 0 1 false), (FI.mk 1 1 false), (FI.mk 2 1 false), (FI.mk 3 1 false), (FI.mk 4 1 false)] none), 5, 64, (D.agg [(D.str (ByteArray.mk (Array.mk []))), D.nil, I 0, I 0, (D.bool false)])⟩),
 (189, ⟨(TK.strct [(FI.mk 0 1 false), (FI.mk 1 1 false), (FI.mk 2 1 false), (FI.mk 3 1 false), (FI.mk 4 1 false), (FI.mk 5 1 false)] (some [LK.str, (LK.int IntKind.i64), (LK.int IntKind.i64), (LK.int IntKind.i64), LK.bool, (LK.int IntKind.i64)])), 6, 56, (D.agg [(D.str (ByteArray.mk (Array.mk []))), I 0, I 0, I 0, (D.bool false), I 0])⟩),
 (197, ⟨(TK.strct [(FI.mk 0 1 false), (FI.mk 1 1 false), (FI.mk 2 1 false), (FI.mk 3 1 false), (FI.mk 4 1 false), (FI.mk 5 1 false)] (some [LK.str, (LK.int IntKind.i64), (LK.int IntKind.i64), (LK.int IntKind.i64), LK.bool, (LK.int IntKind.i64)])), 6, 56, (D.agg [(D.str (ByteArray.mk (Array.mk []))), I 0, I 0, I 0, (D.bool false), I 0])⟩),
 (200, ⟨(TK.slice 201), 1, 24, D.nil⟩),
 (201, ⟨(TK.arr 2 3), 2, 16, (D.agg [I 0, I 0])⟩),
 (203, ⟨(TK.arr 6 148), 12, 96, (D.agg [I 0, I 0, I 0, I 0, I 0, I 0, I 0, I 0, I 0, I 0, I 0, I 0])⟩),
 (234, ⟨(TK.slice 5), 1, 24, D.nil⟩)]
noncomputable def X : Ctx := ⟨Go.Proofs.Tryz.prog, T, [(0, .fptr 12 gc0 0 0)]⟩
theorem T_ok : TabOK X.P X.T := ⟨by kernel_rfl, by kernel_rfl, by kernel_rfl, by kernel_rfl, by kernel_rfl, by kernel_rfl, by kernel_rfl, by kernel_rfl, by kernel_rfl, by kernel_rfl, by kernel_rfl, by kernel_rfl, by kernel_rfl, by kernel_rfl, by kernel_rfl, by kernel_rfl, by kernel_rfl, by kernel_rfl, by kernel_rfl, by kernel_rfl, by kernel_rfl, by kernel_rfl, by kernel_rfl, by kernel_rfl, by kernel_rfl, by kernel_rfl, by kernel_rfl, by kernel_rfl, by kernel_rfl, by kernel_rfl, by kernel_rfl, by kernel_rfl, by kernel_rfl, by kernel_rfl, by kernel_rfl, by kernel_rfl, by kernel_rfl, by kernel_rfl, by kernel_rfl, by kernel_rfl, by kernel_rfl, by kernel_rfl, by kernel_rfl, by kernel_rfl, by kernel_rfl, by kernel_rfl, trivial⟩
theorem mixed : X.P.follows .mixedOrders = true := Go.Proofs.Tryz.checked.mixed
theorem gO {f : FuncId} {M : Nat} {k k' : List Item} {σ σ' : St} {res : List D} {G' : List Root} (cmds : List Cmd) {ps : List Prop} (h : run X M cmds k σ = some (ps, k', σ')) (hp : AllP ps) (hk : Wc X f M k' σ' res G') : Wc X f M k σ res G' := run_ok T_ok mixed h hp hk
theorem gE {f : FuncId} {M : Nat} {k : List Item} {σ : St} {res : List D} {G' : List Root} {fn : Func} (hf : X.P.funcs[f]? = some fn) (cmds : List Cmd) {ps : List Prop} (h : runFinC X M cmds k σ fn.results.toList res = some (ps, res, G')) (hp : AllP ps) : Wc X f M k σ res G' := runFinC_ok T_ok mixed hf h hp
theorem gS {f : FuncId} {M : Nat} {k : List Item} {σ : St} {res : List D} {G' : List Root} (cmds : List Cmd) {ps : List Prop} (h : runP X M cmds k σ = some ps) (hp : AllP ps) (hk : Wc X f M (runK X M cmds k σ) (runS X M cmds k σ) res G') : Wc X f M k σ res G' := seg_ok T_ok mixed cmds h hp hk
theorem gN {ς ρ : Type} {f : FuncId} {M : Nat} {K : ς → List Item} {Z : ς → St} {R : ρ → List D} {G : ρ → List Root} {k : List Item} {σ : St} {o : ς ⊕ ρ} (cmds : List Cmd) {ps : List Prop} (h : runP X M cmds k σ = some ps) (hp : AllP ps) (hk : Nx X f M K Z R G (runK X M cmds k σ) (runS X M cmds k σ) o) : Nx X f M K Z R G k σ o := segN_ok T_ok mixed cmds h hp hk
theorem nf_3 : ∀ x, (I x).nf := fun x => by simp [D.nf, nfL]
theorem nf_80 : ∀ x, (gi_Goal x).nf := fun x => by simp [gi_Goal, D.nf, nfL]
theorem nf_83 : ∀ x, (gi_Unit x).nf := fun x => by simp [gi_Unit, D.nf, nfL]
theorem nf_157 : ∀ x, (gi_Odds x).nf := fun x => by simp [gi_Odds, D.nf, nfL]
theorem nf_197 : ∀ x, (gi_Kind x).nf := fun x => by simp [gi_Kind, D.nf, nfL]
theorem nfo_26 : ∀ x, ((ow 1 I) x).nf := fun x => by simp [D.nf, nfL, nf_ow nf_3]
theorem nfo_152 : ∀ x, (goi_Terrain x).nf := fun x => by simp [goi_Terrain, gi_Terrain, D.nf, nfL, nf_ow nf_3]
theorem ero_26 : ∀ x, ((ow 1 I) x).er = ((sl 1 I) x).er := fun x => er_ow (fun _ => rfl) _ x
theorem ero_152 : ∀ x, (goi_Terrain x).er = (gi_Terrain x).er := fun x => by simp [goi_Terrain, gi_Terrain, D.er, erL, er_ow (f := I) (g := I) (fun _ => rfl)]
theorem allOw_26 (l : List (List Int)) : AllOw (List.map (ow 1 I) l) := allOw_map (fun x c hc => by simp [ow, D.cells] at hc; rcases hc with rfl <;> rfl) l
theorem allOw_152 (l : List Gi_Terrain) : AllOw (List.map goi_Terrain l) := allOw_map (fun x c hc => by simp [goi_Terrain, gi_Terrain, D.cells] at hc; rcases hc with rfl | rfl | rfl | rfl | rfl <;> rfl) l
theorem allFl_3 (l : List Int) : AllFl (List.map I l) := allFl_map (fun x c hc => by simp [D.cells] at hc; rcases hc with rfl <;> rfl) l
theorem allFl_80 (l : List Gi_Goal) : AllFl (List.map gi_Goal l) := allFl_map (fun x c hc => by simp [gi_Goal, D.cells] at hc; rcases hc with rfl | rfl <;> rfl) l
theorem allFl_83 (l : List Gi_Unit) : AllFl (List.map gi_Unit l) := allFl_map (fun x c hc => by simp [gi_Unit, D.cells] at hc; rcases hc with rfl | rfl | rfl | rfl <;> rfl) l
theorem allFl_157 (l : List Gi_Odds) : AllFl (List.map gi_Odds l) := allFl_map (fun x c hc => by simp [gi_Odds, D.cells] at hc; rcases hc with rfl | rfl <;> rfl) l
theorem allFl_197 (l : List Gi_Kind) : AllFl (List.map gi_Kind l) := allFl_map (fun x c hc => by simp [gi_Kind, D.cells] at hc; rcases hc with rfl | rfl | rfl | rfl | rfl | rfl <;> rfl) l
def lays_n189_ren : Go.Shelf.Ren := ⟨fun | 189 => 127 | 125 => 151 | 257 => 176 | 128 => 193 | 129 => 194 | 294 => 207 | 295 => 208 | 296 => 209 | 297 => 210 | 298 => 211 | 299 => 212 | 216 => 213 | 300 => 214 | 301 => 215 | 328 => 227 | 329 => 218 | 330 => 219 | 331 => 228 | 332 => 229 | 215 => 230 | 343 => 232 | n => n, fun | 28 => 26 | 3 => 3 | 46 => 184 | 0 => 0 | 51 => 219 | 53 => 221 | 4 => 4 | 183 => 212 | 182 => 211 | 131 => 216 | 5 => 5 | 9 => 9 | 218 => 236 | 222 => 240 | 228 => 247 | 229 => 248 | n => n, fun | n => n⟩
theorem lays_n189 : Go.Proofs.Lays.n189 Go.Proofs.Tryz.prog lays_n189_ren := {
 mixed := by kernel_rfl
 f125 := Go.Proofs.Tryz.func151.trans (congrArg some (by kernel_rfl))
 f128 := Go.Proofs.Tryz.func193.trans (congrArg some (by kernel_rfl))
 f129 := Go.Proofs.Tryz.func194.trans (congrArg some (by kernel_rfl))
 f189 := Go.Proofs.Tryz.func127.trans (congrArg some (by kernel_rfl))
 f215 := Go.Proofs.Tryz.func230.trans (congrArg some (by kernel_rfl))
 f216 := Go.Proofs.Tryz.func213.trans (congrArg some (by kernel_rfl))
 f257 := Go.Proofs.Tryz.func176.trans (congrArg some (by kernel_rfl))
 f294 := Go.Proofs.Tryz.func207.trans (congrArg some (by kernel_rfl))
 f295 := Go.Proofs.Tryz.func208.trans (congrArg some (by kernel_rfl))
 f296 := Go.Proofs.Tryz.func209.trans (congrArg some (by kernel_rfl))
 f297 := Go.Proofs.Tryz.func210.trans (congrArg some (by kernel_rfl))
 f298 := Go.Proofs.Tryz.func211.trans (congrArg some (by kernel_rfl))
 f299 := Go.Proofs.Tryz.func212.trans (congrArg some (by kernel_rfl))
 f300 := Go.Proofs.Tryz.func214.trans (congrArg some (by kernel_rfl))
 f301 := Go.Proofs.Tryz.func215.trans (congrArg some (by kernel_rfl))
 f328 := Go.Proofs.Tryz.func227.trans (congrArg some (by kernel_rfl))
 f329 := Go.Proofs.Tryz.func218.trans (congrArg some (by kernel_rfl))
 f330 := Go.Proofs.Tryz.func219.trans (congrArg some (by kernel_rfl))
 f331 := Go.Proofs.Tryz.func228.trans (congrArg some (by kernel_rfl))
 f332 := Go.Proofs.Tryz.func229.trans (congrArg some (by kernel_rfl))
 f343 := Go.Proofs.Tryz.func232.trans (congrArg some (by kernel_rfl))
 t0 := Go.Proofs.Tryz.underlying0
 a0 := Go.Proofs.Tryz.isAgg0
 z0 := Go.Proofs.Tryz.sizeOf0
 v0 := Go.Proofs.Tryz.zeroValue0
 t3 := Go.Proofs.Tryz.underlying3
 a3 := Go.Proofs.Tryz.isAgg3
 z3 := Go.Proofs.Tryz.sizeOf3
 v3 := Go.Proofs.Tryz.zeroValue3
 t4 := Go.Proofs.Tryz.underlying4
 a4 := Go.Proofs.Tryz.isAgg4
 z4 := Go.Proofs.Tryz.sizeOf4
 v4 := Go.Proofs.Tryz.zeroValue4
 t5 := Go.Proofs.Tryz.underlying5
 a5 := Go.Proofs.Tryz.isAgg5
 z5 := Go.Proofs.Tryz.sizeOf5
 v5 := Go.Proofs.Tryz.zeroValue5
 t9 := Go.Proofs.Tryz.underlying9
 a9 := Go.Proofs.Tryz.isAgg9
 z9 := Go.Proofs.Tryz.sizeOf9
 v9 := Go.Proofs.Tryz.zeroValue9
 t28 := Go.Proofs.Tryz.underlying26
 a28 := Go.Proofs.Tryz.isAgg26
 z28 := Go.Proofs.Tryz.sizeOf26
 v28 := Go.Proofs.Tryz.zeroValue26
 t46 := Go.Proofs.Tryz.underlying184
 a46 := Go.Proofs.Tryz.isAgg184
 z46 := Go.Proofs.Tryz.sizeOf184
 v46 := Go.Proofs.Tryz.zeroValue184
 t51 := Go.Proofs.Tryz.underlying219
 a51 := Go.Proofs.Tryz.isAgg219
 z51 := Go.Proofs.Tryz.sizeOf219
 v51 := Go.Proofs.Tryz.zeroValue219
 t53 := Go.Proofs.Tryz.underlying221
 a53 := Go.Proofs.Tryz.isAgg221
 z53 := Go.Proofs.Tryz.sizeOf221
 v53 := Go.Proofs.Tryz.zeroValue221
 t131 := Go.Proofs.Tryz.underlying216
 a131 := Go.Proofs.Tryz.isAgg216
 z131 := Go.Proofs.Tryz.sizeOf216
 v131 := Go.Proofs.Tryz.zeroValue216
 t182 := Go.Proofs.Tryz.underlying211
 a182 := Go.Proofs.Tryz.isAgg211
 z182 := Go.Proofs.Tryz.sizeOf211
 v182 := Go.Proofs.Tryz.zeroValue211
 t183 := Go.Proofs.Tryz.underlying212
 a183 := Go.Proofs.Tryz.isAgg212
 z183 := Go.Proofs.Tryz.sizeOf212
 v183 := Go.Proofs.Tryz.zeroValue212
 t218 := Go.Proofs.Tryz.underlying236
 a218 := Go.Proofs.Tryz.isAgg236
 z218 := Go.Proofs.Tryz.sizeOf236
 v218 := Go.Proofs.Tryz.zeroValue236
 t222 := Go.Proofs.Tryz.underlying240
 a222 := Go.Proofs.Tryz.isAgg240
 z222 := Go.Proofs.Tryz.sizeOf240
 v222 := Go.Proofs.Tryz.zeroValue240
 t228 := Go.Proofs.Tryz.underlying247
 a228 := Go.Proofs.Tryz.isAgg247
 z228 := Go.Proofs.Tryz.sizeOf247
 v228 := Go.Proofs.Tryz.zeroValue247
 t229 := Go.Proofs.Tryz.underlying248
 a229 := Go.Proofs.Tryz.isAgg248
 z229 := Go.Proofs.Tryz.sizeOf248
 v229 := Go.Proofs.Tryz.zeroValue248 }

def lays_g92_ren : Go.Shelf.Ren := ⟨fun | 6 => 92 | 15 => 151 | 14 => 150 | 28 => 193 | 29 => 194 | 20 => 185 | 21 => 186 | 22 => 187 | 23 => 188 | 24 => 189 | 25 => 190 | 26 => 191 | 27 => 192 | 46 => 217 | 47 => 218 | 48 => 219 | 49 => 220 | 50 => 221 | 57 => 231 | n => n, fun | 22 => 59 | 24 => 80 | 25 => 137 | 3 => 3 | 39 => 184 | 0 => 0 | 53 => 219 | 55 => 221 | 4 => 4 | 46 => 212 | 45 => 211 | 50 => 216 | 5 => 5 | 9 => 9 | 66 => 236 | 70 => 240 | 76 => 247 | 77 => 248 | n => n, fun | n => n⟩
theorem lays_g92 : Go.Proofs.SlLaysF0.n6 Go.Proofs.Tryz.prog lays_g92_ren := {
 mixed := by kernel_rfl
 f6 := ⟨Go.Proofs.Tryz.f92.name, by decide, Go.Proofs.Tryz.func92.trans (congrArg some (by kernel_rfl))⟩
 f14 := ⟨Go.Proofs.Tryz.f150.name, by decide, Go.Proofs.Tryz.func150.trans (congrArg some (by kernel_rfl))⟩
 f15 := Go.Proofs.Tryz.func151.trans (congrArg some (by kernel_rfl))
 f20 := ⟨Go.Proofs.Tryz.f185.name, by decide, Go.Proofs.Tryz.func185.trans (congrArg some (by kernel_rfl))⟩
 f21 := ⟨Go.Proofs.Tryz.f186.name, by decide, Go.Proofs.Tryz.func186.trans (congrArg some (by kernel_rfl))⟩
 f22 := ⟨Go.Proofs.Tryz.f187.name, by decide, Go.Proofs.Tryz.func187.trans (congrArg some (by kernel_rfl))⟩
 f23 := ⟨Go.Proofs.Tryz.f188.name, by decide, Go.Proofs.Tryz.func188.trans (congrArg some (by kernel_rfl))⟩
 f24 := ⟨Go.Proofs.Tryz.f189.name, by decide, Go.Proofs.Tryz.func189.trans (congrArg some (by kernel_rfl))⟩
 f25 := ⟨Go.Proofs.Tryz.f190.name, by decide, Go.Proofs.Tryz.func190.trans (congrArg some (by kernel_rfl))⟩
 f26 := ⟨Go.Proofs.Tryz.f191.name, by decide, Go.Proofs.Tryz.func191.trans (congrArg some (by kernel_rfl))⟩
 f27 := ⟨Go.Proofs.Tryz.f192.name, by decide, Go.Proofs.Tryz.func192.trans (congrArg some (by kernel_rfl))⟩
 f28 := Go.Proofs.Tryz.func193.trans (congrArg some (by kernel_rfl))
 f29 := Go.Proofs.Tryz.func194.trans (congrArg some (by kernel_rfl))
 f46 := ⟨Go.Proofs.Tryz.f217.name, by decide, Go.Proofs.Tryz.func217.trans (congrArg some (by kernel_rfl))⟩
 f47 := Go.Proofs.Tryz.func218.trans (congrArg some (by kernel_rfl))
 f48 := Go.Proofs.Tryz.func219.trans (congrArg some (by kernel_rfl))
 f49 := ⟨Go.Proofs.Tryz.f220.name, by decide, Go.Proofs.Tryz.func220.trans (congrArg some (by kernel_rfl))⟩
 f50 := ⟨Go.Proofs.Tryz.f221.name, by decide, Go.Proofs.Tryz.func221.trans (congrArg some (by kernel_rfl))⟩
 f57 := ⟨Go.Proofs.Tryz.f231.name, by decide, Go.Proofs.Tryz.func231.trans (congrArg some (by kernel_rfl))⟩
 t0 := Go.Proofs.Tryz.underlying0
 a0 := Go.Proofs.Tryz.isAgg0
 z0 := Go.Proofs.Tryz.sizeOf0
 v0 := Go.Proofs.Tryz.zeroValue0
 t3 := Go.Proofs.Tryz.underlying3
 a3 := Go.Proofs.Tryz.isAgg3
 z3 := Go.Proofs.Tryz.sizeOf3
 v3 := Go.Proofs.Tryz.zeroValue3
 t4 := Go.Proofs.Tryz.underlying4
 a4 := Go.Proofs.Tryz.isAgg4
 z4 := Go.Proofs.Tryz.sizeOf4
 v4 := Go.Proofs.Tryz.zeroValue4
 t5 := Go.Proofs.Tryz.underlying5
 a5 := Go.Proofs.Tryz.isAgg5
 z5 := Go.Proofs.Tryz.sizeOf5
 v5 := Go.Proofs.Tryz.zeroValue5
 t9 := Go.Proofs.Tryz.underlying9
 a9 := Go.Proofs.Tryz.isAgg9
 z9 := Go.Proofs.Tryz.sizeOf9
 v9 := Go.Proofs.Tryz.zeroValue9
 t22 := Go.Proofs.Tryz.underlying59
 a22 := Go.Proofs.Tryz.isAgg59
 z22 := Go.Proofs.Tryz.sizeOf59
 v22 := Go.Proofs.Tryz.zeroValue59
 t25 := Go.Proofs.Tryz.underlying137
 a25 := Go.Proofs.Tryz.isAgg137
 z25 := Go.Proofs.Tryz.sizeOf137
 v25 := Go.Proofs.Tryz.zeroValue137
 t39 := Go.Proofs.Tryz.underlying184
 a39 := Go.Proofs.Tryz.isAgg184
 z39 := Go.Proofs.Tryz.sizeOf184
 v39 := Go.Proofs.Tryz.zeroValue184
 t45 := Go.Proofs.Tryz.underlying211
 a45 := Go.Proofs.Tryz.isAgg211
 z45 := Go.Proofs.Tryz.sizeOf211
 v45 := Go.Proofs.Tryz.zeroValue211
 t46 := Go.Proofs.Tryz.underlying212
 a46 := Go.Proofs.Tryz.isAgg212
 z46 := Go.Proofs.Tryz.sizeOf212
 v46 := Go.Proofs.Tryz.zeroValue212
 t50 := Go.Proofs.Tryz.underlying216
 a50 := Go.Proofs.Tryz.isAgg216
 z50 := Go.Proofs.Tryz.sizeOf216
 v50 := Go.Proofs.Tryz.zeroValue216
 t53 := Go.Proofs.Tryz.underlying219
 a53 := Go.Proofs.Tryz.isAgg219
 z53 := Go.Proofs.Tryz.sizeOf219
 v53 := Go.Proofs.Tryz.zeroValue219
 t55 := Go.Proofs.Tryz.underlying221
 a55 := Go.Proofs.Tryz.isAgg221
 z55 := Go.Proofs.Tryz.sizeOf221
 v55 := Go.Proofs.Tryz.zeroValue221
 t66 := Go.Proofs.Tryz.underlying236
 a66 := Go.Proofs.Tryz.isAgg236
 z66 := Go.Proofs.Tryz.sizeOf236
 v66 := Go.Proofs.Tryz.zeroValue236
 t70 := Go.Proofs.Tryz.underlying240
 a70 := Go.Proofs.Tryz.isAgg240
 z70 := Go.Proofs.Tryz.sizeOf240
 v70 := Go.Proofs.Tryz.zeroValue240
 t76 := Go.Proofs.Tryz.underlying247
 a76 := Go.Proofs.Tryz.isAgg247
 z76 := Go.Proofs.Tryz.sizeOf247
 v76 := Go.Proofs.Tryz.zeroValue247
 t77 := Go.Proofs.Tryz.underlying248
 a77 := Go.Proofs.Tryz.isAgg248
 z77 := Go.Proofs.Tryz.sizeOf248
 v77 := Go.Proofs.Tryz.zeroValue248 }

theorem cw_szIntS {a0 : (List Int)} {a1 : Int} {r : Int} (H : Dw_szIntS a0 a1 = some r) : Ct X.P X.gl 21 [sl 1 I a0, I a1] [] (RI r) [] :=
 Ct.of func21 (c := bdy f21) (by kernel_rfl) (by kernel_rfl) <|
 gS [r0, r0] (by kernel_rfl) P0 <|
 eIf H (fun h1 H =>
 eW RI (fun _ => []) H<|gE func21 [rg [hT 1], r0] (by kernel_rfl) (P2 ((decide ((IntKind.wrap .i64 (a1 - ((a0.length : Nat) : Int))) < 0)) = true) (decide_eq_true h1)<|P0))
 (fun h1 H =>
 eW RI (fun _ => []) H<|gE func21 [rg [hF 1], r0] (by kernel_rfl) (P2 ((decide ((IntKind.wrap .i64 (a1 - ((a0.length : Nat) : Int))) < 0)) = false) (decide_eq_false h1)<|P0))
theorem cw_szTerrain {a0 : Gw_Terrain} {a1 : Int} {r : Int} (H : Dw_szTerrain a0 a1 = some r) : Ct X.P X.gl 154 [gw_Terrain a0, I a1] [] (RI r) [] :=
 Ct.of func154 (c := bdy f154) (by kernel_rfl) (by kernel_rfl) <|
 gS [r0, r0] (by kernel_rfl) P0 <|
 eIf H (fun h1 H =>
 eW RI (fun _ => []) H<|gE func154 [rg [hT 1], r0] (by kernel_rfl) (P2 ((decide ((IntKind.wrap .i64 (a1 - ((ByteArray.size a0.Name : Nat) : Int))) < 0)) = true) (decide_eq_true h1)<|P0))
 (fun h1 H =>
 eBind H fun r2 hr2 H =>
 gS [rg [hF 1], rg [hC 3 true [] (RI r2) []]] (by kernel_rfl) (P2 ((decide ((IntKind.wrap .i64 (a1 - ((ByteArray.size a0.Name : Nat) : Int))) < 0)) = false) (decide_eq_false h1)<|P1 (cw_szIntS hr2)<|P0) <|
 eIf H (fun h3 H =>
 eW RI (fun _ => []) H<|gE func154 [rg [hT 1], r0] (by kernel_rfl) (P2 ((decide (r2 < 0)) = true) (decide_eq_true h3)<|P0))
 (fun h3 H =>
 eW RI (fun _ => []) H<|gE func154 [rg [hF 1], r0] (by kernel_rfl) (P2 ((decide (r2 < 0)) = false) (decide_eq_false h3)<|P0)))
noncomputable def Kw_szTerrainS : Sw_szTerrainS → List Item
 | .h1 .. => nav 300 4 [false] [.code (bdy f101)]
def Zw_szTerrainS : Sw_szTerrainS → St
 | .h1 va0 left1 i2 => ⟨sts 27 [(0, sl 5 gw_Terrain va0), (1, I left1), (5, I i2)], []⟩
abbrev Qw_szTerrainS := Nx X 101 0 Kw_szTerrainS Zw_szTerrainS RI (fun _ => [])
theorem nw_szTerrainS : ∀ s o, Bw_szTerrainS s = some o → Qw_szTerrainS (Kw_szTerrainS s) (Zw_szTerrainS s) o
 | .h1 va0 left1 i2, o, H =>
  eIf H (fun h1 H =>
  eCk H fun h2 H =>
  eBind H fun x3 hx3 H =>
  eBind H fun r4 hr4 H =>
  gN [rg [hT 3], rg [hE 3 (gw_Terrain x3), hC 5 true [] (RI r4) []]] (by kernel_rfl) (P2 ((decide (i2 < ((va0.length : Nat) : Int))) = true) (decide_eq_true h1)<|P1 h2<|P1 (int_lt_of_at h2 hx3)<|P1 (at_map gw_Terrain hx3)<|P1 (cw_szTerrain hr4)<|P0) <|
  eIf H (fun h5 H =>
  eN H<|gE func101 [rg [hT 1], r0] (by kernel_rfl) (P2 ((decide (r4 < 0)) = true) (decide_eq_true h5)<|P0))
  (fun h5 H =>
  eN H fun r hn => gO [rg [hF 1], r0, .canon [] [0, 1, 5]] (by kernel_rfl) (P2 ((decide (r4 < 0)) = false) (decide_eq_false h5)<|P0) hn))
  (fun h1 H =>
  eN H<|gE func101 [rg [hF 3], r0] (by kernel_rfl) (P2 ((decide (i2 < ((va0.length : Nat) : Int))) = false) (decide_eq_false h1)<|P0))
theorem ww_szTerrainS : ∀ s r, loop Bw_szTerrainS s = some r → Wc X 101 0 (Kw_szTerrainS s) (Zw_szTerrainS s) (RI r) ((fun _ => []) r) := Nx.all (nw_szTerrainS)
theorem cw_szTerrainS {a0 : (List Gw_Terrain)} {a1 : Int} {r : Int} (H : Dw_szTerrainS a0 a1 = some r) : Ct X.P X.gl 101 [sl 5 gw_Terrain a0, I a1] [] (RI r) [] :=
 Ct.of func101 (c := bdy f101) (by kernel_rfl) (by kernel_rfl) <|
 gS [r0, r0] (by kernel_rfl) P0 <|
 eIf H (fun h1 H =>
 eW RI (fun _ => []) H<|gE func101 [rg [hT 1], r0] (by kernel_rfl) (P2 ((decide ((IntKind.wrap .i64 (a1 - ((a0.length : Nat) : Int))) < 0)) = true) (decide_eq_true h1)<|P0))
 (fun h1 H =>
 gO [rg [hF 1], r0, .canon [] [0, 1, 5]] (by kernel_rfl) (P2 ((decide ((IntKind.wrap .i64 (a1 - ((a0.length : Nat) : Int))) < 0)) = false) (decide_eq_false h1)<|P0) (ww_szTerrainS _ _ H))
theorem cw_szKind {a0 : Gw_Kind} {a1 : Int} {r : Int} (H : Dw_szKind a0 a1 = some r) : Ct X.P X.gl 155 [gw_Kind a0, I a1] [] (RI r) [] :=
 Ct.of func155 (c := bdy f155) (by kernel_rfl) (by kernel_rfl) <|
 gS [r0, r0] (by kernel_rfl) P0 <|
 eIf H (fun h1 H =>
 eW RI (fun _ => []) H<|gE func155 [rg [hT 1], r0] (by kernel_rfl) (P2 ((decide ((IntKind.wrap .i64 (a1 - ((ByteArray.size a0.Name : Nat) : Int))) < 0)) = true) (decide_eq_true h1)<|P0))
 (fun h1 H =>
 eW RI (fun _ => []) H<|gE func155 [rg [hF 1], r0] (by kernel_rfl) (P2 ((decide ((IntKind.wrap .i64 (a1 - ((ByteArray.size a0.Name : Nat) : Int))) < 0)) = false) (decide_eq_false h1)<|P0))
noncomputable def Kw_szKindS : Sw_szKindS → List Item
 | .h1 .. => nav 300 4 [false] [.code (bdy f102)]
def Zw_szKindS : Sw_szKindS → St
 | .h1 va0 left1 i2 => ⟨sts 27 [(0, sl 6 gw_Kind va0), (1, I left1), (5, I i2)], []⟩
abbrev Qw_szKindS := Nx X 102 0 Kw_szKindS Zw_szKindS RI (fun _ => [])
theorem nw_szKindS : ∀ s o, Bw_szKindS s = some o → Qw_szKindS (Kw_szKindS s) (Zw_szKindS s) o
 | .h1 va0 left1 i2, o, H =>
  eIf H (fun h1 H =>
  eCk H fun h2 H =>
  eBind H fun x3 hx3 H =>
  eBind H fun r4 hr4 H =>
  gN [rg [hT 3], rg [hE 3 (gw_Kind x3), hC 5 true [] (RI r4) []]] (by kernel_rfl) (P2 ((decide (i2 < ((va0.length : Nat) : Int))) = true) (decide_eq_true h1)<|P1 h2<|P1 (int_lt_of_at h2 hx3)<|P1 (at_map gw_Kind hx3)<|P1 (cw_szKind hr4)<|P0) <|
  eIf H (fun h5 H =>
  eN H<|gE func102 [rg [hT 1], r0] (by kernel_rfl) (P2 ((decide (r4 < 0)) = true) (decide_eq_true h5)<|P0))
  (fun h5 H =>
  eN H fun r hn => gO [rg [hF 1], r0, .canon [] [0, 1, 5]] (by kernel_rfl) (P2 ((decide (r4 < 0)) = false) (decide_eq_false h5)<|P0) hn))
  (fun h1 H =>
  eN H<|gE func102 [rg [hF 3], r0] (by kernel_rfl) (P2 ((decide (i2 < ((va0.length : Nat) : Int))) = false) (decide_eq_false h1)<|P0))
theorem ww_szKindS : ∀ s r, loop Bw_szKindS s = some r → Wc X 102 0 (Kw_szKindS s) (Zw_szKindS s) (RI r) ((fun _ => []) r) := Nx.all (nw_szKindS)
theorem cw_szKindS {a0 : (List Gw_Kind)} {a1 : Int} {r : Int} (H : Dw_szKindS a0 a1 = some r) : Ct X.P X.gl 102 [sl 6 gw_Kind a0, I a1] [] (RI r) [] :=
 Ct.of func102 (c := bdy f102) (by kernel_rfl) (by kernel_rfl) <|
 gS [r0, r0] (by kernel_rfl) P0 <|
 eIf H (fun h1 H =>
 eW RI (fun _ => []) H<|gE func102 [rg [hT 1], r0] (by kernel_rfl) (P2 ((decide ((IntKind.wrap .i64 (a1 - ((a0.length : Nat) : Int))) < 0)) = true) (decide_eq_true h1)<|P0))
 (fun h1 H =>
 gO [rg [hF 1], r0, .canon [] [0, 1, 5]] (by kernel_rfl) (P2 ((decide ((IntKind.wrap .i64 (a1 - ((a0.length : Nat) : Int))) < 0)) = false) (decide_eq_false h1)<|P0) (ww_szKindS _ _ H))
theorem cw_szRules {a0 : Gw_Rules} {a1 : Int} {r : Int} (H : Dw_szRules a0 a1 = some r) : Ct X.P X.gl 50 [gw_Rules a0, I a1] [] (RI r) [] :=
 Ct.of func50 (c := bdy f50) (by kernel_rfl) (by kernel_rfl) <|
 eBind H fun r1 hr1 H =>
 gS [r0, rg [hC 3 true [] (RI r1) []]] (by kernel_rfl) (P1 (cw_szTerrainS hr1)<|P0) <|
 eIf H (fun h2 H =>
 eW RI (fun _ => []) H<|gE func50 [rg [hT 1], r0] (by kernel_rfl) (P2 ((decide (r1 < 0)) = true) (decide_eq_true h2)<|P0))
 (fun h2 H =>
 eBind H fun r3 hr3 H =>
 gS [rg [hF 1], rg [hC 3 true [] (RI r3) []]] (by kernel_rfl) (P2 ((decide (r1 < 0)) = false) (decide_eq_false h2)<|P1 (cw_szKindS hr3)<|P0) <|
 eIf H (fun h4 H =>
 eW RI (fun _ => []) H<|gE func50 [rg [hT 1], r0] (by kernel_rfl) (P2 ((decide (r3 < 0)) = true) (decide_eq_true h4)<|P0))
 (fun h4 H =>
 eW RI (fun _ => []) H<|gE func50 [rg [hF 1], r0] (by kernel_rfl) (P2 ((decide (r3 < 0)) = false) (decide_eq_false h4)<|P0)))
theorem cw_szMap {a0 : Gw_Map} {a1 : Int} {r : Int} (H : Dw_szMap a0 a1 = some r) : Ct X.P X.gl 51 [gw_Map a0, I a1] [] (RI r) [] :=
 Ct.of func51 (c := bdy f51) (by kernel_rfl) (by kernel_rfl) <|
 eBind H fun r1 hr1 H =>
 gS [r0, rg [hC 3 true [] (RI r1) []]] (by kernel_rfl) (P1 (cw_szIntS hr1)<|P0) <|
 eIf H (fun h2 H =>
 eW RI (fun _ => []) H<|gE func51 [rg [hT 1], r0] (by kernel_rfl) (P2 ((decide (r1 < 0)) = true) (decide_eq_true h2)<|P0))
 (fun h2 H =>
 eBind H fun r3 hr3 H =>
 gS [rg [hF 1], rg [hC 3 true [] (RI r3) []]] (by kernel_rfl) (P2 ((decide (r1 < 0)) = false) (decide_eq_false h2)<|P1 (cw_szIntS hr3)<|P0) <|
 eIf H (fun h4 H =>
 eW RI (fun _ => []) H<|gE func51 [rg [hT 1], r0] (by kernel_rfl) (P2 ((decide (r3 < 0)) = true) (decide_eq_true h4)<|P0))
 (fun h4 H =>
 eBind H fun r5 hr5 H =>
 gS [rg [hF 1], rg [hC 3 true [] (RI r5) []]] (by kernel_rfl) (P2 ((decide (r3 < 0)) = false) (decide_eq_false h4)<|P1 (cw_szIntS hr5)<|P0) <|
 eIf H (fun h6 H =>
 eW RI (fun _ => []) H<|gE func51 [rg [hT 1], r0] (by kernel_rfl) (P2 ((decide (r5 < 0)) = true) (decide_eq_true h6)<|P0))
 (fun h6 H =>
 eW RI (fun _ => []) H<|gE func51 [rg [hF 1], r0] (by kernel_rfl) (P2 ((decide (r5 < 0)) = false) (decide_eq_false h6)<|P0))))
theorem cw_szBoard {a0 : Gw_Board} {a1 : Int} {r : Int} (H : Dw_szBoard a0 a1 = some r) : Ct X.P X.gl 17 [gw_Board a0, I a1] [] (RI r) [] :=
 Ct.of func17 (c := bdy f17) (by kernel_rfl) (by kernel_rfl) <|
 eBind H fun r1 hr1 H =>
 gS [r0, rg [hC 3 true [] (RI r1) []]] (by kernel_rfl) (P1 (cw_szRules hr1)<|P0) <|
 eIf H (fun h2 H =>
 eW RI (fun _ => []) H<|gE func17 [rg [hT 1], r0] (by kernel_rfl) (P2 ((decide (r1 < 0)) = true) (decide_eq_true h2)<|P0))
 (fun h2 H =>
 eBind H fun r3 hr3 H =>
 gS [rg [hF 1], rg [hC 3 true [] (RI r3) []]] (by kernel_rfl) (P2 ((decide (r1 < 0)) = false) (decide_eq_false h2)<|P1 (cw_szMap hr3)<|P0) <|
 eIf H (fun h4 H =>
 eW RI (fun _ => []) H<|gE func17 [rg [hT 1], r0] (by kernel_rfl) (P2 ((decide (r3 < 0)) = true) (decide_eq_true h4)<|P0))
 (fun h4 H =>
 eW RI (fun _ => []) H<|gE func17 [rg [hF 1], r0] (by kernel_rfl) (P2 ((decide (r3 < 0)) = false) (decide_eq_false h4)<|P0)))
theorem cw_szOddsS {a0 : (List Gw_Odds)} {a1 : Int} {r : Int} (H : Dw_szOddsS a0 a1 = some r) : Ct X.P X.gl 52 [sl 2 gw_Odds a0, I a1] [] (RI r) [] :=
 Ct.of func52 (c := bdy f52) (by kernel_rfl) (by kernel_rfl) <|
 gS [r0, r0] (by kernel_rfl) P0 <|
 eIf H (fun h1 H =>
 eW RI (fun _ => []) H<|gE func52 [rg [hT 1], r0] (by kernel_rfl) (P2 ((decide ((IntKind.wrap .i64 (a1 - ((a0.length : Nat) : Int))) < 0)) = true) (decide_eq_true h1)<|P0))
 (fun h1 H =>
 eW RI (fun _ => []) H<|gE func52 [rg [hF 1], r0] (by kernel_rfl) (P2 ((decide ((IntKind.wrap .i64 (a1 - ((a0.length : Nat) : Int))) < 0)) = false) (decide_eq_false h1)<|P0))
noncomputable def Kw_szIntSS : Sw_szIntSS → List Item
 | .h1 .. => nav 300 4 [false] [.code (bdy f53)]
def Zw_szIntSS : Sw_szIntSS → St
 | .h1 va0 left1 i2 => ⟨sts 27 [(0, sl 1 (sl 1 I) va0), (1, I left1), (5, I i2)], []⟩
abbrev Qw_szIntSS := Nx X 53 0 Kw_szIntSS Zw_szIntSS RI (fun _ => [])
theorem nw_szIntSS : ∀ s o, Bw_szIntSS s = some o → Qw_szIntSS (Kw_szIntSS s) (Zw_szIntSS s) o
 | .h1 va0 left1 i2, o, H =>
  eIf H (fun h1 H =>
  eCk H fun h2 H =>
  eBind H fun x3 hx3 H =>
  eBind H fun r4 hr4 H =>
  gN [rg [hT 3], rg [hE 3 ((sl 1 I) x3), hC 5 true [] (RI r4) []]] (by kernel_rfl) (P2 ((decide (i2 < ((va0.length : Nat) : Int))) = true) (decide_eq_true h1)<|P1 h2<|P1 (int_lt_of_at h2 hx3)<|P1 (at_map (sl 1 I) hx3)<|P1 (cw_szIntS hr4)<|P0) <|
  eIf H (fun h5 H =>
  eN H<|gE func53 [rg [hT 1], r0] (by kernel_rfl) (P2 ((decide (r4 < 0)) = true) (decide_eq_true h5)<|P0))
  (fun h5 H =>
  eN H fun r hn => gO [rg [hF 1], r0, .canon [] [0, 1, 5]] (by kernel_rfl) (P2 ((decide (r4 < 0)) = false) (decide_eq_false h5)<|P0) hn))
  (fun h1 H =>
  eN H<|gE func53 [rg [hF 3], r0] (by kernel_rfl) (P2 ((decide (i2 < ((va0.length : Nat) : Int))) = false) (decide_eq_false h1)<|P0))
theorem ww_szIntSS : ∀ s r, loop Bw_szIntSS s = some r → Wc X 53 0 (Kw_szIntSS s) (Zw_szIntSS s) (RI r) ((fun _ => []) r) := Nx.all (nw_szIntSS)
theorem cw_szIntSS {a0 : (List (List Int))} {a1 : Int} {r : Int} (H : Dw_szIntSS a0 a1 = some r) : Ct X.P X.gl 53 [sl 1 (sl 1 I) a0, I a1] [] (RI r) [] :=
 Ct.of func53 (c := bdy f53) (by kernel_rfl) (by kernel_rfl) <|
 gS [r0, r0] (by kernel_rfl) P0 <|
 eIf H (fun h1 H =>
 eW RI (fun _ => []) H<|gE func53 [rg [hT 1], r0] (by kernel_rfl) (P2 ((decide ((IntKind.wrap .i64 (a1 - ((a0.length : Nat) : Int))) < 0)) = true) (decide_eq_true h1)<|P0))
 (fun h1 H =>
 gO [rg [hF 1], r0, .canon [] [0, 1, 5]] (by kernel_rfl) (P2 ((decide ((IntKind.wrap .i64 (a1 - ((a0.length : Nat) : Int))) < 0)) = false) (decide_eq_false h1)<|P0) (ww_szIntSS _ _ H))
theorem cw_szCombatTable {a0 : Gw_CombatTable} {a1 : Int} {r : Int} (H : Dw_szCombatTable a0 a1 = some r) : Ct X.P X.gl 18 [gw_CombatTable a0, I a1] [] (RI r) [] :=
 Ct.of func18 (c := bdy f18) (by kernel_rfl) (by kernel_rfl) <|
 eBind H fun r1 hr1 H =>
 gS [r0, rg [hC 3 true [] (RI r1) []]] (by kernel_rfl) (P1 (cw_szOddsS hr1)<|P0) <|
 eIf H (fun h2 H =>
 eW RI (fun _ => []) H<|gE func18 [rg [hT 1], r0] (by kernel_rfl) (P2 ((decide (r1 < 0)) = true) (decide_eq_true h2)<|P0))
 (fun h2 H =>
 eBind H fun r3 hr3 H =>
 gS [rg [hF 1], rg [hC 3 true [] (RI r3) []]] (by kernel_rfl) (P2 ((decide (r1 < 0)) = false) (decide_eq_false h2)<|P1 (cw_szIntSS hr3)<|P0) <|
 eIf H (fun h4 H =>
 eW RI (fun _ => []) H<|gE func18 [rg [hT 1], r0] (by kernel_rfl) (P2 ((decide (r3 < 0)) = true) (decide_eq_true h4)<|P0))
 (fun h4 H =>
 eW RI (fun _ => []) H<|gE func18 [rg [hF 1], r0] (by kernel_rfl) (P2 ((decide (r3 < 0)) = false) (decide_eq_false h4)<|P0)))
theorem cw_szUnitS {a0 : (List Gw_Unit)} {a1 : Int} {r : Int} (H : Dw_szUnitS a0 a1 = some r) : Ct X.P X.gl 54 [sl 4 gw_Unit a0, I a1] [] (RI r) [] :=
 Ct.of func54 (c := bdy f54) (by kernel_rfl) (by kernel_rfl) <|
 gS [r0, r0] (by kernel_rfl) P0 <|
 eIf H (fun h1 H =>
 eW RI (fun _ => []) H<|gE func54 [rg [hT 1], r0] (by kernel_rfl) (P2 ((decide ((IntKind.wrap .i64 (a1 - ((a0.length : Nat) : Int))) < 0)) = true) (decide_eq_true h1)<|P0))
 (fun h1 H =>
 eW RI (fun _ => []) H<|gE func54 [rg [hF 1], r0] (by kernel_rfl) (P2 ((decide ((IntKind.wrap .i64 (a1 - ((a0.length : Nat) : Int))) < 0)) = false) (decide_eq_false h1)<|P0))
theorem cw_szState {a0 : Gw_State} {a1 : Int} {r : Int} (H : Dw_szState a0 a1 = some r) : Ct X.P X.gl 19 [gw_State a0, I a1] [] (RI r) [] :=
 Ct.of func19 (c := bdy f19) (by kernel_rfl) (by kernel_rfl) <|
 eBind H fun r1 hr1 H =>
 gS [r0, rg [hC 3 true [] (RI r1) []]] (by kernel_rfl) (P1 (cw_szUnitS hr1)<|P0) <|
 eIf H (fun h2 H =>
 eW RI (fun _ => []) H<|gE func19 [rg [hT 1], r0] (by kernel_rfl) (P2 ((decide (r1 < 0)) = true) (decide_eq_true h2)<|P0))
 (fun h2 H =>
 eW RI (fun _ => []) H<|gE func19 [rg [hF 1], r0] (by kernel_rfl) (P2 ((decide (r1 < 0)) = false) (decide_eq_false h2)<|P0))
theorem cw_szGoalS {a0 : (List Gw_Goal)} {a1 : Int} {r : Int} (H : Dw_szGoalS a0 a1 = some r) : Ct X.P X.gl 55 [sl 2 gw_Goal a0, I a1] [] (RI r) [] :=
 Ct.of func55 (c := bdy f55) (by kernel_rfl) (by kernel_rfl) <|
 gS [r0, r0] (by kernel_rfl) P0 <|
 eIf H (fun h1 H =>
 eW RI (fun _ => []) H<|gE func55 [rg [hT 1], r0] (by kernel_rfl) (P2 ((decide ((IntKind.wrap .i64 (a1 - ((a0.length : Nat) : Int))) < 0)) = true) (decide_eq_true h1)<|P0))
 (fun h1 H =>
 eW RI (fun _ => []) H<|gE func55 [rg [hF 1], r0] (by kernel_rfl) (P2 ((decide ((IntKind.wrap .i64 (a1 - ((a0.length : Nat) : Int))) < 0)) = false) (decide_eq_false h1)<|P0))
theorem cw_szConditions {a0 : Gw_Conditions} {a1 : Int} {r : Int} (H : Dw_szConditions a0 a1 = some r) : Ct X.P X.gl 20 [gw_Conditions a0, I a1] [] (RI r) [] :=
 Ct.of func20 (c := bdy f20) (by kernel_rfl) (by kernel_rfl) <|
 eBind H fun r1 hr1 H =>
 gS [r0, rg [hC 3 true [] (RI r1) []]] (by kernel_rfl) (P1 (cw_szGoalS hr1)<|P0) <|
 eIf H (fun h2 H =>
 eW RI (fun _ => []) H<|gE func20 [rg [hT 1], r0] (by kernel_rfl) (P2 ((decide (r1 < 0)) = true) (decide_eq_true h2)<|P0))
 (fun h2 H =>
 eW RI (fun _ => []) H<|gE func20 [rg [hF 1], r0] (by kernel_rfl) (P2 ((decide (r1 < 0)) = false) (decide_eq_false h2)<|P0))
theorem cw_szScenario {a0 : Gw_Scenario} {a1 : Int} {r : Int} (H : Dw_szScenario a0 a1 = some r) : Ct X.P X.gl 5 [gw_Scenario a0, I a1] [] (RI r) [] :=
 Ct.of func5 (c := bdy f5) (by kernel_rfl) (by kernel_rfl) <|
 gS [r0, r0] (by kernel_rfl) P0 <|
 eIf H (fun h1 H =>
 eW RI (fun _ => []) H<|gE func5 [rg [hT 1], r0] (by kernel_rfl) (P2 ((decide ((IntKind.wrap .i64 (a1 - ((ByteArray.size a0.Name : Nat) : Int))) < 0)) = true) (decide_eq_true h1)<|P0))
 (fun h1 H =>
 eBind H fun r2 hr2 H =>
 gS [rg [hF 1], rg [hC 3 true [] (RI r2) []]] (by kernel_rfl) (P2 ((decide ((IntKind.wrap .i64 (a1 - ((ByteArray.size a0.Name : Nat) : Int))) < 0)) = false) (decide_eq_false h1)<|P1 (cw_szBoard hr2)<|P0) <|
 eIf H (fun h3 H =>
 eW RI (fun _ => []) H<|gE func5 [rg [hT 1], r0] (by kernel_rfl) (P2 ((decide (r2 < 0)) = true) (decide_eq_true h3)<|P0))
 (fun h3 H =>
 eBind H fun r4 hr4 H =>
 gS [rg [hF 1], rg [hC 3 true [] (RI r4) []]] (by kernel_rfl) (P2 ((decide (r2 < 0)) = false) (decide_eq_false h3)<|P1 (cw_szCombatTable hr4)<|P0) <|
 eIf H (fun h5 H =>
 eW RI (fun _ => []) H<|gE func5 [rg [hT 1], r0] (by kernel_rfl) (P2 ((decide (r4 < 0)) = true) (decide_eq_true h5)<|P0))
 (fun h5 H =>
 eBind H fun r6 hr6 H =>
 gS [rg [hF 1], rg [hC 3 true [] (RI r6) []]] (by kernel_rfl) (P2 ((decide (r4 < 0)) = false) (decide_eq_false h5)<|P1 (cw_szState hr6)<|P0) <|
 eIf H (fun h7 H =>
 eW RI (fun _ => []) H<|gE func5 [rg [hT 1], r0] (by kernel_rfl) (P2 ((decide (r6 < 0)) = true) (decide_eq_true h7)<|P0))
 (fun h7 H =>
 eBind H fun r8 hr8 H =>
 gS [rg [hF 1], rg [hC 3 true [] (RI r8) []]] (by kernel_rfl) (P2 ((decide (r6 < 0)) = false) (decide_eq_false h7)<|P1 (cw_szConditions hr8)<|P0) <|
 eIf H (fun h9 H =>
 eW RI (fun _ => []) H<|gE func5 [rg [hT 1], r0] (by kernel_rfl) (P2 ((decide (r8 < 0)) = true) (decide_eq_true h9)<|P0))
 (fun h9 H =>
 eBind H fun r10 hr10 H =>
 gS [rg [hF 1], rg [hC 3 true [] (RI r10) []]] (by kernel_rfl) (P2 ((decide (r8 < 0)) = false) (decide_eq_false h9)<|P1 (cw_szIntS hr10)<|P0) <|
 eIf H (fun h11 H =>
 eW RI (fun _ => []) H<|gE func5 [rg [hT 1], r0] (by kernel_rfl) (P2 ((decide (r10 < 0)) = true) (decide_eq_true h11)<|P0))
 (fun h11 H =>
 eBind H fun r12 hr12 H =>
 gS [rg [hF 1], rg [hC 3 true [] (RI r12) []]] (by kernel_rfl) (P2 ((decide (r10 < 0)) = false) (decide_eq_false h11)<|P1 (cw_szIntS hr12)<|P0) <|
 eIf H (fun h13 H =>
 eW RI (fun _ => []) H<|gE func5 [rg [hT 1], r0] (by kernel_rfl) (P2 ((decide (r12 < 0)) = true) (decide_eq_true h13)<|P0))
 (fun h13 H =>
 eW RI (fun _ => []) H<|gE func5 [rg [hF 1], r0] (by kernel_rfl) (P2 ((decide (r12 < 0)) = false) (decide_eq_false h13)<|P0))))))))
def Rw_toIntS (r : (List Int)) : List D := [ow 1 I r]
noncomputable def Kw_toIntS : Sw_toIntS → List Item
 | .h1 .. => nav 300 3 [] [.code (bdy f31)]
def Zw_toIntS : Sw_toIntS → St
 | .h1 va0 i1 l2 => ⟨sts 22 [(0, sl 1 I va0), (3, .ref 0 1 none), (4, I i1)], [some ⟨false, false, 1, l2.length, List.map I l2⟩]⟩
abbrev Qw_toIntS := Nx X 31 0 Kw_toIntS Zw_toIntS Rw_toIntS (fun _ => [])
theorem nw_toIntS : ∀ s o, Bw_toIntS s = some o → Qw_toIntS (Kw_toIntS s) (Zw_toIntS s) o
 | .h1 va0 i1 l2, o, H =>
  eIf H (fun h1 H =>
  eCk H fun h2 H =>
  eBind H fun x3 hx3 H =>
  eCk H fun h4 H =>
  eBind H fun x5 hx5 H =>
  eN H fun r hn => gO [rg [hT 3], rg [hE 5 (I x3), hA 7 ((List.set l2 (Int.toNat i1) x3).length) (List.map I (List.set l2 (Int.toNat i1) x3))], r0, .canon [0] [0, 3, 4]] (by kernel_rfl) (P2 ((decide (i1 < ((va0.length : Nat) : Int))) = true) (decide_eq_true h1)<|P1 h2<|P1 (int_lt_of_at h2 hx3)<|P1 (at_map I hx3)<|P1 h4<|P1 (int_lt_of_at h4 hx5)<|P1 (lt_of_at hx5)<|P2 (setCells (List.map I l2) (Int.toNat i1) 0 [I x3] = List.map I (List.set l2 (Int.toNat i1) x3)) (setCells_map hx5 rfl)<|P1 (setLen l2 (Int.toNat i1) x3)<|P0) hn)
  (fun h1 H =>
  eN H<|gE func31 [rg [hF 3], r0] (by kernel_rfl) (P2 ((decide (i1 < ((va0.length : Nat) : Int))) = false) (decide_eq_false h1)<|P0))
theorem ww_toIntS : ∀ s r, loop Bw_toIntS s = some r → Wc X 31 0 (Kw_toIntS s) (Zw_toIntS s) (Rw_toIntS r) ((fun _ => []) r) := Nx.all (nw_toIntS)
theorem cw_toIntS {a0 : (List Int)} {r : (List Int)} (H : Dw_toIntS a0 = some r) : Ct X.P X.gl 31 [sl 1 I a0] [] (Rw_toIntS r) [] :=
 Ct.of func31 (c := bdy f31) (by kernel_rfl) (by kernel_rfl) <|
 eCk H fun h1 H =>
 gO [r0, rg [hA 2 ((List.replicate (Int.toNat ((a0.length : Nat) : Int)) (0 : Int)).length) (List.map I (List.replicate (Int.toNat ((a0.length : Nat) : Int)) (0 : Int)))], r0, .canon [0] [0, 3, 4]] (by kernel_rfl) (PI (((a0.length : Nat) : Int) : Int)<|P2 ((0 : Int) ≤ ((a0.length : Nat) : Int)) (by omega)<|P2 (Int.toNat ((a0.length : Nat) : Int) * 8 ≤ 140737488355328) h1<|P1 (repLen (Int.toNat ((a0.length : Nat) : Int)) (0 : Int))<|P1 (repMap I (Int.toNat ((a0.length : Nat) : Int)) (0 : Int))<|P0) (ww_toIntS _ _ H)
def Rw_toTerrain (r : Gi_Terrain) : List D := [.agg [.str r.Name, ow 1 I r.Cost, I r.Shift, I r.Height, .bool r.Blocks]]
theorem cw_toTerrain {a0 : Gw_Terrain} {r : Gi_Terrain} (H : Dw_toTerrain a0 = some r) : Ct X.P X.gl 163 [gw_Terrain a0] [] (Rw_toTerrain r) [] :=
 Ct.of func163 (c := bdy f163) (by kernel_rfl) (by kernel_rfl) <|
 eBind H fun r1 hr1 H =>
 eW Rw_toTerrain (fun _ => []) H<|gE func163 [r0, r0, r0, rg [hC 2 true [] (Rw_toIntS r1) []], r0, r0, r0, r0] (by kernel_rfl) (P1 (cw_toIntS hr1)<|P0)
def Rw_toTerrainS (r : (List Gi_Terrain)) : List D := [ow 5 goi_Terrain r]
noncomputable def Kw_toTerrainS : Sw_toTerrainS → List Item
 | .h1 .. => nav 300 3 [] [.code (bdy f113)]
def Zw_toTerrainS : Sw_toTerrainS → St
 | .h1 va0 i1 l2 => ⟨sts 23 [(0, sl 5 gw_Terrain va0), (3, .ref 0 5 none), (4, I i1)], [some ⟨false, false, 5, l2.length, List.map goi_Terrain l2⟩]⟩
abbrev Qw_toTerrainS := Nx X 113 0 Kw_toTerrainS Zw_toTerrainS Rw_toTerrainS (fun _ => [])
theorem nw_toTerrainS : ∀ s o, Bw_toTerrainS s = some o → Qw_toTerrainS (Kw_toTerrainS s) (Zw_toTerrainS s) o
 | .h1 va0 i1 l2, o, H =>
  eIf H (fun h1 H =>
  eCk H fun h2 H =>
  eBind H fun x3 hx3 H =>
  eBind H fun r4 hr4 H =>
  eCk H fun h5 H =>
  eBind H fun x6 hx6 H =>
  eN H fun r hn => gO [rg [hT 3], rg [hE 5 (gw_Terrain x3), hC 6 true [] (Rw_toTerrain r4) [], { i := 8, xs := List.set (List.map goi_Terrain l2) (Int.toNat i1) (.agg [.str r4.Name, .ref 2 1 none, I r4.Shift, I r4.Height, .bool r4.Blocks]), post := [.put 0 (Int.toNat i1) 1 2 (List.map goi_Terrain (List.set l2 (Int.toNat i1) r4)), .own 0 (List.set l2 (Int.toNat i1) r4).length] }], r0, .canon [0] [0, 3, 4]] (by kernel_rfl) (P2 ((decide (i1 < ((va0.length : Nat) : Int))) = true) (decide_eq_true h1)<|P1 h2<|P1 (int_lt_of_at h2 hx3)<|P1 (at_map gw_Terrain hx3)<|P1 (cw_toTerrain hr4)<|P1 h5<|P1 (int_lt_of_at h5 hx6)<|P1 (lt_of_at hx6)<|P2 (setCells (List.map goi_Terrain l2) (Int.toNat i1) 0 [.str r4.Name, .ref 2 1 none, I r4.Shift, I r4.Height, .bool r4.Blocks] = List.set (List.map goi_Terrain l2) (Int.toNat i1) (.agg [.str r4.Name, .ref 2 1 none, I r4.Shift, I r4.Height, .bool r4.Blocks])) (setCells_mapD hx6 rfl)<|P2 (getCells (List.set (List.map goi_Terrain l2) (Int.toNat i1) (.agg [.str r4.Name, .ref 2 1 none, I r4.Shift, I r4.Height, .bool r4.Blocks])) (Int.toNat i1) 1 1 = some [.ref 2 1 none]) (getCells_set hx6 rfl)<|P2 (setCells (List.set (List.map goi_Terrain l2) (Int.toNat i1) (.agg [.str r4.Name, .ref 2 1 none, I r4.Shift, I r4.Height, .bool r4.Blocks])) (Int.toNat i1) 1 [ow 1 I r4.Cost] = List.map goi_Terrain (List.set l2 (Int.toNat i1) r4)) (setCells_set hx6 rfl)<|P1 (allOw_152 (List.set l2 (Int.toNat i1) r4))<|P1 (setLen l2 (Int.toNat i1) r4)<|P0) hn)
  (fun h1 H =>
  eN H<|gE func113 [rg [hF 3], r0] (by kernel_rfl) (P2 ((decide (i1 < ((va0.length : Nat) : Int))) = false) (decide_eq_false h1)<|P0))
theorem ww_toTerrainS : ∀ s r, loop Bw_toTerrainS s = some r → Wc X 113 0 (Kw_toTerrainS s) (Zw_toTerrainS s) (Rw_toTerrainS r) ((fun _ => []) r) := Nx.all (nw_toTerrainS)
theorem cw_toTerrainS {a0 : (List Gw_Terrain)} {r : (List Gi_Terrain)} (H : Dw_toTerrainS a0 = some r) : Ct X.P X.gl 113 [sl 5 gw_Terrain a0] [] (Rw_toTerrainS r) [] :=
 Ct.of func113 (c := bdy f113) (by kernel_rfl) (by kernel_rfl) <|
 eCk H fun h1 H =>
 gO [r0, rg [{ i := 2, n := (List.replicate (Int.toNat ((a0.length : Nat) : Int)) (Gi_Terrain.mk ⟨#[]⟩ [] 0 0 false)).length, xs := List.replicate (Int.toNat ((a0.length : Nat) : Int)) (.agg [.str ⟨#[]⟩, .nil, I 0, I 0, .bool false] : D), post := [.nils 0 (List.map goi_Terrain (List.replicate (Int.toNat ((a0.length : Nat) : Int)) (Gi_Terrain.mk ⟨#[]⟩ [] 0 0 false)))] }], r0, .canon [0] [0, 3, 4]] (by kernel_rfl) (PI (((a0.length : Nat) : Int) : Int)<|P2 ((0 : Int) ≤ ((a0.length : Nat) : Int)) (by omega)<|P2 (Int.toNat ((a0.length : Nat) : Int) * 64 ≤ 140737488355328) h1<|P1 (repLen (Int.toNat ((a0.length : Nat) : Int)) (Gi_Terrain.mk ⟨#[]⟩ [] 0 0 false))<|P2 (List.replicate (Int.toNat ((a0.length : Nat) : Int)) (.agg [.str ⟨#[]⟩, .nil, I 0, I 0, .bool false] : D) = List.replicate (Int.toNat ((a0.length : Nat) : Int)) (.agg [.str ⟨#[]⟩, .nil, I 0, I 0, .bool false] : D)) rfl<|P2 (NilOk (List.replicate (Int.toNat ((a0.length : Nat) : Int)) (.agg [.str ⟨#[]⟩, .nil, I 0, I 0, .bool false] : D)) (List.map goi_Terrain (List.replicate (Int.toNat ((a0.length : Nat) : Int)) (Gi_Terrain.mk ⟨#[]⟩ [] 0 0 false)))) (nilOk_rep (f := goi_Terrain) (z := (.agg [.str ⟨#[]⟩, .nil, I 0, I 0, .bool false] : D)) (x := (Gi_Terrain.mk ⟨#[]⟩ [] 0 0 false)) (nilC_s (nilC_n (nilC_s (nilC_s (nilC_s nilC_0))))) (Int.toNat ((a0.length : Nat) : Int)))<|P0) (ww_toTerrainS _ _ H)
def Rw_toKind (r : Gi_Kind) : List D := [.agg [.str r.Name, I r.Strength, I r.Moves, I r.Steps, .bool r.Zone, I r.View]]
theorem cw_toKind {a0 : Gw_Kind} {r : Gi_Kind} (H : Dw_toKind a0 = some r) : Ct X.P X.gl 164 [gw_Kind a0] [] (Rw_toKind r) [] :=
 Ct.of func164 (c := bdy f164) (by kernel_rfl) (by kernel_rfl) <|
 eW Rw_toKind (fun _ => []) H<|gE func164 [r0, r0, r0, r0, r0, r0, r0, r0, r0] (by kernel_rfl) P0
def Rw_toKindS (r : (List Gi_Kind)) : List D := [ow 6 gi_Kind r]
noncomputable def Kw_toKindS : Sw_toKindS → List Item
 | .h1 .. => nav 300 3 [] [.code (bdy f114)]
def Zw_toKindS : Sw_toKindS → St
 | .h1 va0 i1 l2 => ⟨sts 23 [(0, sl 6 gw_Kind va0), (3, .ref 0 6 none), (4, I i1)], [some ⟨false, false, 6, l2.length, List.map gi_Kind l2⟩]⟩
abbrev Qw_toKindS := Nx X 114 0 Kw_toKindS Zw_toKindS Rw_toKindS (fun _ => [])
theorem nw_toKindS : ∀ s o, Bw_toKindS s = some o → Qw_toKindS (Kw_toKindS s) (Zw_toKindS s) o
 | .h1 va0 i1 l2, o, H =>
  eIf H (fun h1 H =>
  eCk H fun h2 H =>
  eBind H fun x3 hx3 H =>
  eBind H fun r4 hr4 H =>
  eCk H fun h5 H =>
  eBind H fun x6 hx6 H =>
  eN H fun r hn => gO [rg [hT 3], rg [hE 5 (gw_Kind x3), hC 6 true [] (Rw_toKind r4) [], hA 8 ((List.set l2 (Int.toNat i1) r4).length) (List.map gi_Kind (List.set l2 (Int.toNat i1) r4))], r0, .canon [0] [0, 3, 4]] (by kernel_rfl) (P2 ((decide (i1 < ((va0.length : Nat) : Int))) = true) (decide_eq_true h1)<|P1 h2<|P1 (int_lt_of_at h2 hx3)<|P1 (at_map gw_Kind hx3)<|P1 (cw_toKind hr4)<|P1 h5<|P1 (int_lt_of_at h5 hx6)<|P1 (lt_of_at hx6)<|P2 (setCells (List.map gi_Kind l2) (Int.toNat i1) 0 [.str r4.Name, I r4.Strength, I r4.Moves, I r4.Steps, .bool r4.Zone, I r4.View] = List.map gi_Kind (List.set l2 (Int.toNat i1) r4)) (setCells_map hx6 rfl)<|P1 (setLen l2 (Int.toNat i1) r4)<|P0) hn)
  (fun h1 H =>
  eN H<|gE func114 [rg [hF 3], r0] (by kernel_rfl) (P2 ((decide (i1 < ((va0.length : Nat) : Int))) = false) (decide_eq_false h1)<|P0))
theorem ww_toKindS : ∀ s r, loop Bw_toKindS s = some r → Wc X 114 0 (Kw_toKindS s) (Zw_toKindS s) (Rw_toKindS r) ((fun _ => []) r) := Nx.all (nw_toKindS)
theorem cw_toKindS {a0 : (List Gw_Kind)} {r : (List Gi_Kind)} (H : Dw_toKindS a0 = some r) : Ct X.P X.gl 114 [sl 6 gw_Kind a0] [] (Rw_toKindS r) [] :=
 Ct.of func114 (c := bdy f114) (by kernel_rfl) (by kernel_rfl) <|
 eCk H fun h1 H =>
 gO [r0, rg [hA 2 ((List.replicate (Int.toNat ((a0.length : Nat) : Int)) (Gi_Kind.mk ⟨#[]⟩ 0 0 0 false 0)).length) (List.map gi_Kind (List.replicate (Int.toNat ((a0.length : Nat) : Int)) (Gi_Kind.mk ⟨#[]⟩ 0 0 0 false 0)))], r0, .canon [0] [0, 3, 4]] (by kernel_rfl) (PI (((a0.length : Nat) : Int) : Int)<|P2 ((0 : Int) ≤ ((a0.length : Nat) : Int)) (by omega)<|P2 (Int.toNat ((a0.length : Nat) : Int) * 56 ≤ 140737488355328) h1<|P1 (repLen (Int.toNat ((a0.length : Nat) : Int)) (Gi_Kind.mk ⟨#[]⟩ 0 0 0 false 0))<|P1 (repMap gi_Kind (Int.toNat ((a0.length : Nat) : Int)) (Gi_Kind.mk ⟨#[]⟩ 0 0 0 false 0))<|P0) (ww_toKindS _ _ H)
def Rw_toRules (r : Gi_Rules) : List D := [.agg [ow 5 goi_Terrain r.Terrains, ow 6 gi_Kind r.Kinds, I r.Stack, I r.River, I r.Road, I r.Supply, I r.Turns]]
theorem cw_toRules {a0 : Gw_Rules} {r : Gi_Rules} (H : Dw_toRules a0 = some r) : Ct X.P X.gl 60 [gw_Rules a0] [] (Rw_toRules r) [] :=
 Ct.of func60 (c := bdy f60) (by kernel_rfl) (by kernel_rfl) <|
 eBind H fun r1 hr1 H =>
 eBind H fun r2 hr2 H =>
 eW Rw_toRules (fun _ => []) H<|gE func60 [r0, r0, rg [hC 2 true [] (Rw_toTerrainS r1) []], rg [hC 2 true [] (Rw_toKindS r2) []], r0, r0, r0, r0, r0, r0] (by kernel_rfl) (P1 (cw_toTerrainS hr1)<|P1 (cw_toKindS hr2)<|P0)
def Rw_toMap (r : Gi_Map) : List D := [.agg [I r.Width, I r.Height, ow 1 I r.Terrain, ow 1 I r.Rivers, ow 1 I r.Roads]]
theorem cw_toMap {a0 : Gw_Map} {r : Gi_Map} (H : Dw_toMap a0 = some r) : Ct X.P X.gl 61 [gw_Map a0] [] (Rw_toMap r) [] :=
 Ct.of func61 (c := bdy f61) (by kernel_rfl) (by kernel_rfl) <|
 eBind H fun r1 hr1 H =>
 eBind H fun r2 hr2 H =>
 eBind H fun r3 hr3 H =>
 eW Rw_toMap (fun _ => []) H<|gE func61 [r0, r0, r0, r0, rg [hC 2 true [] (Rw_toIntS r1) []], rg [hC 2 true [] (Rw_toIntS r2) []], rg [hC 2 true [] (Rw_toIntS r3) []], r0] (by kernel_rfl) (P1 (cw_toIntS hr1)<|P1 (cw_toIntS hr2)<|P1 (cw_toIntS hr3)<|P0)
def Rw_toBoard (r : Gi_Board) : List D := [.agg [ow 5 goi_Terrain r.Rules.Terrains, ow 6 gi_Kind r.Rules.Kinds, I r.Rules.Stack, I r.Rules.River, I r.Rules.Road, I r.Rules.Supply, I r.Rules.Turns, I r.Map.Width, I r.Map.Height, ow 1 I r.Map.Terrain, ow 1 I r.Map.Rivers, ow 1 I r.Map.Roads]]
theorem cw_toBoard {a0 : Gw_Board} {r : Gi_Board} (H : Dw_toBoard a0 = some r) : Ct X.P X.gl 27 [gw_Board a0] [] (Rw_toBoard r) [] :=
 Ct.of func27 (c := bdy f27) (by kernel_rfl) (by kernel_rfl) <|
 eBind H fun r1 hr1 H =>
 eBind H fun r2 hr2 H =>
 eW Rw_toBoard (fun _ => []) H<|gE func27 [r0, r0, rg [hC 2 true [] (Rw_toRules r1) []], rg [hC 2 true [] (Rw_toMap r2) []], r0] (by kernel_rfl) (P1 (cw_toRules hr1)<|P1 (cw_toMap hr2)<|P0)
def Rw_toOdds (r : Gi_Odds) : List D := [.agg [I r.Num, I r.Den]]
theorem cw_toOdds {a0 : Gw_Odds} {r : Gi_Odds} (H : Dw_toOdds a0 = some r) : Ct X.P X.gl 115 [gw_Odds a0] [] (Rw_toOdds r) [] :=
 Ct.of func115 (c := bdy f115) (by kernel_rfl) (by kernel_rfl) <|
 eW Rw_toOdds (fun _ => []) H<|gE func115 [r0, r0, r0, r0, r0] (by kernel_rfl) P0
def Rw_toOddsS (r : (List Gi_Odds)) : List D := [ow 2 gi_Odds r]
noncomputable def Kw_toOddsS : Sw_toOddsS → List Item
 | .h1 .. => nav 300 3 [] [.code (bdy f62)]
def Zw_toOddsS : Sw_toOddsS → St
 | .h1 va0 i1 l2 => ⟨sts 23 [(0, sl 2 gw_Odds va0), (3, .ref 0 2 none), (4, I i1)], [some ⟨false, false, 2, l2.length, List.map gi_Odds l2⟩]⟩
abbrev Qw_toOddsS := Nx X 62 0 Kw_toOddsS Zw_toOddsS Rw_toOddsS (fun _ => [])
theorem nw_toOddsS : ∀ s o, Bw_toOddsS s = some o → Qw_toOddsS (Kw_toOddsS s) (Zw_toOddsS s) o
 | .h1 va0 i1 l2, o, H =>
  eIf H (fun h1 H =>
  eCk H fun h2 H =>
  eBind H fun x3 hx3 H =>
  eBind H fun r4 hr4 H =>
  eCk H fun h5 H =>
  eBind H fun x6 hx6 H =>
  eN H fun r hn => gO [rg [hT 3], rg [hE 5 (gw_Odds x3), hC 6 true [] (Rw_toOdds r4) [], hA 8 ((List.set l2 (Int.toNat i1) r4).length) (List.map gi_Odds (List.set l2 (Int.toNat i1) r4))], r0, .canon [0] [0, 3, 4]] (by kernel_rfl) (P2 ((decide (i1 < ((va0.length : Nat) : Int))) = true) (decide_eq_true h1)<|P1 h2<|P1 (int_lt_of_at h2 hx3)<|P1 (at_map gw_Odds hx3)<|P1 (cw_toOdds hr4)<|P1 h5<|P1 (int_lt_of_at h5 hx6)<|P1 (lt_of_at hx6)<|P2 (setCells (List.map gi_Odds l2) (Int.toNat i1) 0 [I r4.Num, I r4.Den] = List.map gi_Odds (List.set l2 (Int.toNat i1) r4)) (setCells_map hx6 rfl)<|P1 (setLen l2 (Int.toNat i1) r4)<|P0) hn)
  (fun h1 H =>
  eN H<|gE func62 [rg [hF 3], r0] (by kernel_rfl) (P2 ((decide (i1 < ((va0.length : Nat) : Int))) = false) (decide_eq_false h1)<|P0))
theorem ww_toOddsS : ∀ s r, loop Bw_toOddsS s = some r → Wc X 62 0 (Kw_toOddsS s) (Zw_toOddsS s) (Rw_toOddsS r) ((fun _ => []) r) := Nx.all (nw_toOddsS)
theorem cw_toOddsS {a0 : (List Gw_Odds)} {r : (List Gi_Odds)} (H : Dw_toOddsS a0 = some r) : Ct X.P X.gl 62 [sl 2 gw_Odds a0] [] (Rw_toOddsS r) [] :=
 Ct.of func62 (c := bdy f62) (by kernel_rfl) (by kernel_rfl) <|
 eCk H fun h1 H =>
 gO [r0, rg [hA 2 ((List.replicate (Int.toNat ((a0.length : Nat) : Int)) (Gi_Odds.mk 0 0)).length) (List.map gi_Odds (List.replicate (Int.toNat ((a0.length : Nat) : Int)) (Gi_Odds.mk 0 0)))], r0, .canon [0] [0, 3, 4]] (by kernel_rfl) (PI (((a0.length : Nat) : Int) : Int)<|P2 ((0 : Int) ≤ ((a0.length : Nat) : Int)) (by omega)<|P2 (Int.toNat ((a0.length : Nat) : Int) * 16 ≤ 140737488355328) h1<|P1 (repLen (Int.toNat ((a0.length : Nat) : Int)) (Gi_Odds.mk 0 0))<|P1 (repMap gi_Odds (Int.toNat ((a0.length : Nat) : Int)) (Gi_Odds.mk 0 0))<|P0) (ww_toOddsS _ _ H)
def Rw_toIntSS (r : (List (List Int))) : List D := [ow 1 (ow 1 I) r]
noncomputable def Kw_toIntSS : Sw_toIntSS → List Item
 | .h1 .. => nav 300 3 [] [.code (bdy f63)]
def Zw_toIntSS : Sw_toIntSS → St
 | .h1 va0 i1 l2 => ⟨sts 23 [(0, sl 1 (sl 1 I) va0), (3, .ref 0 1 none), (4, I i1)], [some ⟨false, false, 1, l2.length, List.map (ow 1 I) l2⟩]⟩
abbrev Qw_toIntSS := Nx X 63 0 Kw_toIntSS Zw_toIntSS Rw_toIntSS (fun _ => [])
theorem nw_toIntSS : ∀ s o, Bw_toIntSS s = some o → Qw_toIntSS (Kw_toIntSS s) (Zw_toIntSS s) o
 | .h1 va0 i1 l2, o, H =>
  eIf H (fun h1 H =>
  eCk H fun h2 H =>
  eBind H fun x3 hx3 H =>
  eBind H fun r4 hr4 H =>
  eCk H fun h5 H =>
  eBind H fun x6 hx6 H =>
  eN H fun r hn => gO [rg [hT 3], rg [hE 5 ((sl 1 I) x3), hC 6 true [] (Rw_toIntS r4) [], { i := 8, xs := List.set (List.map (ow 1 I) l2) (Int.toNat i1) (.ref 1 1 none), post := [.put 0 (Int.toNat i1) 0 1 (List.map (ow 1 I) (List.set l2 (Int.toNat i1) r4)), .own 0 (List.set l2 (Int.toNat i1) r4).length] }], r0, .canon [0] [0, 3, 4]] (by kernel_rfl) (P2 ((decide (i1 < ((va0.length : Nat) : Int))) = true) (decide_eq_true h1)<|P1 h2<|P1 (int_lt_of_at h2 hx3)<|P1 (at_map (sl 1 I) hx3)<|P1 (cw_toIntS hr4)<|P1 h5<|P1 (int_lt_of_at h5 hx6)<|P1 (lt_of_at hx6)<|P2 (setCells (List.map (ow 1 I) l2) (Int.toNat i1) 0 [.ref 1 1 none] = List.set (List.map (ow 1 I) l2) (Int.toNat i1) (.ref 1 1 none)) (setCells_mapD hx6 rfl)<|P2 (getCells (List.set (List.map (ow 1 I) l2) (Int.toNat i1) (.ref 1 1 none)) (Int.toNat i1) 0 1 = some [.ref 1 1 none]) (getCells_set hx6 rfl)<|P2 (setCells (List.set (List.map (ow 1 I) l2) (Int.toNat i1) (.ref 1 1 none)) (Int.toNat i1) 0 [ow 1 I r4] = List.map (ow 1 I) (List.set l2 (Int.toNat i1) r4)) (setCells_set hx6 rfl)<|P1 (allOw_26 (List.set l2 (Int.toNat i1) r4))<|P1 (setLen l2 (Int.toNat i1) r4)<|P0) hn)
  (fun h1 H =>
  eN H<|gE func63 [rg [hF 3], r0] (by kernel_rfl) (P2 ((decide (i1 < ((va0.length : Nat) : Int))) = false) (decide_eq_false h1)<|P0))
theorem ww_toIntSS : ∀ s r, loop Bw_toIntSS s = some r → Wc X 63 0 (Kw_toIntSS s) (Zw_toIntSS s) (Rw_toIntSS r) ((fun _ => []) r) := Nx.all (nw_toIntSS)
theorem cw_toIntSS {a0 : (List (List Int))} {r : (List (List Int))} (H : Dw_toIntSS a0 = some r) : Ct X.P X.gl 63 [sl 1 (sl 1 I) a0] [] (Rw_toIntSS r) [] :=
 Ct.of func63 (c := bdy f63) (by kernel_rfl) (by kernel_rfl) <|
 eCk H fun h1 H =>
 gO [r0, rg [{ i := 2, n := (List.replicate (Int.toNat ((a0.length : Nat) : Int)) ([] : (List Int))).length, xs := List.replicate (Int.toNat ((a0.length : Nat) : Int)) (.nil : D), post := [.nils 0 (List.map (ow 1 I) (List.replicate (Int.toNat ((a0.length : Nat) : Int)) ([] : (List Int))))] }], r0, .canon [0] [0, 3, 4]] (by kernel_rfl) (PI (((a0.length : Nat) : Int) : Int)<|P2 ((0 : Int) ≤ ((a0.length : Nat) : Int)) (by omega)<|P2 (Int.toNat ((a0.length : Nat) : Int) * 24 ≤ 140737488355328) h1<|P1 (repLen (Int.toNat ((a0.length : Nat) : Int)) ([] : (List Int)))<|P2 (List.replicate (Int.toNat ((a0.length : Nat) : Int)) (.nil : D) = List.replicate (Int.toNat ((a0.length : Nat) : Int)) (.nil : D)) rfl<|P2 (NilOk (List.replicate (Int.toNat ((a0.length : Nat) : Int)) (.nil : D)) (List.map (ow 1 I) (List.replicate (Int.toNat ((a0.length : Nat) : Int)) ([] : (List Int))))) (nilOk_rep (f := (ow 1 I)) (z := (.nil : D)) (x := ([] : (List Int))) (nilC_n nilC_0) (Int.toNat ((a0.length : Nat) : Int)))<|P0) (ww_toIntSS _ _ H)
def Rw_toCombatTable (r : Gi_CombatTable) : List D := [.agg [ow 2 gi_Odds r.Columns, I r.Dice, ow 1 (ow 1 I) r.Results]]
theorem cw_toCombatTable {a0 : Gw_CombatTable} {r : Gi_CombatTable} (H : Dw_toCombatTable a0 = some r) : Ct X.P X.gl 28 [gw_CombatTable a0] [] (Rw_toCombatTable r) [] :=
 Ct.of func28 (c := bdy f28) (by kernel_rfl) (by kernel_rfl) <|
 eBind H fun r1 hr1 H =>
 eBind H fun r2 hr2 H =>
 eW Rw_toCombatTable (fun _ => []) H<|gE func28 [r0, r0, rg [hC 2 true [] (Rw_toOddsS r1) []], r0, rg [hC 2 true [] (Rw_toIntSS r2) []], r0] (by kernel_rfl) (P1 (cw_toOddsS hr1)<|P1 (cw_toIntSS hr2)<|P0)
def Rw_toUnit (r : Gi_Unit) : List D := [.agg [I r.Side, I r.Kind, I r.At, I r.Steps]]
theorem cw_toUnit {a0 : Gw_Unit} {r : Gi_Unit} (H : Dw_toUnit a0 = some r) : Ct X.P X.gl 116 [gw_Unit a0] [] (Rw_toUnit r) [] :=
 Ct.of func116 (c := bdy f116) (by kernel_rfl) (by kernel_rfl) <|
 eW Rw_toUnit (fun _ => []) H<|gE func116 [r0, r0, r0, r0, r0, r0, r0] (by kernel_rfl) P0
def Rw_toUnitS (r : (List Gi_Unit)) : List D := [ow 4 gi_Unit r]
noncomputable def Kw_toUnitS : Sw_toUnitS → List Item
 | .h1 .. => nav 300 3 [] [.code (bdy f64)]
def Zw_toUnitS : Sw_toUnitS → St
 | .h1 va0 i1 l2 => ⟨sts 23 [(0, sl 4 gw_Unit va0), (3, .ref 0 4 none), (4, I i1)], [some ⟨false, false, 4, l2.length, List.map gi_Unit l2⟩]⟩
abbrev Qw_toUnitS := Nx X 64 0 Kw_toUnitS Zw_toUnitS Rw_toUnitS (fun _ => [])
theorem nw_toUnitS : ∀ s o, Bw_toUnitS s = some o → Qw_toUnitS (Kw_toUnitS s) (Zw_toUnitS s) o
 | .h1 va0 i1 l2, o, H =>
  eIf H (fun h1 H =>
  eCk H fun h2 H =>
  eBind H fun x3 hx3 H =>
  eBind H fun r4 hr4 H =>
  eCk H fun h5 H =>
  eBind H fun x6 hx6 H =>
  eN H fun r hn => gO [rg [hT 3], rg [hE 5 (gw_Unit x3), hC 6 true [] (Rw_toUnit r4) [], hA 8 ((List.set l2 (Int.toNat i1) r4).length) (List.map gi_Unit (List.set l2 (Int.toNat i1) r4))], r0, .canon [0] [0, 3, 4]] (by kernel_rfl) (P2 ((decide (i1 < ((va0.length : Nat) : Int))) = true) (decide_eq_true h1)<|P1 h2<|P1 (int_lt_of_at h2 hx3)<|P1 (at_map gw_Unit hx3)<|P1 (cw_toUnit hr4)<|P1 h5<|P1 (int_lt_of_at h5 hx6)<|P1 (lt_of_at hx6)<|P2 (setCells (List.map gi_Unit l2) (Int.toNat i1) 0 [I r4.Side, I r4.Kind, I r4.At, I r4.Steps] = List.map gi_Unit (List.set l2 (Int.toNat i1) r4)) (setCells_map hx6 rfl)<|P1 (setLen l2 (Int.toNat i1) r4)<|P0) hn)
  (fun h1 H =>
  eN H<|gE func64 [rg [hF 3], r0] (by kernel_rfl) (P2 ((decide (i1 < ((va0.length : Nat) : Int))) = false) (decide_eq_false h1)<|P0))
theorem ww_toUnitS : ∀ s r, loop Bw_toUnitS s = some r → Wc X 64 0 (Kw_toUnitS s) (Zw_toUnitS s) (Rw_toUnitS r) ((fun _ => []) r) := Nx.all (nw_toUnitS)
theorem cw_toUnitS {a0 : (List Gw_Unit)} {r : (List Gi_Unit)} (H : Dw_toUnitS a0 = some r) : Ct X.P X.gl 64 [sl 4 gw_Unit a0] [] (Rw_toUnitS r) [] :=
 Ct.of func64 (c := bdy f64) (by kernel_rfl) (by kernel_rfl) <|
 eCk H fun h1 H =>
 gO [r0, rg [hA 2 ((List.replicate (Int.toNat ((a0.length : Nat) : Int)) (Gi_Unit.mk 0 0 0 0)).length) (List.map gi_Unit (List.replicate (Int.toNat ((a0.length : Nat) : Int)) (Gi_Unit.mk 0 0 0 0)))], r0, .canon [0] [0, 3, 4]] (by kernel_rfl) (PI (((a0.length : Nat) : Int) : Int)<|P2 ((0 : Int) ≤ ((a0.length : Nat) : Int)) (by omega)<|P2 (Int.toNat ((a0.length : Nat) : Int) * 32 ≤ 140737488355328) h1<|P1 (repLen (Int.toNat ((a0.length : Nat) : Int)) (Gi_Unit.mk 0 0 0 0))<|P1 (repMap gi_Unit (Int.toNat ((a0.length : Nat) : Int)) (Gi_Unit.mk 0 0 0 0))<|P0) (ww_toUnitS _ _ H)
def Rw_toState (r : Gi_State) : List D := [.agg [I r.Turn, I r.Weather, ow 4 gi_Unit r.Units]]
theorem cw_toState {a0 : Gw_State} {r : Gi_State} (H : Dw_toState a0 = some r) : Ct X.P X.gl 29 [gw_State a0] [] (Rw_toState r) [] :=
 Ct.of func29 (c := bdy f29) (by kernel_rfl) (by kernel_rfl) <|
 eBind H fun r1 hr1 H =>
 eW Rw_toState (fun _ => []) H<|gE func29 [r0, r0, r0, r0, rg [hC 2 true [] (Rw_toUnitS r1) []], r0] (by kernel_rfl) (P1 (cw_toUnitS hr1)<|P0)
def Rw_toGoal (r : Gi_Goal) : List D := [.agg [I r.At, I r.Points]]
theorem cw_toGoal {a0 : Gw_Goal} {r : Gi_Goal} (H : Dw_toGoal a0 = some r) : Ct X.P X.gl 117 [gw_Goal a0] [] (Rw_toGoal r) [] :=
 Ct.of func117 (c := bdy f117) (by kernel_rfl) (by kernel_rfl) <|
 eW Rw_toGoal (fun _ => []) H<|gE func117 [r0, r0, r0, r0, r0] (by kernel_rfl) P0
def Rw_toGoalS (r : (List Gi_Goal)) : List D := [ow 2 gi_Goal r]
noncomputable def Kw_toGoalS : Sw_toGoalS → List Item
 | .h1 .. => nav 300 3 [] [.code (bdy f65)]
def Zw_toGoalS : Sw_toGoalS → St
 | .h1 va0 i1 l2 => ⟨sts 23 [(0, sl 2 gw_Goal va0), (3, .ref 0 2 none), (4, I i1)], [some ⟨false, false, 2, l2.length, List.map gi_Goal l2⟩]⟩
abbrev Qw_toGoalS := Nx X 65 0 Kw_toGoalS Zw_toGoalS Rw_toGoalS (fun _ => [])
theorem nw_toGoalS : ∀ s o, Bw_toGoalS s = some o → Qw_toGoalS (Kw_toGoalS s) (Zw_toGoalS s) o
 | .h1 va0 i1 l2, o, H =>
  eIf H (fun h1 H =>
  eCk H fun h2 H =>
  eBind H fun x3 hx3 H =>
  eBind H fun r4 hr4 H =>
  eCk H fun h5 H =>
  eBind H fun x6 hx6 H =>
  eN H fun r hn => gO [rg [hT 3], rg [hE 5 (gw_Goal x3), hC 6 true [] (Rw_toGoal r4) [], hA 8 ((List.set l2 (Int.toNat i1) r4).length) (List.map gi_Goal (List.set l2 (Int.toNat i1) r4))], r0, .canon [0] [0, 3, 4]] (by kernel_rfl) (P2 ((decide (i1 < ((va0.length : Nat) : Int))) = true) (decide_eq_true h1)<|P1 h2<|P1 (int_lt_of_at h2 hx3)<|P1 (at_map gw_Goal hx3)<|P1 (cw_toGoal hr4)<|P1 h5<|P1 (int_lt_of_at h5 hx6)<|P1 (lt_of_at hx6)<|P2 (setCells (List.map gi_Goal l2) (Int.toNat i1) 0 [I r4.At, I r4.Points] = List.map gi_Goal (List.set l2 (Int.toNat i1) r4)) (setCells_map hx6 rfl)<|P1 (setLen l2 (Int.toNat i1) r4)<|P0) hn)
  (fun h1 H =>
  eN H<|gE func65 [rg [hF 3], r0] (by kernel_rfl) (P2 ((decide (i1 < ((va0.length : Nat) : Int))) = false) (decide_eq_false h1)<|P0))
theorem ww_toGoalS : ∀ s r, loop Bw_toGoalS s = some r → Wc X 65 0 (Kw_toGoalS s) (Zw_toGoalS s) (Rw_toGoalS r) ((fun _ => []) r) := Nx.all (nw_toGoalS)
theorem cw_toGoalS {a0 : (List Gw_Goal)} {r : (List Gi_Goal)} (H : Dw_toGoalS a0 = some r) : Ct X.P X.gl 65 [sl 2 gw_Goal a0] [] (Rw_toGoalS r) [] :=
 Ct.of func65 (c := bdy f65) (by kernel_rfl) (by kernel_rfl) <|
 eCk H fun h1 H =>
 gO [r0, rg [hA 2 ((List.replicate (Int.toNat ((a0.length : Nat) : Int)) (Gi_Goal.mk 0 0)).length) (List.map gi_Goal (List.replicate (Int.toNat ((a0.length : Nat) : Int)) (Gi_Goal.mk 0 0)))], r0, .canon [0] [0, 3, 4]] (by kernel_rfl) (PI (((a0.length : Nat) : Int) : Int)<|P2 ((0 : Int) ≤ ((a0.length : Nat) : Int)) (by omega)<|P2 (Int.toNat ((a0.length : Nat) : Int) * 16 ≤ 140737488355328) h1<|P1 (repLen (Int.toNat ((a0.length : Nat) : Int)) (Gi_Goal.mk 0 0))<|P1 (repMap gi_Goal (Int.toNat ((a0.length : Nat) : Int)) (Gi_Goal.mk 0 0))<|P0) (ww_toGoalS _ _ H)
def Rw_toConditions (r : Gi_Conditions) : List D := [.agg [ow 2 gi_Goal r.Goals, I r.Step, I r.Margin]]
theorem cw_toConditions {a0 : Gw_Conditions} {r : Gi_Conditions} (H : Dw_toConditions a0 = some r) : Ct X.P X.gl 30 [gw_Conditions a0] [] (Rw_toConditions r) [] :=
 Ct.of func30 (c := bdy f30) (by kernel_rfl) (by kernel_rfl) <|
 eBind H fun r1 hr1 H =>
 eW Rw_toConditions (fun _ => []) H<|gE func30 [r0, r0, rg [hC 2 true [] (Rw_toGoalS r1) []], r0, r0, r0] (by kernel_rfl) (P1 (cw_toGoalS hr1)<|P0)
def Rw_toScenario (r : Gi_Scenario) : List D := [.agg [.str r.Name, ow 5 goi_Terrain r.Board.Rules.Terrains, ow 6 gi_Kind r.Board.Rules.Kinds, I r.Board.Rules.Stack, I r.Board.Rules.River, I r.Board.Rules.Road, I r.Board.Rules.Supply, I r.Board.Rules.Turns, I r.Board.Map.Width, I r.Board.Map.Height, ow 1 I r.Board.Map.Terrain, ow 1 I r.Board.Map.Rivers, ow 1 I r.Board.Map.Roads, ow 2 gi_Odds r.Table.Columns, I r.Table.Dice, ow 1 (ow 1 I) r.Table.Results, I r.Start.Turn, I r.Start.Weather, ow 4 gi_Unit r.Start.Units, ow 2 gi_Goal r.Conditions.Goals, I r.Conditions.Step, I r.Conditions.Margin, ow 1 I r.First, ow 1 I r.Other]]
theorem cw_toScenario {a0 : Gw_Scenario} {r : Gi_Scenario} (H : Dw_toScenario a0 = some r) : Ct X.P X.gl 7 [gw_Scenario a0] [] (Rw_toScenario r) [] :=
 Ct.of func7 (c := bdy f7) (by kernel_rfl) (by kernel_rfl) <|
 eBind H fun r1 hr1 H =>
 eBind H fun r2 hr2 H =>
 eBind H fun r3 hr3 H =>
 eBind H fun r4 hr4 H =>
 eBind H fun r5 hr5 H =>
 eBind H fun r6 hr6 H =>
 eW Rw_toScenario (fun _ => []) H<|gE func7 [r0, r0, r0, rg [hC 2 true [] (Rw_toBoard r1) []], rg [hC 2 true [] (Rw_toCombatTable r2) []], rg [hC 2 true [] (Rw_toState r3) []], rg [hC 2 true [] (Rw_toConditions r4) []], rg [hC 2 true [] (Rw_toIntS r5) []], rg [hC 2 true [] (Rw_toIntS r6) []], r0] (by kernel_rfl) (P1 (cw_toBoard hr1)<|P1 (cw_toCombatTable hr2)<|P1 (cw_toState hr3)<|P1 (cw_toConditions hr4)<|P1 (cw_toIntS hr5)<|P1 (cw_toIntS hr6)<|P0)
theorem cs_l1In {a0 : Int} {a1 : Int} {a2 : Int} {r : Bool} (H : Ds_l1In a0 a1 a2 = some r) : Ct X.P X.gl 23 [I a0, I a1, I a2] [] (RB r) [] :=
 Ct.of func23 (c := bdy f23) (by kernel_rfl) (by kernel_rfl) <|
 gS [r0] (by kernel_rfl) P0 <|
 eIf H (fun h1 H =>
 eW RB (fun _ => []) H<|gE func23 [rg [hT 2]] (by kernel_rfl) (P2 ((decide (a0 ≥ a1)) = true) (decide_eq_true h1)<|P0))
 (fun h1 H =>
 eW RB (fun _ => []) H<|gE func23 [rg [hF 2]] (by kernel_rfl) (P2 ((decide (a0 ≥ a1)) = false) (decide_eq_false h1)<|P0))
noncomputable def Ks_rName : Ss_rName → List Item
 | .h1 .. => nav 300 2 [] [.code (bdy f103)]
def Zs_rName : Ss_rName → St
 | .h1 s0 i1 => ⟨sts 23 [(0, .str s0), (3, I i1)], []⟩
abbrev Qs_rName := Nx X 103 0 Ks_rName Zs_rName RB (fun _ => [])
theorem ns_rName : ∀ s o, Bs_rName s = some o → Qs_rName (Ks_rName s) (Zs_rName s) o
 | .h1 s0 i1, o, H =>
  eIf H (fun h1 H =>
  eCk H fun h2 H =>
  eCk H fun h3 H =>
  gN [rg [hT 3]] (by kernel_rfl) (P2 ((decide (i1 < ((ByteArray.size s0 : Nat) : Int))) = true) (decide_eq_true h1)<|P0) <|
  eIf H (fun h4 H =>
  eN H<|gE func103 [rg [{ i := 2, n := byteAt s0 (Int.toNat i1) }, hT 3], r0] (by kernel_rfl) (P2 ((0 : Int) ≤ i1) h2<|P2 (i1 < (ByteArray.size s0 : Int)) h3<|P2 ((s0.data.toList[(Int.toNat i1)]?.map fun b => (b.toNat : Int)) = some ((byteAt s0 (Int.toNat i1) : Nat) : Int)) (byteAt_ok (by omega))<|P2 ((decide (((byteAt s0 (Int.toNat i1) : Nat) : Int) < 97)) = true) (decide_eq_true h4)<|P0))
  (fun h4 H =>
  eCk H fun h5 H =>
  eCk H fun h6 H =>
  eIf H (fun h7 H =>
  eN H<|gE func103 [rg [{ i := 2, n := byteAt s0 (Int.toNat i1) }, hF 3, { i := 7, n := byteAt s0 (Int.toNat i1) }, hT 8], r0] (by kernel_rfl) (P2 ((0 : Int) ≤ i1) h2<|P2 (i1 < (ByteArray.size s0 : Int)) h3<|P2 ((s0.data.toList[(Int.toNat i1)]?.map fun b => (b.toNat : Int)) = some ((byteAt s0 (Int.toNat i1) : Nat) : Int)) (byteAt_ok (by omega))<|P2 ((decide (((byteAt s0 (Int.toNat i1) : Nat) : Int) < 97)) = false) (decide_eq_false h4)<|P2 ((0 : Int) ≤ i1) h5<|P2 (i1 < (ByteArray.size s0 : Int)) h6<|P2 ((s0.data.toList[(Int.toNat i1)]?.map fun b => (b.toNat : Int)) = some ((byteAt s0 (Int.toNat i1) : Nat) : Int)) (byteAt_ok (by omega))<|P2 ((decide (((byteAt s0 (Int.toNat i1) : Nat) : Int) > 122)) = true) (decide_eq_true h7)<|P0))
  (fun h7 H =>
  eN H fun r hn => gO [rg [{ i := 2, n := byteAt s0 (Int.toNat i1) }, hF 3, { i := 7, n := byteAt s0 (Int.toNat i1) }, hF 8], r0, .canon [] [0, 3]] (by kernel_rfl) (P2 ((0 : Int) ≤ i1) h2<|P2 (i1 < (ByteArray.size s0 : Int)) h3<|P2 ((s0.data.toList[(Int.toNat i1)]?.map fun b => (b.toNat : Int)) = some ((byteAt s0 (Int.toNat i1) : Nat) : Int)) (byteAt_ok (by omega))<|P2 ((decide (((byteAt s0 (Int.toNat i1) : Nat) : Int) < 97)) = false) (decide_eq_false h4)<|P2 ((0 : Int) ≤ i1) h5<|P2 (i1 < (ByteArray.size s0 : Int)) h6<|P2 ((s0.data.toList[(Int.toNat i1)]?.map fun b => (b.toNat : Int)) = some ((byteAt s0 (Int.toNat i1) : Nat) : Int)) (byteAt_ok (by omega))<|P2 ((decide (((byteAt s0 (Int.toNat i1) : Nat) : Int) > 122)) = false) (decide_eq_false h7)<|P0) hn)))
  (fun h1 H =>
  eBind H fun r2 hr2 H =>
  eN H<|gE func103 [rg [hF 3], rg [hC 2 true [] (RB r2) []]] (by kernel_rfl) (P2 ((decide (i1 < ((ByteArray.size s0 : Nat) : Int))) = false) (decide_eq_false h1)<|P1 (cs_l1In hr2)<|P0))
theorem ws_rName : ∀ s r, loop Bs_rName s = some r → Wc X 103 0 (Ks_rName s) (Zs_rName s) (RB r) ((fun _ => []) r) := Nx.all (ns_rName)
theorem cs_rName {a0 : ByteArray} {r : Bool} (H : Ds_rName a0 = some r) : Ct X.P X.gl 103 [.str a0] [] (RB r) [] :=
 Ct.of func103 (c := bdy f103) (by kernel_rfl) (by kernel_rfl) <|
 gO [r0, r0, .canon [] [0, 3]] (by kernel_rfl) P0 (ws_rName _ _ H)
noncomputable def Ks_rTerrain : Ss_rTerrain → List Item
 | .h1 .. => nav 300 2 [] [.code (bdy f195)]
def Zs_rTerrain : Ss_rTerrain → St
 | .h1 name0 t1 t2 t3 => ⟨sts 20 [(1, .str name0), (7, sl 5 gi_Terrain t1), (8, I t2), (9, I t3)], []⟩
abbrev Qs_rTerrain := Nx X 195 0 Ks_rTerrain Zs_rTerrain RI (fun _ => [])
theorem ns_rTerrain : ∀ s o, Bs_rTerrain s = some o → Qs_rTerrain (Ks_rTerrain s) (Zs_rTerrain s) o
 | .h1 name0 t1 t2 t3, o, H =>
  eIf H (fun h1 H =>
  eCk H fun h2 H =>
  eBind H fun x3 hx3 H =>
  gN [rg [hT 0], rg [hE 2 (gi_Terrain x3)]] (by kernel_rfl) (P2 ((decide (t3 < t2)) = true) (decide_eq_true h1)<|P1 h2<|P1 (int_lt_of_at h2 hx3)<|P1 (at_map gi_Terrain hx3)<|P0) <|
  eIf H (fun h4 H =>
  eN H<|gE func195 [rg [hT 3], r0] (by kernel_rfl) (P2 ((x3.Name == name0) = true) (beqT h4)<|P0))
  (fun h4 H =>
  eN H fun r hn => gO [rg [hF 3], r0, .canon [] [1, 7, 8, 9]] (by kernel_rfl) (P2 ((x3.Name == name0) = false) (beqF h4)<|P0) hn))
  (fun h1 H =>
  eN H<|gE func195 [rg [hF 0], r0] (by kernel_rfl) (P2 ((decide (t3 < t2)) = false) (decide_eq_false h1)<|P0))
theorem ws_rTerrain : ∀ s r, loop Bs_rTerrain s = some r → Wc X 195 0 (Ks_rTerrain s) (Zs_rTerrain s) (RI r) ((fun _ => []) r) := Nx.all (ns_rTerrain)
theorem cs_rTerrain {a0 : (List Gi_Terrain)} {a1 : ByteArray} {r : Int} (H : Ds_rTerrain a0 a1 = some r) : Ct X.P X.gl 195 [sl 5 gi_Terrain a0, .str a1] [] (RI r) [] :=
 Ct.of func195 (c := bdy f195) (by kernel_rfl) (by kernel_rfl) <|
 gO [r0, r0, .canon [] [1, 7, 8, 9]] (by kernel_rfl) P0 (ws_rTerrain _ _ H)
noncomputable def Ks_l1All : Ss_l1All → List Item
 | .h1 .. => nav 300 2 [] [.code (bdy f158)]
def Zs_l1All : Ss_l1All → St
 | .h1 lo0 vhi1 t2 t3 t4 => ⟨sts 21 [(1, I lo0), (2, I vhi1), (9, sl 1 I t2), (10, I t3), (11, I t4)], []⟩
abbrev Qs_l1All := Nx X 158 0 Ks_l1All Zs_l1All RB (fun _ => [])
theorem ns_l1All : ∀ s o, Bs_l1All s = some o → Qs_l1All (Ks_l1All s) (Zs_l1All s) o
 | .h1 lo0 vhi1 t2 t3 t4, o, H =>
  eIf H (fun h1 H =>
  eCk H fun h2 H =>
  eBind H fun x3 hx3 H =>
  eBind H fun r4 hr4 H =>
  gN [rg [hT 0], rg [hE 1 (I x3)]] (by kernel_rfl) (P2 ((decide (t4 < t3)) = true) (decide_eq_true h1)<|P1 h2<|P1 (int_lt_of_at h2 hx3)<|P1 (at_map I hx3)<|P0) <|
  eIf H (fun h5 H =>
  eN H fun r hn => gO [rg [{ i := 3, call := some { cl := true, auto := true, ins := [], res := (RB r4), G' := [] }, dec := some true }], r0, .canon [] [1, 2, 9, 10, 11]] (by kernel_rfl) (P1 (cs_l1In hr4)<|P2 (r4 = true) (h5)<|P0) hn)
  (fun h5 H =>
  eN H<|gE func158 [rg [{ i := 3, call := some { cl := true, auto := true, ins := [], res := (RB r4), G' := [] }, dec := some false }], r0] (by kernel_rfl) (P1 (cs_l1In hr4)<|P2 (r4 = false) (eqF h5)<|P0)))
  (fun h1 H =>
  eN H<|gE func158 [rg [hF 0], r0] (by kernel_rfl) (P2 ((decide (t4 < t3)) = false) (decide_eq_false h1)<|P0))
theorem ws_l1All : ∀ s r, loop Bs_l1All s = some r → Wc X 158 0 (Ks_l1All s) (Zs_l1All s) (RB r) ((fun _ => []) r) := Nx.all (ns_l1All)
theorem cs_l1All {a0 : (List Int)} {a1 : Int} {a2 : Int} {r : Bool} (H : Ds_l1All a0 a1 a2 = some r) : Ct X.P X.gl 158 [sl 1 I a0, I a1, I a2] [] (RB r) [] :=
 Ct.of func158 (c := bdy f158) (by kernel_rfl) (by kernel_rfl) <|
 gO [r0, r0, .canon [] [1, 2, 9, 10, 11]] (by kernel_rfl) P0 (ws_l1All _ _ H)
noncomputable def Ks_rKind : Ss_rKind → List Item
 | .h1 .. => nav 300 2 [] [.code (bdy f196)]
def Zs_rKind : Ss_rKind → St
 | .h1 name0 t1 t2 t3 => ⟨sts 20 [(1, .str name0), (7, sl 6 gi_Kind t1), (8, I t2), (9, I t3)], []⟩
abbrev Qs_rKind := Nx X 196 0 Ks_rKind Zs_rKind RI (fun _ => [])
theorem ns_rKind : ∀ s o, Bs_rKind s = some o → Qs_rKind (Ks_rKind s) (Zs_rKind s) o
 | .h1 name0 t1 t2 t3, o, H =>
  eIf H (fun h1 H =>
  eCk H fun h2 H =>
  eBind H fun x3 hx3 H =>
  gN [rg [hT 0], rg [hE 2 (gi_Kind x3)]] (by kernel_rfl) (P2 ((decide (t3 < t2)) = true) (decide_eq_true h1)<|P1 h2<|P1 (int_lt_of_at h2 hx3)<|P1 (at_map gi_Kind hx3)<|P0) <|
  eIf H (fun h4 H =>
  eN H<|gE func196 [rg [hT 3], r0] (by kernel_rfl) (P2 ((x3.Name == name0) = true) (beqT h4)<|P0))
  (fun h4 H =>
  eN H fun r hn => gO [rg [hF 3], r0, .canon [] [1, 7, 8, 9]] (by kernel_rfl) (P2 ((x3.Name == name0) = false) (beqF h4)<|P0) hn))
  (fun h1 H =>
  eN H<|gE func196 [rg [hF 0], r0] (by kernel_rfl) (P2 ((decide (t3 < t2)) = false) (decide_eq_false h1)<|P0))
theorem ws_rKind : ∀ s r, loop Bs_rKind s = some r → Wc X 196 0 (Ks_rKind s) (Zs_rKind s) (RI r) ((fun _ => []) r) := Nx.all (ns_rKind)
theorem cs_rKind {a0 : (List Gi_Kind)} {a1 : ByteArray} {r : Int} (H : Ds_rKind a0 a1 = some r) : Ct X.P X.gl 196 [sl 6 gi_Kind a0, .str a1] [] (RI r) [] :=
 Ct.of func196 (c := bdy f196) (by kernel_rfl) (by kernel_rfl) <|
 gO [r0, r0, .canon [] [1, 7, 8, 9]] (by kernel_rfl) P0 (ws_rKind _ _ H)
noncomputable def Ks_rGood : Ss_rGood → List Item
 | .h1 .. => nav 300 3 [false] [.code (bdy f156)]
 | .h2 .. => nav 300 5 [false, false] [.code (bdy f156)]
def Zs_rGood : Ss_rGood → St
 | .h1 t0 t1 t2 b3 => ⟨sts 137 [(1, .ptr 0 7 0 0), (20, sl 5 gi_Terrain t0), (21, I t1), (22, I t2)], [some ⟨false, true, 7, 1, [gi_Rules b3]⟩]⟩
 | .h2 t0 t1 t2 b3 => ⟨sts 137 [(1, .ptr 0 7 0 0), (69, sl 6 gi_Kind t0), (70, I t1), (71, I t2)], [some ⟨false, true, 7, 1, [gi_Rules b3]⟩]⟩
abbrev Qs_rGood := Nx X 156 0 Ks_rGood Zs_rGood RB (fun _ => [])
theorem ns_rGood : ∀ s o, Bs_rGood s = some o → Qs_rGood (Ks_rGood s) (Zs_rGood s) o
 | .h1 t0 t1 t2 b3, o, H =>
  eIf H (fun h1 H =>
  eCk H fun h2 H =>
  eBind H fun x3 hx3 H =>
  eBind H fun r4 hr4 H =>
  gN [rg [hT 0], rg [hE 2 (gi_Terrain x3)]] (by kernel_rfl) (P2 ((decide (t2 < t1)) = true) (decide_eq_true h1)<|P1 h2<|P1 (int_lt_of_at h2 hx3)<|P1 (at_map gi_Terrain hx3)<|P0) <|
  eIf H (fun h5 H =>
  eBind H fun r6 hr6 H =>
  eIf H (fun h7 H =>
  eIf H (fun h8 H =>
  eBind H fun r9 hr9 H =>
  eIf H (fun h10 H =>
  eBind H fun r11 hr11 H =>
  eIf H (fun h12 H =>
  eBind H fun r13 hr13 H =>
  eIf H (fun h14 H =>
  eN H fun r hn => gO [rg [{ i := 2, call := some { cl := true, auto := true, ins := [], res := (RB r4), G' := [] }, dec := some true }, hC 9 true [] (RI r6) [], hF 11, hF 20, { i := 25, call := some { cl := true, auto := true, ins := [], res := (RB r9), G' := [] }, dec := some true }, { i := 31, call := some { cl := true, auto := true, ins := [], res := (RB r11), G' := [] }, dec := some true }, { i := 37, call := some { cl := true, auto := true, ins := [], res := (RB r13), G' := [] }, dec := some true }], r0, .canon [0] [1, 20, 21, 22]] (by kernel_rfl) (P1 (cs_rName hr4)<|P2 (r4 = true) (h5)<|P1 (cs_rTerrain hr6)<|P2 (((r6 : Int) != t2) = false) (bneF h7)<|P2 (((((x3.Cost.length : Nat) : Int) : Int) != ((b3.Kinds.length : Nat) : Int)) = false) (bneF h8)<|P1 (cs_l1All hr9)<|P2 (r9 = true) (h10)<|P1 (cs_l1In hr11)<|P2 (r11 = true) (h12)<|P1 (cs_l1In hr13)<|P2 (r13 = true) (h14)<|P0) hn)
  (fun h14 H =>
  eN H<|gE func156 [rg [{ i := 2, call := some { cl := true, auto := true, ins := [], res := (RB r4), G' := [] }, dec := some true }, hC 9 true [] (RI r6) [], hF 11, hF 20, { i := 25, call := some { cl := true, auto := true, ins := [], res := (RB r9), G' := [] }, dec := some true }, { i := 31, call := some { cl := true, auto := true, ins := [], res := (RB r11), G' := [] }, dec := some true }, { i := 37, call := some { cl := true, auto := true, ins := [], res := (RB r13), G' := [] }, dec := some false }], r0] (by kernel_rfl) (P1 (cs_rName hr4)<|P2 (r4 = true) (h5)<|P1 (cs_rTerrain hr6)<|P2 (((r6 : Int) != t2) = false) (bneF h7)<|P2 (((((x3.Cost.length : Nat) : Int) : Int) != ((b3.Kinds.length : Nat) : Int)) = false) (bneF h8)<|P1 (cs_l1All hr9)<|P2 (r9 = true) (h10)<|P1 (cs_l1In hr11)<|P2 (r11 = true) (h12)<|P1 (cs_l1In hr13)<|P2 (r13 = false) (eqF h14)<|P0)))
  (fun h12 H =>
  eN H<|gE func156 [rg [{ i := 2, call := some { cl := true, auto := true, ins := [], res := (RB r4), G' := [] }, dec := some true }, hC 9 true [] (RI r6) [], hF 11, hF 20, { i := 25, call := some { cl := true, auto := true, ins := [], res := (RB r9), G' := [] }, dec := some true }, { i := 31, call := some { cl := true, auto := true, ins := [], res := (RB r11), G' := [] }, dec := some false }], r0] (by kernel_rfl) (P1 (cs_rName hr4)<|P2 (r4 = true) (h5)<|P1 (cs_rTerrain hr6)<|P2 (((r6 : Int) != t2) = false) (bneF h7)<|P2 (((((x3.Cost.length : Nat) : Int) : Int) != ((b3.Kinds.length : Nat) : Int)) = false) (bneF h8)<|P1 (cs_l1All hr9)<|P2 (r9 = true) (h10)<|P1 (cs_l1In hr11)<|P2 (r11 = false) (eqF h12)<|P0)))
  (fun h10 H =>
  eN H<|gE func156 [rg [{ i := 2, call := some { cl := true, auto := true, ins := [], res := (RB r4), G' := [] }, dec := some true }, hC 9 true [] (RI r6) [], hF 11, hF 20, { i := 25, call := some { cl := true, auto := true, ins := [], res := (RB r9), G' := [] }, dec := some false }], r0] (by kernel_rfl) (P1 (cs_rName hr4)<|P2 (r4 = true) (h5)<|P1 (cs_rTerrain hr6)<|P2 (((r6 : Int) != t2) = false) (bneF h7)<|P2 (((((x3.Cost.length : Nat) : Int) : Int) != ((b3.Kinds.length : Nat) : Int)) = false) (bneF h8)<|P1 (cs_l1All hr9)<|P2 (r9 = false) (eqF h10)<|P0)))
  (fun h8 H =>
  eN H<|gE func156 [rg [{ i := 2, call := some { cl := true, auto := true, ins := [], res := (RB r4), G' := [] }, dec := some true }, hC 9 true [] (RI r6) [], hF 11, hT 20], r0] (by kernel_rfl) (P1 (cs_rName hr4)<|P2 (r4 = true) (h5)<|P1 (cs_rTerrain hr6)<|P2 (((r6 : Int) != t2) = false) (bneF h7)<|P2 (((((x3.Cost.length : Nat) : Int) : Int) != ((b3.Kinds.length : Nat) : Int)) = true) (bneT h8)<|P0)))
  (fun h7 H =>
  eN H<|gE func156 [rg [{ i := 2, call := some { cl := true, auto := true, ins := [], res := (RB r4), G' := [] }, dec := some true }, hC 9 true [] (RI r6) [], hT 11], r0] (by kernel_rfl) (P1 (cs_rName hr4)<|P2 (r4 = true) (h5)<|P1 (cs_rTerrain hr6)<|P2 (((r6 : Int) != t2) = true) (bneT h7)<|P0)))
  (fun h5 H =>
  eN H<|gE func156 [rg [{ i := 2, call := some { cl := true, auto := true, ins := [], res := (RB r4), G' := [] }, dec := some false }], r0] (by kernel_rfl) (P1 (cs_rName hr4)<|P2 (r4 = false) (eqF h5)<|P0)))
  (fun h1 H =>
  eN H fun r hn => gO [rg [hF 0], r0, .canon [0] [1, 69, 70, 71]] (by kernel_rfl) (P2 ((decide (t2 < t1)) = false) (decide_eq_false h1)<|P0) hn)
 | .h2 t0 t1 t2 b3, o, H =>
  eIf H (fun h1 H =>
  eCk H fun h2 H =>
  eBind H fun x3 hx3 H =>
  eBind H fun r4 hr4 H =>
  gN [rg [hT 0], rg [hE 2 (gi_Kind x3)]] (by kernel_rfl) (P2 ((decide (t2 < t1)) = true) (decide_eq_true h1)<|P1 h2<|P1 (int_lt_of_at h2 hx3)<|P1 (at_map gi_Kind hx3)<|P0) <|
  eIf H (fun h5 H =>
  eBind H fun r6 hr6 H =>
  eIf H (fun h7 H =>
  eBind H fun r8 hr8 H =>
  eIf H (fun h9 H =>
  eBind H fun r10 hr10 H =>
  eIf H (fun h11 H =>
  eBind H fun r12 hr12 H =>
  eIf H (fun h13 H =>
  eBind H fun r14 hr14 H =>
  eIf H (fun h15 H =>
  eN H fun r hn => gO [rg [{ i := 2, call := some { cl := true, auto := true, ins := [], res := (RB r4), G' := [] }, dec := some true }, hC 9 true [] (RI r6) [], hF 11, { i := 16, call := some { cl := true, auto := true, ins := [], res := (RB r8), G' := [] }, dec := some true }, { i := 22, call := some { cl := true, auto := true, ins := [], res := (RB r10), G' := [] }, dec := some true }, { i := 28, call := some { cl := true, auto := true, ins := [], res := (RB r12), G' := [] }, dec := some true }, { i := 34, call := some { cl := true, auto := true, ins := [], res := (RB r14), G' := [] }, dec := some true }], r0, .canon [0] [1, 69, 70, 71]] (by kernel_rfl) (P1 (cs_rName hr4)<|P2 (r4 = true) (h5)<|P1 (cs_rKind hr6)<|P2 (((r6 : Int) != t2) = false) (bneF h7)<|P1 (cs_l1In hr8)<|P2 (r8 = true) (h9)<|P1 (cs_l1In hr10)<|P2 (r10 = true) (h11)<|P1 (cs_l1In hr12)<|P2 (r12 = true) (h13)<|P1 (cs_l1In hr14)<|P2 (r14 = true) (h15)<|P0) hn)
  (fun h15 H =>
  eN H<|gE func156 [rg [{ i := 2, call := some { cl := true, auto := true, ins := [], res := (RB r4), G' := [] }, dec := some true }, hC 9 true [] (RI r6) [], hF 11, { i := 16, call := some { cl := true, auto := true, ins := [], res := (RB r8), G' := [] }, dec := some true }, { i := 22, call := some { cl := true, auto := true, ins := [], res := (RB r10), G' := [] }, dec := some true }, { i := 28, call := some { cl := true, auto := true, ins := [], res := (RB r12), G' := [] }, dec := some true }, { i := 34, call := some { cl := true, auto := true, ins := [], res := (RB r14), G' := [] }, dec := some false }], r0] (by kernel_rfl) (P1 (cs_rName hr4)<|P2 (r4 = true) (h5)<|P1 (cs_rKind hr6)<|P2 (((r6 : Int) != t2) = false) (bneF h7)<|P1 (cs_l1In hr8)<|P2 (r8 = true) (h9)<|P1 (cs_l1In hr10)<|P2 (r10 = true) (h11)<|P1 (cs_l1In hr12)<|P2 (r12 = true) (h13)<|P1 (cs_l1In hr14)<|P2 (r14 = false) (eqF h15)<|P0)))
  (fun h13 H =>
  eN H<|gE func156 [rg [{ i := 2, call := some { cl := true, auto := true, ins := [], res := (RB r4), G' := [] }, dec := some true }, hC 9 true [] (RI r6) [], hF 11, { i := 16, call := some { cl := true, auto := true, ins := [], res := (RB r8), G' := [] }, dec := some true }, { i := 22, call := some { cl := true, auto := true, ins := [], res := (RB r10), G' := [] }, dec := some true }, { i := 28, call := some { cl := true, auto := true, ins := [], res := (RB r12), G' := [] }, dec := some false }], r0] (by kernel_rfl) (P1 (cs_rName hr4)<|P2 (r4 = true) (h5)<|P1 (cs_rKind hr6)<|P2 (((r6 : Int) != t2) = false) (bneF h7)<|P1 (cs_l1In hr8)<|P2 (r8 = true) (h9)<|P1 (cs_l1In hr10)<|P2 (r10 = true) (h11)<|P1 (cs_l1In hr12)<|P2 (r12 = false) (eqF h13)<|P0)))
  (fun h11 H =>
  eN H<|gE func156 [rg [{ i := 2, call := some { cl := true, auto := true, ins := [], res := (RB r4), G' := [] }, dec := some true }, hC 9 true [] (RI r6) [], hF 11, { i := 16, call := some { cl := true, auto := true, ins := [], res := (RB r8), G' := [] }, dec := some true }, { i := 22, call := some { cl := true, auto := true, ins := [], res := (RB r10), G' := [] }, dec := some false }], r0] (by kernel_rfl) (P1 (cs_rName hr4)<|P2 (r4 = true) (h5)<|P1 (cs_rKind hr6)<|P2 (((r6 : Int) != t2) = false) (bneF h7)<|P1 (cs_l1In hr8)<|P2 (r8 = true) (h9)<|P1 (cs_l1In hr10)<|P2 (r10 = false) (eqF h11)<|P0)))
  (fun h9 H =>
  eN H<|gE func156 [rg [{ i := 2, call := some { cl := true, auto := true, ins := [], res := (RB r4), G' := [] }, dec := some true }, hC 9 true [] (RI r6) [], hF 11, { i := 16, call := some { cl := true, auto := true, ins := [], res := (RB r8), G' := [] }, dec := some false }], r0] (by kernel_rfl) (P1 (cs_rName hr4)<|P2 (r4 = true) (h5)<|P1 (cs_rKind hr6)<|P2 (((r6 : Int) != t2) = false) (bneF h7)<|P1 (cs_l1In hr8)<|P2 (r8 = false) (eqF h9)<|P0)))
  (fun h7 H =>
  eN H<|gE func156 [rg [{ i := 2, call := some { cl := true, auto := true, ins := [], res := (RB r4), G' := [] }, dec := some true }, hC 9 true [] (RI r6) [], hT 11], r0] (by kernel_rfl) (P1 (cs_rName hr4)<|P2 (r4 = true) (h5)<|P1 (cs_rKind hr6)<|P2 (((r6 : Int) != t2) = true) (bneT h7)<|P0)))
  (fun h5 H =>
  eN H<|gE func156 [rg [{ i := 2, call := some { cl := true, auto := true, ins := [], res := (RB r4), G' := [] }, dec := some false }], r0] (by kernel_rfl) (P1 (cs_rName hr4)<|P2 (r4 = false) (eqF h5)<|P0)))
  (fun h1 H =>
  eBind H fun r2 hr2 H =>
  gN [rg [hF 0]] (by kernel_rfl) (P2 ((decide (t2 < t1)) = false) (decide_eq_false h1)<|P0) <|
  eIf H (fun h3 H =>
  eBind H fun r4 hr4 H =>
  eIf H (fun h5 H =>
  eBind H fun r6 hr6 H =>
  eIf H (fun h7 H =>
  eBind H fun r8 hr8 H =>
  eIf H (fun h9 H =>
  eBind H fun r10 hr10 H =>
  eN H<|gE func156 [rg [{ i := 2, call := some { cl := true, auto := true, ins := [], res := (RB r2), G' := [] }, dec := some true }, { i := 6, call := some { cl := true, auto := true, ins := [], res := (RB r4), G' := [] }, dec := some true }, { i := 11, call := some { cl := true, auto := true, ins := [], res := (RB r6), G' := [] }, dec := some true }, { i := 16, call := some { cl := true, auto := true, ins := [], res := (RB r8), G' := [] }, dec := some true }, hC 21 true [] (RB r10) []]] (by kernel_rfl) (P1 (cs_l1In hr2)<|P2 (r2 = true) (h3)<|P1 (cs_l1In hr4)<|P2 (r4 = true) (h5)<|P1 (cs_l1In hr6)<|P2 (r6 = true) (h7)<|P1 (cs_l1In hr8)<|P2 (r8 = true) (h9)<|P1 (cs_l1In hr10)<|P0))
  (fun h9 H =>
  eN H<|gE func156 [rg [{ i := 2, call := some { cl := true, auto := true, ins := [], res := (RB r2), G' := [] }, dec := some true }, { i := 6, call := some { cl := true, auto := true, ins := [], res := (RB r4), G' := [] }, dec := some true }, { i := 11, call := some { cl := true, auto := true, ins := [], res := (RB r6), G' := [] }, dec := some true }, { i := 16, call := some { cl := true, auto := true, ins := [], res := (RB r8), G' := [] }, dec := some false }]] (by kernel_rfl) (P1 (cs_l1In hr2)<|P2 (r2 = true) (h3)<|P1 (cs_l1In hr4)<|P2 (r4 = true) (h5)<|P1 (cs_l1In hr6)<|P2 (r6 = true) (h7)<|P1 (cs_l1In hr8)<|P2 (r8 = false) (eqF h9)<|P0)))
  (fun h7 H =>
  eN H<|gE func156 [rg [{ i := 2, call := some { cl := true, auto := true, ins := [], res := (RB r2), G' := [] }, dec := some true }, { i := 6, call := some { cl := true, auto := true, ins := [], res := (RB r4), G' := [] }, dec := some true }, { i := 11, call := some { cl := true, auto := true, ins := [], res := (RB r6), G' := [] }, dec := some false }]] (by kernel_rfl) (P1 (cs_l1In hr2)<|P2 (r2 = true) (h3)<|P1 (cs_l1In hr4)<|P2 (r4 = true) (h5)<|P1 (cs_l1In hr6)<|P2 (r6 = false) (eqF h7)<|P0)))
  (fun h5 H =>
  eN H<|gE func156 [rg [{ i := 2, call := some { cl := true, auto := true, ins := [], res := (RB r2), G' := [] }, dec := some true }, { i := 6, call := some { cl := true, auto := true, ins := [], res := (RB r4), G' := [] }, dec := some false }]] (by kernel_rfl) (P1 (cs_l1In hr2)<|P2 (r2 = true) (h3)<|P1 (cs_l1In hr4)<|P2 (r4 = false) (eqF h5)<|P0)))
  (fun h3 H =>
  eN H<|gE func156 [rg [{ i := 2, call := some { cl := true, auto := true, ins := [], res := (RB r2), G' := [] }, dec := some false }]] (by kernel_rfl) (P1 (cs_l1In hr2)<|P2 (r2 = false) (eqF h3)<|P0)))
theorem ws_rGood : ∀ s r, loop Bs_rGood s = some r → Wc X 156 0 (Ks_rGood s) (Zs_rGood s) (RB r) ((fun _ => []) r) := Nx.all (ns_rGood)
theorem cs_rGood {a0 : Gi_Rules} {r : Bool} (H : Ds_rGood a0 = some r) : Ct X.P X.gl 156 [gi_Rules a0] [] (RB r) [] :=
 Ct.of func156 (c := bdy f156) (by kernel_rfl) (by kernel_rfl) <|
 eBind H fun r1 hr1 H =>
 gS [r0] (by kernel_rfl) P0 <|
 eIf H (fun h2 H =>
 eBind H fun r3 hr3 H =>
 eIf H (fun h4 H =>
 gO [rg [{ i := 3, call := some { cl := true, auto := true, ins := [], res := (RB r1), G' := [] }, dec := some true }, { i := 9, call := some { cl := true, auto := true, ins := [], res := (RB r3), G' := [] }, dec := some true }], r0, .canon [0] [1, 20, 21, 22]] (by kernel_rfl) (P1 (cs_l1In hr1)<|P2 (r1 = true) (h2)<|P1 (cs_l1In hr3)<|P2 (r3 = true) (h4)<|P0) (ws_rGood _ _ H))
 (fun h4 H =>
 eW RB (fun _ => []) H<|gE func156 [rg [{ i := 3, call := some { cl := true, auto := true, ins := [], res := (RB r1), G' := [] }, dec := some true }, { i := 9, call := some { cl := true, auto := true, ins := [], res := (RB r3), G' := [] }, dec := some false }], r0] (by kernel_rfl) (P1 (cs_l1In hr1)<|P2 (r1 = true) (h2)<|P1 (cs_l1In hr3)<|P2 (r3 = false) (eqF h4)<|P0)))
 (fun h2 H =>
 eW RB (fun _ => []) H<|gE func156 [rg [{ i := 3, call := some { cl := true, auto := true, ins := [], res := (RB r1), G' := [] }, dec := some false }], r0] (by kernel_rfl) (P1 (cs_l1In hr1)<|P2 (r1 = false) (eqF h2)<|P0))
theorem cs_mSize {a0 : Gi_Map} {r : Int} (H : Ds_mSize a0 = some r) : Ct X.P X.gl 141 [gi_Map a0] [] (RI r) [] :=
 Ct.of func141 (c := bdy f141) (by kernel_rfl) (by kernel_rfl) <|
 eW RI (fun _ => []) H<|gE func141 [r0, r0] (by kernel_rfl) P0
def Rs_mHex (r : Gi_Hex) : List D := [.agg [I r.Q, I r.R]]
theorem cs_mHex {a0 : Gi_Map} {a1 : Int} {r : Gi_Hex} (H : Ds_mHex a0 a1 = some r) : Ct X.P X.gl 111 [gi_Map a0, I a1] [] (Rs_mHex r) [] :=
 Ct.of func111 (c := bdy f111) (by kernel_rfl) (by kernel_rfl) <|
 eCk H fun h1 H =>
 eCk H fun h2 H =>
 eW Rs_mHex (fun _ => []) H<|gE func111 [r0, r0] (by kernel_rfl) (P2 (¬ (a0.Width : Int) = 0) h1<|P2 (¬ (a0.Width : Int) = 0) h2<|P0)
def Rs_hStep (r : Gi_Hex) : List D := [.agg [I r.Q, I r.R]]
theorem cs_hStep {a0 : Gi_Hex} {a1 : Int} {r : Gi_Hex} (H : Ds_hStep a0 a1 = some r) : Ct X.P X.gl 110 [gi_Hex a0, I a1] [] (Rs_hStep r) [] :=
 Ct.of func110 (c := bdy f110) (by kernel_rfl) (by kernel_rfl) <|
 eCk H fun h1 H =>
 eBind H fun x2 hx2 H =>
 eCk H fun h3 H =>
 eBind H fun x4 hx4 H =>
 eW Rs_hStep (fun _ => []) H<|gE func110 [r0, rg [hE 5 (I x2), hE 12 (I x4)]] (by kernel_rfl) (P1 h1<|P1 (int_lt_of_at h1 hx2)<|P1 (at_map I hx2)<|P1 h3<|P1 (int_lt_of_at h3 hx4)<|P1 (at_map I hx4)<|P0)
theorem cs_mIndex {a0 : Gi_Map} {a1 : Gi_Hex} {r : Int} (H : Ds_mIndex a0 a1 = some r) : Ct X.P X.gl 109 [gi_Map a0, gi_Hex a1] [] (RI r) [] :=
 Ct.of func109 (c := bdy f109) (by kernel_rfl) (by kernel_rfl) <|
 eBind H fun r1 hr1 H =>
 gS [r0] (by kernel_rfl) P0 <|
 eIf H (fun h2 H =>
 eBind H fun r3 hr3 H =>
 eIf H (fun h4 H =>
 eW RI (fun _ => []) H<|gE func109 [rg [{ i := 5, call := some { cl := true, auto := true, ins := [], res := (RB r1), G' := [] }, dec := some true }, { i := 13, call := some { cl := true, auto := true, ins := [], res := (RB r3), G' := [] }, dec := some true }], r0] (by kernel_rfl) (P1 (cs_l1In hr1)<|P2 (r1 = true) (h2)<|P1 (cs_l1In hr3)<|P2 (r3 = true) (h4)<|P0))
 (fun h4 H =>
 eW RI (fun _ => []) H<|gE func109 [rg [{ i := 5, call := some { cl := true, auto := true, ins := [], res := (RB r1), G' := [] }, dec := some true }, { i := 13, call := some { cl := true, auto := true, ins := [], res := (RB r3), G' := [] }, dec := some false }], r0] (by kernel_rfl) (P1 (cs_l1In hr1)<|P2 (r1 = true) (h2)<|P1 (cs_l1In hr3)<|P2 (r3 = false) (eqF h4)<|P0)))
 (fun h2 H =>
 eW RI (fun _ => []) H<|gE func109 [rg [{ i := 5, call := some { cl := true, auto := true, ins := [], res := (RB r1), G' := [] }, dec := some false }], r0] (by kernel_rfl) (P1 (cs_l1In hr1)<|P2 (r1 = false) (eqF h2)<|P0))
theorem cs_mNext {a0 : Gi_Map} {a1 : Int} {a2 : Int} {r : Int} (H : Ds_mNext a0 a1 a2 = some r) : Ct X.P X.gl 57 [gi_Map a0, I a1, I a2] [] (RI r) [] :=
 Ct.of func57 (c := bdy f57) (by kernel_rfl) (by kernel_rfl) <|
 eBind H fun r1 hr1 H =>
 eBind H fun r2 hr2 H =>
 eBind H fun r3 hr3 H =>
 eW RI (fun _ => []) H<|gE func57 [r0, rg [hC 3 true [] (Rs_mHex r1) [], hC 5 true [] (Rs_hStep r2) [], hC 6 true [] (RI r3) []]] (by kernel_rfl) (P1 (cs_mHex hr1)<|P1 (cs_hStep hr2)<|P1 (cs_mIndex hr3)<|P0)
noncomputable def Ks_l1Rising : Ss_l1Rising → List Item
 | .h1 .. => nav 300 2 [] [.code (bdy f162)]
def Zs_l1Rising : Ss_l1Rising → St
 | .h1 l0 lo1 vhi2 t3 t4 t5 => ⟨sts 35 [(0, sl 1 I l0), (1, I lo1), (2, I vhi2), (9, sl 1 I t3), (10, I t4), (11, I t5)], []⟩
abbrev Qs_l1Rising := Nx X 162 0 Ks_l1Rising Zs_l1Rising RB (fun _ => [])
theorem ns_l1Rising : ∀ s o, Bs_l1Rising s = some o → Qs_l1Rising (Ks_l1Rising s) (Zs_l1Rising s) o
 | .h1 l0 lo1 vhi2 t3 t4 t5, o, H =>
  eIf H (fun h1 H =>
  eCk H fun h2 H =>
  eBind H fun x3 hx3 H =>
  eBind H fun r4 hr4 H =>
  gN [rg [hT 0], rg [hE 2 (I x3)]] (by kernel_rfl) (P2 ((decide (t5 < t4)) = true) (decide_eq_true h1)<|P1 h2<|P1 (int_lt_of_at h2 hx3)<|P1 (at_map I hx3)<|P0) <|
  eIf H (fun h5 H =>
  eIf H (fun h6 H =>
  eCk H fun h7 H =>
  eBind H fun x8 hx8 H =>
  eIf H (fun h9 H =>
  eN H<|gE func162 [rg [{ i := 3, call := some { cl := true, auto := true, ins := [], res := (RB r4), G' := [] }, dec := some true }, hT 7, hE 13 (I x8), hT 15], r0] (by kernel_rfl) (P1 (cs_l1In hr4)<|P2 (r4 = true) (h5)<|P2 ((decide (t5 > 0)) = true) (decide_eq_true h6)<|P1 h7<|P1 (int_lt_of_at h7 hx8)<|P1 (at_map I hx8)<|P2 ((decide (x8 ≥ x3)) = true) (decide_eq_true h9)<|P0))
  (fun h9 H =>
  eN H fun r hn => gO [rg [{ i := 3, call := some { cl := true, auto := true, ins := [], res := (RB r4), G' := [] }, dec := some true }, hT 7, hE 13 (I x8), hF 15], r0, .canon [] [0, 1, 2, 9, 10, 11]] (by kernel_rfl) (P1 (cs_l1In hr4)<|P2 (r4 = true) (h5)<|P2 ((decide (t5 > 0)) = true) (decide_eq_true h6)<|P1 h7<|P1 (int_lt_of_at h7 hx8)<|P1 (at_map I hx8)<|P2 ((decide (x8 ≥ x3)) = false) (decide_eq_false h9)<|P0) hn))
  (fun h6 H =>
  eN H fun r hn => gO [rg [{ i := 3, call := some { cl := true, auto := true, ins := [], res := (RB r4), G' := [] }, dec := some true }, hF 7], r0, .canon [] [0, 1, 2, 9, 10, 11]] (by kernel_rfl) (P1 (cs_l1In hr4)<|P2 (r4 = true) (h5)<|P2 ((decide (t5 > 0)) = false) (decide_eq_false h6)<|P0) hn))
  (fun h5 H =>
  eN H<|gE func162 [rg [{ i := 3, call := some { cl := true, auto := true, ins := [], res := (RB r4), G' := [] }, dec := some false }], r0] (by kernel_rfl) (P1 (cs_l1In hr4)<|P2 (r4 = false) (eqF h5)<|P0)))
  (fun h1 H =>
  eN H<|gE func162 [rg [hF 0], r0] (by kernel_rfl) (P2 ((decide (t5 < t4)) = false) (decide_eq_false h1)<|P0))
theorem ws_l1Rising : ∀ s r, loop Bs_l1Rising s = some r → Wc X 162 0 (Ks_l1Rising s) (Zs_l1Rising s) (RB r) ((fun _ => []) r) := Nx.all (ns_l1Rising)
theorem cs_l1Rising {a0 : (List Int)} {a1 : Int} {a2 : Int} {r : Bool} (H : Ds_l1Rising a0 a1 a2 = some r) : Ct X.P X.gl 162 [sl 1 I a0, I a1, I a2] [] (RB r) [] :=
 Ct.of func162 (c := bdy f162) (by kernel_rfl) (by kernel_rfl) <|
 gO [r0, r0, .canon [] [0, 1, 2, 9, 10, 11]] (by kernel_rfl) P0 (ws_l1Rising _ _ H)
noncomputable def Ks_mEdges : Ss_mEdges → List Item
 | .h1 .. => nav 300 2 [] [.code (bdy f197)]
def Zs_mEdges : Ss_mEdges → St
 | .h1 l0 t1 t2 t3 b4 => ⟨sts 36 [(1, sl 1 I l0), (2, .ptr 0 5 0 0), (7, sl 1 I t1), (8, I t2), (9, I t3)], [some ⟨false, true, 5, 1, [gi_Map b4]⟩]⟩
abbrev Qs_mEdges := Nx X 197 0 Ks_mEdges Zs_mEdges RB (fun _ => [])
theorem ns_mEdges : ∀ s o, Bs_mEdges s = some o → Qs_mEdges (Ks_mEdges s) (Zs_mEdges s) o
 | .h1 l0 t1 t2 t3 b4, o, H =>
  eIf H (fun h1 H =>
  eCk H fun h2 H =>
  eBind H fun x3 hx3 H =>
  eBind H fun r4 hr4 H =>
  eBind H fun r5 hr5 H =>
  gN [rg [hT 0], rg [hE 1 (I x3)]] (by kernel_rfl) (P2 ((decide (t3 < t2)) = true) (decide_eq_true h1)<|P1 h2<|P1 (int_lt_of_at h2 hx3)<|P1 (at_map I hx3)<|P0) <|
  eIf H (fun h6 H =>
  eBind H fun r7 hr7 H =>
  eIf H (fun h8 H =>
  eN H<|gE func197 [rg [hC 2 true [] (RI r4) [], { i := 5, call := some { cl := true, auto := true, ins := [], res := (RB r5), G' := [] }, dec := some true }, hC 13 true [] (RI r7) [], hT 14], r0] (by kernel_rfl) (P1 (cs_mSize hr4)<|P1 (cs_l1In hr5)<|P2 (r5 = true) (h6)<|P2 (¬ (3 : Int) = 0) (by decide)<|P2 (¬ (3 : Int) = 0) (by decide)<|P1 (cs_mNext hr7)<|P2 ((decide (r7 < 0)) = true) (decide_eq_true h8)<|P0))
  (fun h8 H =>
  eN H fun r hn => gO [rg [hC 2 true [] (RI r4) [], { i := 5, call := some { cl := true, auto := true, ins := [], res := (RB r5), G' := [] }, dec := some true }, hC 13 true [] (RI r7) [], hF 14], r0, .canon [0] [1, 2, 7, 8, 9]] (by kernel_rfl) (P1 (cs_mSize hr4)<|P1 (cs_l1In hr5)<|P2 (r5 = true) (h6)<|P2 (¬ (3 : Int) = 0) (by decide)<|P2 (¬ (3 : Int) = 0) (by decide)<|P1 (cs_mNext hr7)<|P2 ((decide (r7 < 0)) = false) (decide_eq_false h8)<|P0) hn))
  (fun h6 H =>
  eN H<|gE func197 [rg [hC 2 true [] (RI r4) [], { i := 5, call := some { cl := true, auto := true, ins := [], res := (RB r5), G' := [] }, dec := some false }], r0] (by kernel_rfl) (P1 (cs_mSize hr4)<|P1 (cs_l1In hr5)<|P2 (r5 = false) (eqF h6)<|P0)))
  (fun h1 H =>
  eBind H fun r2 hr2 H =>
  eBind H fun r3 hr3 H =>
  eN H<|gE func197 [rg [hF 0], rg [hC 2 true [] (RI r2) [], hC 5 true [] (RB r3) []]] (by kernel_rfl) (P2 ((decide (t3 < t2)) = false) (decide_eq_false h1)<|P1 (cs_mSize hr2)<|P1 (cs_l1Rising hr3)<|P0))
theorem ws_mEdges : ∀ s r, loop Bs_mEdges s = some r → Wc X 197 0 (Ks_mEdges s) (Zs_mEdges s) (RB r) ((fun _ => []) r) := Nx.all (ns_mEdges)
theorem cs_mEdges {a0 : Gi_Map} {a1 : (List Int)} {r : Bool} (H : Ds_mEdges a0 a1 = some r) : Ct X.P X.gl 197 [gi_Map a0, sl 1 I a1] [] (RB r) [] :=
 Ct.of func197 (c := bdy f197) (by kernel_rfl) (by kernel_rfl) <|
 gO [r0, r0, .canon [0] [1, 2, 7, 8, 9]] (by kernel_rfl) P0 (ws_mEdges _ _ H)
theorem cs_mGood {a0 : Gi_Map} {r : Bool} (H : Ds_mGood a0 = some r) : Ct X.P X.gl 157 [gi_Map a0] [] (RB r) [] :=
 Ct.of func157 (c := bdy f157) (by kernel_rfl) (by kernel_rfl) <|
 eBind H fun r1 hr1 H =>
 gS [r0] (by kernel_rfl) P0 <|
 eIf H (fun h2 H =>
 eBind H fun r3 hr3 H =>
 eIf H (fun h4 H =>
 eBind H fun r5 hr5 H =>
 eIf H (fun h6 H =>
 eBind H fun r7 hr7 H =>
 eIf H (fun h8 H =>
 eBind H fun r9 hr9 H =>
 eIf H (fun h10 H =>
 eBind H fun r11 hr11 H =>
 eW RB (fun _ => []) H<|gE func157 [rg [{ i := 2, call := some { cl := true, auto := true, ins := [], res := (RB r1), G' := [] }, dec := some true }, { i := 6, call := some { cl := true, auto := true, ins := [], res := (RB r3), G' := [] }, dec := some true }, hC 13 true [] (RI r5) [], hT 14, { i := 19, call := some { cl := true, auto := true, ins := [], res := (RB r7), G' := [] }, dec := some true }, { i := 25, call := some { cl := true, auto := true, ins := [], res := (RB r9), G' := [] }, dec := some true }, hC 31 true [] (RB r11) []]] (by kernel_rfl) (P1 (cs_l1In hr1)<|P2 (r1 = true) (h2)<|P1 (cs_l1In hr3)<|P2 (r3 = true) (h4)<|P1 (cs_mSize hr5)<|P2 (((((a0.Terrain.length : Nat) : Int) : Int) == r5) = true) (beqT h6)<|P1 (cs_l1All hr7)<|P2 (r7 = true) (h8)<|P1 (cs_mEdges hr9)<|P2 (r9 = true) (h10)<|P1 (cs_mEdges hr11)<|P0))
 (fun h10 H =>
 eW RB (fun _ => []) H<|gE func157 [rg [{ i := 2, call := some { cl := true, auto := true, ins := [], res := (RB r1), G' := [] }, dec := some true }, { i := 6, call := some { cl := true, auto := true, ins := [], res := (RB r3), G' := [] }, dec := some true }, hC 13 true [] (RI r5) [], hT 14, { i := 19, call := some { cl := true, auto := true, ins := [], res := (RB r7), G' := [] }, dec := some true }, { i := 25, call := some { cl := true, auto := true, ins := [], res := (RB r9), G' := [] }, dec := some false }]] (by kernel_rfl) (P1 (cs_l1In hr1)<|P2 (r1 = true) (h2)<|P1 (cs_l1In hr3)<|P2 (r3 = true) (h4)<|P1 (cs_mSize hr5)<|P2 (((((a0.Terrain.length : Nat) : Int) : Int) == r5) = true) (beqT h6)<|P1 (cs_l1All hr7)<|P2 (r7 = true) (h8)<|P1 (cs_mEdges hr9)<|P2 (r9 = false) (eqF h10)<|P0)))
 (fun h8 H =>
 eW RB (fun _ => []) H<|gE func157 [rg [{ i := 2, call := some { cl := true, auto := true, ins := [], res := (RB r1), G' := [] }, dec := some true }, { i := 6, call := some { cl := true, auto := true, ins := [], res := (RB r3), G' := [] }, dec := some true }, hC 13 true [] (RI r5) [], hT 14, { i := 19, call := some { cl := true, auto := true, ins := [], res := (RB r7), G' := [] }, dec := some false }]] (by kernel_rfl) (P1 (cs_l1In hr1)<|P2 (r1 = true) (h2)<|P1 (cs_l1In hr3)<|P2 (r3 = true) (h4)<|P1 (cs_mSize hr5)<|P2 (((((a0.Terrain.length : Nat) : Int) : Int) == r5) = true) (beqT h6)<|P1 (cs_l1All hr7)<|P2 (r7 = false) (eqF h8)<|P0)))
 (fun h6 H =>
 eW RB (fun _ => []) H<|gE func157 [rg [{ i := 2, call := some { cl := true, auto := true, ins := [], res := (RB r1), G' := [] }, dec := some true }, { i := 6, call := some { cl := true, auto := true, ins := [], res := (RB r3), G' := [] }, dec := some true }, hC 13 true [] (RI r5) [], hF 14]] (by kernel_rfl) (P1 (cs_l1In hr1)<|P2 (r1 = true) (h2)<|P1 (cs_l1In hr3)<|P2 (r3 = true) (h4)<|P1 (cs_mSize hr5)<|P2 (((((a0.Terrain.length : Nat) : Int) : Int) == r5) = false) (beqF h6)<|P0)))
 (fun h4 H =>
 eW RB (fun _ => []) H<|gE func157 [rg [{ i := 2, call := some { cl := true, auto := true, ins := [], res := (RB r1), G' := [] }, dec := some true }, { i := 6, call := some { cl := true, auto := true, ins := [], res := (RB r3), G' := [] }, dec := some false }]] (by kernel_rfl) (P1 (cs_l1In hr1)<|P2 (r1 = true) (h2)<|P1 (cs_l1In hr3)<|P2 (r3 = false) (eqF h4)<|P0)))
 (fun h2 H =>
 eW RB (fun _ => []) H<|gE func157 [rg [{ i := 2, call := some { cl := true, auto := true, ins := [], res := (RB r1), G' := [] }, dec := some false }]] (by kernel_rfl) (P1 (cs_l1In hr1)<|P2 (r1 = false) (eqF h2)<|P0))
theorem cs_bGood {a0 : Gi_Board} {r : Bool} (H : Ds_bGood a0 = some r) : Ct X.P X.gl 104 [gi_Board a0] [] (RB r) [] :=
 Ct.of func104 (c := bdy f104) (by kernel_rfl) (by kernel_rfl) <|
 eBind H fun r1 hr1 H =>
 gS [r0] (by kernel_rfl) P0 <|
 eIf H (fun h2 H =>
 eBind H fun r3 hr3 H =>
 eIf H (fun h4 H =>
 eBind H fun r5 hr5 H =>
 eW RB (fun _ => []) H<|gE func104 [rg [{ i := 2, call := some { cl := true, auto := true, ins := [], res := (RB r1), G' := [] }, dec := some true }, { i := 6, call := some { cl := true, auto := true, ins := [], res := (RB r3), G' := [] }, dec := some true }, hC 17 true [] (RB r5) []]] (by kernel_rfl) (P1 (cs_rGood hr1)<|P2 (r1 = true) (h2)<|P1 (cs_mGood hr3)<|P2 (r3 = true) (h4)<|P1 (cs_l1All hr5)<|P0))
 (fun h4 H =>
 eW RB (fun _ => []) H<|gE func104 [rg [{ i := 2, call := some { cl := true, auto := true, ins := [], res := (RB r1), G' := [] }, dec := some true }, { i := 6, call := some { cl := true, auto := true, ins := [], res := (RB r3), G' := [] }, dec := some false }]] (by kernel_rfl) (P1 (cs_rGood hr1)<|P2 (r1 = true) (h2)<|P1 (cs_mGood hr3)<|P2 (r3 = false) (eqF h4)<|P0)))
 (fun h2 H =>
 eW RB (fun _ => []) H<|gE func104 [rg [{ i := 2, call := some { cl := true, auto := true, ins := [], res := (RB r1), G' := [] }, dec := some false }]] (by kernel_rfl) (P1 (cs_rGood hr1)<|P2 (r1 = false) (eqF h2)<|P0))
theorem cs_kRows {a0 : Int} {r : Int} (H : Ds_kRows a0 = some r) : Ct X.P X.gl 159 [I a0] [] (RI r) [] :=
 Ct.of func159 (c := bdy f159) (by kernel_rfl) (by kernel_rfl) <|
 eW RI (fun _ => []) H<|gE func159 [r0, r0] (by kernel_rfl) P0
noncomputable def Ks_kGood : Ss_kGood → List Item
 | .h1 .. => nav 300 3 [false] [.code (bdy f105)]
 | .h2 .. => nav 300 5 [false, false] [.code (bdy f105)]
def Zs_kGood : Ss_kGood → St
 | .h1 t0 t1 t2 b3 => ⟨sts 90 [(1, .ptr 0 3 0 0), (28, sl 2 gi_Odds t0), (29, I t1), (30, I t2)], [some ⟨false, true, 3, 1, [gi_CombatTable b3]⟩]⟩
 | .h2 t0 t1 t2 b3 => ⟨sts 90 [(1, .ptr 0 3 0 0), (72, sl 1 (sl 1 I) t0), (73, I t1), (74, I t2)], [some ⟨false, true, 3, 1, [gi_CombatTable b3]⟩]⟩
abbrev Qs_kGood := Nx X 105 0 Ks_kGood Zs_kGood RB (fun _ => [])
theorem ns_kGood : ∀ s o, Bs_kGood s = some o → Qs_kGood (Ks_kGood s) (Zs_kGood s) o
 | .h1 t0 t1 t2 b3, o, H =>
  eIf H (fun h1 H =>
  eCk H fun h2 H =>
  eBind H fun x3 hx3 H =>
  eBind H fun r4 hr4 H =>
  gN [rg [hT 0], rg [hE 2 (gi_Odds x3)]] (by kernel_rfl) (P2 ((decide (t2 < t1)) = true) (decide_eq_true h1)<|P1 h2<|P1 (int_lt_of_at h2 hx3)<|P1 (at_map gi_Odds hx3)<|P0) <|
  eIf H (fun h5 H =>
  eBind H fun r6 hr6 H =>
  eIf H (fun h7 H =>
  gN [rg [{ i := 2, call := some { cl := true, auto := true, ins := [], res := (RB r4), G' := [] }, dec := some true }, { i := 7, call := some { cl := true, auto := true, ins := [], res := (RB r6), G' := [] }, dec := some true }]] (by kernel_rfl) (P1 (cs_l1In hr4)<|P2 (r4 = true) (h5)<|P1 (cs_l1In hr6)<|P2 (r6 = true) (h7)<|P0) <|
  eIf H (fun h8 H =>
  eCk H fun h9 H =>
  eBind H fun x10 hx10 H =>
  eCk H fun h11 H =>
  eBind H fun x12 hx12 H =>
  eIf H (fun h13 H =>
  eN H<|gE func105 [rg [hT 1, hE 9 (gi_Odds x10), hE 21 (gi_Odds x12), hT 23], r0] (by kernel_rfl) (P2 ((decide (t2 > 0)) = true) (decide_eq_true h8)<|P1 h9<|P1 (int_lt_of_at h9 hx10)<|P1 (at_map gi_Odds hx10)<|P1 h11<|P1 (int_lt_of_at h11 hx12)<|P1 (at_map gi_Odds hx12)<|P2 ((decide ((IntKind.wrap .i64 (x10.Num * x3.Den)) ≥ (IntKind.wrap .i64 (x3.Num * x12.Den)))) = true) (decide_eq_true h13)<|P0))
  (fun h13 H =>
  eN H fun r hn => gO [rg [hT 1, hE 9 (gi_Odds x10), hE 21 (gi_Odds x12), hF 23], r0, .canon [0] [1, 28, 29, 30]] (by kernel_rfl) (P2 ((decide (t2 > 0)) = true) (decide_eq_true h8)<|P1 h9<|P1 (int_lt_of_at h9 hx10)<|P1 (at_map gi_Odds hx10)<|P1 h11<|P1 (int_lt_of_at h11 hx12)<|P1 (at_map gi_Odds hx12)<|P2 ((decide ((IntKind.wrap .i64 (x10.Num * x3.Den)) ≥ (IntKind.wrap .i64 (x3.Num * x12.Den)))) = false) (decide_eq_false h13)<|P0) hn))
  (fun h8 H =>
  eN H fun r hn => gO [rg [hF 1], r0, .canon [0] [1, 28, 29, 30]] (by kernel_rfl) (P2 ((decide (t2 > 0)) = false) (decide_eq_false h8)<|P0) hn))
  (fun h7 H =>
  eN H<|gE func105 [rg [{ i := 2, call := some { cl := true, auto := true, ins := [], res := (RB r4), G' := [] }, dec := some true }, { i := 7, call := some { cl := true, auto := true, ins := [], res := (RB r6), G' := [] }, dec := some false }], r0] (by kernel_rfl) (P1 (cs_l1In hr4)<|P2 (r4 = true) (h5)<|P1 (cs_l1In hr6)<|P2 (r6 = false) (eqF h7)<|P0)))
  (fun h5 H =>
  eN H<|gE func105 [rg [{ i := 2, call := some { cl := true, auto := true, ins := [], res := (RB r4), G' := [] }, dec := some false }], r0] (by kernel_rfl) (P1 (cs_l1In hr4)<|P2 (r4 = false) (eqF h5)<|P0)))
  (fun h1 H =>
  eN H fun r hn => gO [rg [hF 0], r0, .canon [0] [1, 72, 73, 74]] (by kernel_rfl) (P2 ((decide (t2 < t1)) = false) (decide_eq_false h1)<|P0) hn)
 | .h2 t0 t1 t2 b3, o, H =>
  eIf H (fun h1 H =>
  eCk H fun h2 H =>
  eBind H fun x3 hx3 H =>
  gN [rg [hT 0], rg [hE 1 ((sl 1 I) x3)]] (by kernel_rfl) (P2 ((decide (t2 < t1)) = true) (decide_eq_true h1)<|P1 h2<|P1 (int_lt_of_at h2 hx3)<|P1 (at_map (sl 1 I) hx3)<|P0) <|
  eIf H (fun h4 H =>
  eBind H fun r5 hr5 H =>
  eIf H (fun h6 H =>
  eN H fun r hn => gO [rg [hF 5, { i := 8, call := some { cl := true, auto := true, ins := [], res := (RB r5), G' := [] }, dec := some true }], r0, .canon [0] [1, 72, 73, 74]] (by kernel_rfl) (P2 (((((x3.length : Nat) : Int) : Int) != ((b3.Columns.length : Nat) : Int)) = false) (bneF h4)<|P1 (cs_l1All hr5)<|P2 (r5 = true) (h6)<|P0) hn)
  (fun h6 H =>
  eN H<|gE func105 [rg [hF 5, { i := 8, call := some { cl := true, auto := true, ins := [], res := (RB r5), G' := [] }, dec := some false }], r0] (by kernel_rfl) (P2 (((((x3.length : Nat) : Int) : Int) != ((b3.Columns.length : Nat) : Int)) = false) (bneF h4)<|P1 (cs_l1All hr5)<|P2 (r5 = false) (eqF h6)<|P0)))
  (fun h4 H =>
  eN H<|gE func105 [rg [hT 5], r0] (by kernel_rfl) (P2 (((((x3.length : Nat) : Int) : Int) != ((b3.Columns.length : Nat) : Int)) = true) (bneT h4)<|P0)))
  (fun h1 H =>
  eN H<|gE func105 [rg [hF 0], r0] (by kernel_rfl) (P2 ((decide (t2 < t1)) = false) (decide_eq_false h1)<|P0))
theorem ws_kGood : ∀ s r, loop Bs_kGood s = some r → Wc X 105 0 (Ks_kGood s) (Zs_kGood s) (RB r) ((fun _ => []) r) := Nx.all (ns_kGood)
theorem cs_kGood {a0 : Gi_CombatTable} {r : Bool} (H : Ds_kGood a0 = some r) : Ct X.P X.gl 105 [gi_CombatTable a0] [] (RB r) [] :=
 Ct.of func105 (c := bdy f105) (by kernel_rfl) (by kernel_rfl) <|
 eBind H fun r1 hr1 H =>
 gS [r0] (by kernel_rfl) P0 <|
 eIf H (fun h2 H =>
 eBind H fun r3 hr3 H =>
 eIf H (fun h4 H =>
 eBind H fun r5 hr5 H =>
 eIf H (fun h6 H =>
 gO [rg [{ i := 3, call := some { cl := true, auto := true, ins := [], res := (RB r1), G' := [] }, dec := some true }, { i := 8, call := some { cl := true, auto := true, ins := [], res := (RB r3), G' := [] }, dec := some true }, hC 17 true [] (RI r5) [], hF 18], r0, .canon [0] [1, 28, 29, 30]] (by kernel_rfl) (P1 (cs_l1In hr1)<|P2 (r1 = true) (h2)<|P1 (cs_l1In hr3)<|P2 (r3 = true) (h4)<|P1 (cs_kRows hr5)<|P2 (((((a0.Results.length : Nat) : Int) : Int) != r5) = false) (bneF h6)<|P0) (ws_kGood _ _ H))
 (fun h6 H =>
 eW RB (fun _ => []) H<|gE func105 [rg [{ i := 3, call := some { cl := true, auto := true, ins := [], res := (RB r1), G' := [] }, dec := some true }, { i := 8, call := some { cl := true, auto := true, ins := [], res := (RB r3), G' := [] }, dec := some true }, hC 17 true [] (RI r5) [], hT 18], r0] (by kernel_rfl) (P1 (cs_l1In hr1)<|P2 (r1 = true) (h2)<|P1 (cs_l1In hr3)<|P2 (r3 = true) (h4)<|P1 (cs_kRows hr5)<|P2 (((((a0.Results.length : Nat) : Int) : Int) != r5) = true) (bneT h6)<|P0)))
 (fun h4 H =>
 eW RB (fun _ => []) H<|gE func105 [rg [{ i := 3, call := some { cl := true, auto := true, ins := [], res := (RB r1), G' := [] }, dec := some true }, { i := 8, call := some { cl := true, auto := true, ins := [], res := (RB r3), G' := [] }, dec := some false }], r0] (by kernel_rfl) (P1 (cs_l1In hr1)<|P2 (r1 = true) (h2)<|P1 (cs_l1In hr3)<|P2 (r3 = false) (eqF h4)<|P0)))
 (fun h2 H =>
 eW RB (fun _ => []) H<|gE func105 [rg [{ i := 3, call := some { cl := true, auto := true, ins := [], res := (RB r1), G' := [] }, dec := some false }], r0] (by kernel_rfl) (P1 (cs_l1In hr1)<|P2 (r1 = false) (eqF h2)<|P0))
def Rs_bTerrain (r : Gi_Terrain) : List D := [.agg [.str r.Name, sl 1 I r.Cost, I r.Shift, I r.Height, .bool r.Blocks]]
theorem cs_bTerrain {a0 : Gi_Board} {a1 : Int} {r : Gi_Terrain} (H : Ds_bTerrain a0 a1 = some r) : Ct X.P X.gl 112 [gi_Board a0, I a1] [] (Rs_bTerrain r) [] :=
 Ct.of func112 (c := bdy f112) (by kernel_rfl) (by kernel_rfl) <|
 eCk H fun h1 H =>
 eBind H fun x2 hx2 H =>
 eCk H fun h3 H =>
 eBind H fun x4 hx4 H =>
 eW Rs_bTerrain (fun _ => []) H<|gE func112 [r0, rg [hE 8 (I x2), hE 10 (gi_Terrain x4)]] (by kernel_rfl) (P1 h1<|P1 (int_lt_of_at h1 hx2)<|P1 (at_map I hx2)<|P1 h3<|P1 (int_lt_of_at h3 hx4)<|P1 (at_map gi_Terrain hx4)<|P0)
theorem cs_bCost {a0 : Gi_Board} {a1 : Int} {a2 : Int} {r : Int} (H : Ds_bCost a0 a1 a2 = some r) : Ct X.P X.gl 58 [gi_Board a0, I a1, I a2] [] (RI r) [] :=
 Ct.of func58 (c := bdy f58) (by kernel_rfl) (by kernel_rfl) <|
 eBind H fun r1 hr1 H =>
 eCk H fun h2 H =>
 eBind H fun x3 hx3 H =>
 eW RI (fun _ => []) H<|gE func58 [r0, rg [hC 2 true [] (Rs_bTerrain r1) [], hE 6 (I x3)]] (by kernel_rfl) (P1 (cs_bTerrain hr1)<|P1 h2<|P1 (int_lt_of_at h2 hx3)<|P1 (at_map I hx3)<|P0)
theorem cs_sUnit {a0 : Gi_Board} {a1 : Gi_Unit} {r : Bool} (H : Ds_sUnit a0 a1 = some r) : Ct X.P X.gl 160 [gi_Board a0, gi_Unit a1] [] (RB r) [] :=
 Ct.of func160 (c := bdy f160) (by kernel_rfl) (by kernel_rfl) <|
 eBind H fun r1 hr1 H =>
 gS [r0] (by kernel_rfl) P0 <|
 eIf H (fun h2 H =>
 eBind H fun r3 hr3 H =>
 eIf H (fun h4 H =>
 eCk H fun h5 H =>
 eBind H fun x6 hx6 H =>
 eBind H fun r7 hr7 H =>
 eIf H (fun h8 H =>
 gS [rg [{ i := 2, call := some { cl := true, auto := true, ins := [], res := (RB r1), G' := [] }, dec := some true }, { i := 12, call := some { cl := true, auto := true, ins := [], res := (RB r3), G' := [] }, dec := some true }, hE 25 (gi_Kind x6), { i := 26, call := some { cl := true, auto := true, ins := [], res := (RB r7), G' := [] }, dec := some true }]] (by kernel_rfl) (P1 (cs_l1In hr1)<|P2 (r1 = true) (h2)<|P1 (cs_l1In hr3)<|P2 (r3 = true) (h4)<|P1 h5<|P1 (int_lt_of_at h5 hx6)<|P1 (at_map gi_Kind hx6)<|P1 (cs_l1In hr7)<|P2 (r7 = true) (h8)<|P0) <|
 eIf H (fun h9 H =>
 eW RB (fun _ => []) H<|gE func160 [rg [hT 2]] (by kernel_rfl) (P2 (((a1.At : Int) == (-1)) = true) (beqT h9)<|P0))
 (fun h9 H =>
 eIf H (fun h10 H =>
 eBind H fun r11 hr11 H =>
 eBind H fun r12 hr12 H =>
 eIf H (fun h13 H =>
 eBind H fun r14 hr14 H =>
 eW RB (fun _ => []) H<|gE func160 [rg [hF 2, hT 6, hC 12 true [] (RI r11) [], { i := 14, call := some { cl := true, auto := true, ins := [], res := (RB r12), G' := [] }, dec := some true }, hC 22 true [] (RI r14) []]] (by kernel_rfl) (P2 (((a1.At : Int) == (-1)) = false) (beqF h9)<|P2 ((decide (a1.Steps > 0)) = true) (decide_eq_true h10)<|P1 (cs_mSize hr11)<|P1 (cs_l1In hr12)<|P2 (r12 = true) (h13)<|P1 (cs_bCost hr14)<|P0))
 (fun h13 H =>
 eW RB (fun _ => []) H<|gE func160 [rg [hF 2, hT 6, hC 12 true [] (RI r11) [], { i := 14, call := some { cl := true, auto := true, ins := [], res := (RB r12), G' := [] }, dec := some false }]] (by kernel_rfl) (P2 (((a1.At : Int) == (-1)) = false) (beqF h9)<|P2 ((decide (a1.Steps > 0)) = true) (decide_eq_true h10)<|P1 (cs_mSize hr11)<|P1 (cs_l1In hr12)<|P2 (r12 = false) (eqF h13)<|P0)))
 (fun h10 H =>
 eW RB (fun _ => []) H<|gE func160 [rg [hF 2, hF 6]] (by kernel_rfl) (P2 (((a1.At : Int) == (-1)) = false) (beqF h9)<|P2 ((decide (a1.Steps > 0)) = false) (decide_eq_false h10)<|P0))))
 (fun h8 H =>
 eW RB (fun _ => []) H<|gE func160 [rg [{ i := 2, call := some { cl := true, auto := true, ins := [], res := (RB r1), G' := [] }, dec := some true }, { i := 12, call := some { cl := true, auto := true, ins := [], res := (RB r3), G' := [] }, dec := some true }, hE 25 (gi_Kind x6), { i := 26, call := some { cl := true, auto := true, ins := [], res := (RB r7), G' := [] }, dec := some false }], r0] (by kernel_rfl) (P1 (cs_l1In hr1)<|P2 (r1 = true) (h2)<|P1 (cs_l1In hr3)<|P2 (r3 = true) (h4)<|P1 h5<|P1 (int_lt_of_at h5 hx6)<|P1 (at_map gi_Kind hx6)<|P1 (cs_l1In hr7)<|P2 (r7 = false) (eqF h8)<|P0)))
 (fun h4 H =>
 eW RB (fun _ => []) H<|gE func160 [rg [{ i := 2, call := some { cl := true, auto := true, ins := [], res := (RB r1), G' := [] }, dec := some true }, { i := 12, call := some { cl := true, auto := true, ins := [], res := (RB r3), G' := [] }, dec := some false }], r0] (by kernel_rfl) (P1 (cs_l1In hr1)<|P2 (r1 = true) (h2)<|P1 (cs_l1In hr3)<|P2 (r3 = false) (eqF h4)<|P0)))
 (fun h2 H =>
 eW RB (fun _ => []) H<|gE func160 [rg [{ i := 2, call := some { cl := true, auto := true, ins := [], res := (RB r1), G' := [] }, dec := some false }], r0] (by kernel_rfl) (P1 (cs_l1In hr1)<|P2 (r1 = false) (eqF h2)<|P0))
def Rs_sAt (r : (List Int)) : List D := [ow 1 I r]
noncomputable def Ks_sAt : Ss_sAt → List Item
 | .h1 .. => nav 300 3 [] [.code (bdy f161)]
def Zs_sAt : Ss_sAt → St
 | .h1 i0 side1 t2 t3 t4 l5 => ⟨sts 34 [(1, I i0), (2, I side1), (7, .ref 0 1 none), (11, sl 4 gi_Unit t2), (12, I t3), (13, I t4)], [some ⟨false, false, 1, l5.length, List.map I l5⟩]⟩
abbrev Qs_sAt := Nx X 161 0 Ks_sAt Zs_sAt Rs_sAt (fun _ => [])
theorem ns_sAt : ∀ s o, Bs_sAt s = some o → Qs_sAt (Ks_sAt s) (Zs_sAt s) o
 | .h1 i0 side1 t2 t3 t4 l5, o, H =>
  eIf H (fun h1 H =>
  eCk H fun h2 H =>
  eBind H fun x3 hx3 H =>
  gN [rg [hT 0], rg [hE 2 (gi_Unit x3)]] (by kernel_rfl) (P2 ((decide (t4 < t3)) = true) (decide_eq_true h1)<|P1 h2<|P1 (int_lt_of_at h2 hx3)<|P1 (at_map gi_Unit hx3)<|P0) <|
  eIf H (fun h4 H =>
  eIf H (fun h5 H =>
  eCk H fun h6 H =>
  eN H fun r hn => gO [rg [hT 3, hT 8], rg [hA 3 ((l5 ++ [t4]).length) (List.map I (l5 ++ [t4]))], r0, .canon [3] [1, 2, 7, 11, 12, 13]] (by kernel_rfl) (P2 (((x3.At : Int) == i0) = true) (beqT h4)<|P2 (((x3.Side : Int) == side1) = true) (beqT h5)<|P1 (apL l5 [t4])<|P1 (apB h6)<|P1 (apM I l5 [t4])<|P0) hn)
  (fun h5 H =>
  eN H fun r hn => gO [rg [hT 3, hF 8], r0, .canon [0] [1, 2, 7, 11, 12, 13]] (by kernel_rfl) (P2 (((x3.At : Int) == i0) = true) (beqT h4)<|P2 (((x3.Side : Int) == side1) = false) (beqF h5)<|P0) hn))
  (fun h4 H =>
  eN H fun r hn => gO [rg [hF 3], r0, .canon [0] [1, 2, 7, 11, 12, 13]] (by kernel_rfl) (P2 (((x3.At : Int) == i0) = false) (beqF h4)<|P0) hn))
  (fun h1 H =>
  eN H<|gE func161 [rg [hF 0], r0] (by kernel_rfl) (P2 ((decide (t4 < t3)) = false) (decide_eq_false h1)<|P0))
theorem ws_sAt : ∀ s r, loop Bs_sAt s = some r → Wc X 161 0 (Ks_sAt s) (Zs_sAt s) (Rs_sAt r) ((fun _ => []) r) := Nx.all (ns_sAt)
theorem cs_sAt {a0 : Gi_State} {a1 : Int} {a2 : Int} {r : (List Int)} (H : Ds_sAt a0 a1 a2 = some r) : Ct X.P X.gl 161 [gi_State a0, I a1, I a2] [] (Rs_sAt r) [] :=
 Ct.of func161 (c := bdy f161) (by kernel_rfl) (by kernel_rfl) <|
 gO [r0, r0, r0, .own 7 1, .canon [1] [1, 2, 7, 11, 12, 13]] (by kernel_rfl) P0 (ws_sAt _ _ H)
noncomputable def Ks_sGood : Ss_sGood → List Item
 | .h1 .. => nav 300 3 [false] [.code (bdy f106)]
 | .h2 .. => nav 300 5 [false, false] [.code (bdy f106)]
def Zs_sGood : Ss_sGood → St
 | .h1 t0 t1 t2 b3 b4 => ⟨sts 80 [(2, .ptr 0 12 0 0), (3, .ptr 1 3 0 0), (34, sl 4 gi_Unit t0), (35, I t1), (36, I t2)], [some ⟨false, true, 12, 1, [gi_Board b3]⟩, some ⟨false, true, 3, 1, [gi_State b4]⟩]⟩
 | .h2 t0 t1 t2 b3 b4 => ⟨sts 80 [(2, .ptr 0 12 0 0), (3, .ptr 1 3 0 0), (46, sl 4 gi_Unit t0), (47, I t1), (48, I t2)], [some ⟨false, true, 12, 1, [gi_Board b3]⟩, some ⟨false, true, 3, 1, [gi_State b4]⟩]⟩
abbrev Qs_sGood := Nx X 106 0 Ks_sGood Zs_sGood RB (fun _ => [])
theorem ns_sGood : ∀ s o, Bs_sGood s = some o → Qs_sGood (Ks_sGood s) (Zs_sGood s) o
 | .h1 t0 t1 t2 b3 b4, o, H =>
  eIf H (fun h1 H =>
  eCk H fun h2 H =>
  eBind H fun x3 hx3 H =>
  eBind H fun r4 hr4 H =>
  gN [rg [hT 0], rg [hE 1 (gi_Unit x3)]] (by kernel_rfl) (P2 ((decide (t2 < t1)) = true) (decide_eq_true h1)<|P1 h2<|P1 (int_lt_of_at h2 hx3)<|P1 (at_map gi_Unit hx3)<|P0) <|
  eIf H (fun h5 H =>
  eN H fun r hn => gO [rg [{ i := 2, call := some { cl := true, auto := true, ins := [], res := (RB r4), G' := [] }, dec := some true }], r0, .canon [0, 1] [2, 3, 34, 35, 36]] (by kernel_rfl) (P1 (cs_sUnit hr4)<|P2 (r4 = true) (h5)<|P0) hn)
  (fun h5 H =>
  eN H<|gE func106 [rg [{ i := 2, call := some { cl := true, auto := true, ins := [], res := (RB r4), G' := [] }, dec := some false }], r0] (by kernel_rfl) (P1 (cs_sUnit hr4)<|P2 (r4 = false) (eqF h5)<|P0)))
  (fun h1 H =>
  eN H fun r hn => gO [rg [hF 0], r0, .canon [0, 1] [2, 3, 46, 47, 48]] (by kernel_rfl) (P2 ((decide (t2 < t1)) = false) (decide_eq_false h1)<|P0) hn)
 | .h2 t0 t1 t2 b3 b4, o, H =>
  eIf H (fun h1 H =>
  eCk H fun h2 H =>
  eBind H fun x3 hx3 H =>
  gN [rg [hT 0], rg [hE 1 (gi_Unit x3)]] (by kernel_rfl) (P2 ((decide (t2 < t1)) = true) (decide_eq_true h1)<|P1 h2<|P1 (int_lt_of_at h2 hx3)<|P1 (at_map gi_Unit hx3)<|P0) <|
  eIf H (fun h4 H =>
  eBind H fun r5 hr5 H =>
  eIf H (fun h6 H =>
  eN H<|gE func106 [rg [hT 2, hC 10 true [] (Rs_sAt r5) [], hT 12], r0] (by kernel_rfl) (P2 ((decide (x3.At ≥ 0)) = true) (decide_eq_true h4)<|P1 (cs_sAt hr5)<|P2 ((decide (((r5.length : Nat) : Int) > 0)) = true) (decide_eq_true h6)<|P0))
  (fun h6 H =>
  eBind H fun r7 hr7 H =>
  eIf H (fun h8 H =>
  eN H<|gE func106 [rg [hT 2, hC 10 true [] (Rs_sAt r5) [], hF 12, hC 19 true [] (Rs_sAt r7) [], hT 24], r0] (by kernel_rfl) (P2 ((decide (x3.At ≥ 0)) = true) (decide_eq_true h4)<|P1 (cs_sAt hr5)<|P2 ((decide (((r5.length : Nat) : Int) > 0)) = false) (decide_eq_false h6)<|P1 (cs_sAt hr7)<|P2 ((decide (((r7.length : Nat) : Int) > b3.Rules.Stack)) = true) (decide_eq_true h8)<|P0))
  (fun h8 H =>
  eN H fun r hn => gO [rg [hT 2, hC 10 true [] (Rs_sAt r5) [], hF 12, hC 19 true [] (Rs_sAt r7) [], hF 24], r0, .canon [0, 1] [2, 3, 46, 47, 48]] (by kernel_rfl) (P2 ((decide (x3.At ≥ 0)) = true) (decide_eq_true h4)<|P1 (cs_sAt hr5)<|P2 ((decide (((r5.length : Nat) : Int) > 0)) = false) (decide_eq_false h6)<|P1 (cs_sAt hr7)<|P2 ((decide (((r7.length : Nat) : Int) > b3.Rules.Stack)) = false) (decide_eq_false h8)<|P0) hn)))
  (fun h4 H =>
  eN H fun r hn => gO [rg [hF 2], r0, .canon [0, 1] [2, 3, 46, 47, 48]] (by kernel_rfl) (P2 ((decide (x3.At ≥ 0)) = false) (decide_eq_false h4)<|P0) hn))
  (fun h1 H =>
  eN H<|gE func106 [rg [hF 0], r0] (by kernel_rfl) (P2 ((decide (t2 < t1)) = false) (decide_eq_false h1)<|P0))
theorem ws_sGood : ∀ s r, loop Bs_sGood s = some r → Wc X 106 0 (Ks_sGood s) (Zs_sGood s) (RB r) ((fun _ => []) r) := Nx.all (ns_sGood)
theorem cs_sGood {a0 : Gi_Board} {a1 : Gi_State} {r : Bool} (H : Ds_sGood a0 a1 = some r) : Ct X.P X.gl 106 [gi_Board a0, gi_State a1] [] (RB r) [] :=
 Ct.of func106 (c := bdy f106) (by kernel_rfl) (by kernel_rfl) <|
 eBind H fun r1 hr1 H =>
 gS [r0] (by kernel_rfl) P0 <|
 eIf H (fun h2 H =>
 eBind H fun r3 hr3 H =>
 eIf H (fun h4 H =>
 eBind H fun r5 hr5 H =>
 eIf H (fun h6 H =>
 eIf H (fun h7 H =>
 eW RB (fun _ => []) H<|gE func106 [rg [{ i := 1, call := some { cl := true, auto := true, ins := [], res := (RB r1), G' := [] }, dec := some true }, { i := 9, call := some { cl := true, auto := true, ins := [], res := (RB r3), G' := [] }, dec := some true }, { i := 15, call := some { cl := true, auto := true, ins := [], res := (RB r5), G' := [] }, dec := some true }, hT 22], r0] (by kernel_rfl) (P1 (cs_bGood hr1)<|P2 (r1 = true) (h2)<|P1 (cs_l1In hr3)<|P2 (r3 = true) (h4)<|P1 (cs_l1In hr5)<|P2 (r5 = true) (h6)<|P2 ((decide (((a1.Units.length : Nat) : Int) > 12)) = true) (decide_eq_true h7)<|P0))
 (fun h7 H =>
 gO [rg [{ i := 1, call := some { cl := true, auto := true, ins := [], res := (RB r1), G' := [] }, dec := some true }, { i := 9, call := some { cl := true, auto := true, ins := [], res := (RB r3), G' := [] }, dec := some true }, { i := 15, call := some { cl := true, auto := true, ins := [], res := (RB r5), G' := [] }, dec := some true }, hF 22], r0, .canon [0, 1] [2, 3, 34, 35, 36]] (by kernel_rfl) (P1 (cs_bGood hr1)<|P2 (r1 = true) (h2)<|P1 (cs_l1In hr3)<|P2 (r3 = true) (h4)<|P1 (cs_l1In hr5)<|P2 (r5 = true) (h6)<|P2 ((decide (((a1.Units.length : Nat) : Int) > 12)) = false) (decide_eq_false h7)<|P0) (ws_sGood _ _ H)))
 (fun h6 H =>
 eW RB (fun _ => []) H<|gE func106 [rg [{ i := 1, call := some { cl := true, auto := true, ins := [], res := (RB r1), G' := [] }, dec := some true }, { i := 9, call := some { cl := true, auto := true, ins := [], res := (RB r3), G' := [] }, dec := some true }, { i := 15, call := some { cl := true, auto := true, ins := [], res := (RB r5), G' := [] }, dec := some false }], r0] (by kernel_rfl) (P1 (cs_bGood hr1)<|P2 (r1 = true) (h2)<|P1 (cs_l1In hr3)<|P2 (r3 = true) (h4)<|P1 (cs_l1In hr5)<|P2 (r5 = false) (eqF h6)<|P0)))
 (fun h4 H =>
 eW RB (fun _ => []) H<|gE func106 [rg [{ i := 1, call := some { cl := true, auto := true, ins := [], res := (RB r1), G' := [] }, dec := some true }, { i := 9, call := some { cl := true, auto := true, ins := [], res := (RB r3), G' := [] }, dec := some false }], r0] (by kernel_rfl) (P1 (cs_bGood hr1)<|P2 (r1 = true) (h2)<|P1 (cs_l1In hr3)<|P2 (r3 = false) (eqF h4)<|P0)))
 (fun h2 H =>
 eW RB (fun _ => []) H<|gE func106 [rg [{ i := 1, call := some { cl := true, auto := true, ins := [], res := (RB r1), G' := [] }, dec := some false }], r0] (by kernel_rfl) (P1 (cs_bGood hr1)<|P2 (r1 = false) (eqF h2)<|P0))
noncomputable def Ks_vcGood : Ss_vcGood → List Item
 | .h1 .. => nav 300 3 [false] [.code (bdy f107)]
def Zs_vcGood : Ss_vcGood → St
 | .h1 t0 t1 t2 b3 b4 => ⟨sts 67 [(2, .ptr 0 12 0 0), (3, .ptr 1 3 0 0), (29, sl 2 gi_Goal t0), (30, I t1), (31, I t2)], [some ⟨false, true, 12, 1, [gi_Board b3]⟩, some ⟨false, true, 3, 1, [gi_Conditions b4]⟩]⟩
abbrev Qs_vcGood := Nx X 107 0 Ks_vcGood Zs_vcGood RB (fun _ => [])
theorem ns_vcGood : ∀ s o, Bs_vcGood s = some o → Qs_vcGood (Ks_vcGood s) (Zs_vcGood s) o
 | .h1 t0 t1 t2 b3 b4, o, H =>
  eIf H (fun h1 H =>
  eCk H fun h2 H =>
  eBind H fun x3 hx3 H =>
  eBind H fun r4 hr4 H =>
  eBind H fun r5 hr5 H =>
  gN [rg [hT 0], rg [hE 2 (gi_Goal x3)]] (by kernel_rfl) (P2 ((decide (t2 < t1)) = true) (decide_eq_true h1)<|P1 h2<|P1 (int_lt_of_at h2 hx3)<|P1 (at_map gi_Goal hx3)<|P0) <|
  eIf H (fun h6 H =>
  eBind H fun r7 hr7 H =>
  eIf H (fun h8 H =>
  eIf H (fun h9 H =>
  eCk H fun h10 H =>
  eBind H fun x11 hx11 H =>
  eIf H (fun h12 H =>
  eN H<|gE func107 [rg [hC 4 true [] (RI r4) [], { i := 6, call := some { cl := true, auto := true, ins := [], res := (RB r5), G' := [] }, dec := some true }, { i := 11, call := some { cl := true, auto := true, ins := [], res := (RB r7), G' := [] }, dec := some true }, hT 16, hE 24 (gi_Goal x11), hT 27], r0] (by kernel_rfl) (P1 (cs_mSize hr4)<|P1 (cs_l1In hr5)<|P2 (r5 = true) (h6)<|P1 (cs_l1In hr7)<|P2 (r7 = true) (h8)<|P2 ((decide (t2 > 0)) = true) (decide_eq_true h9)<|P1 h10<|P1 (int_lt_of_at h10 hx11)<|P1 (at_map gi_Goal hx11)<|P2 ((decide (x11.At ≥ x3.At)) = true) (decide_eq_true h12)<|P0))
  (fun h12 H =>
  eN H fun r hn => gO [rg [hC 4 true [] (RI r4) [], { i := 6, call := some { cl := true, auto := true, ins := [], res := (RB r5), G' := [] }, dec := some true }, { i := 11, call := some { cl := true, auto := true, ins := [], res := (RB r7), G' := [] }, dec := some true }, hT 16, hE 24 (gi_Goal x11), hF 27], r0, .canon [0, 1] [2, 3, 29, 30, 31]] (by kernel_rfl) (P1 (cs_mSize hr4)<|P1 (cs_l1In hr5)<|P2 (r5 = true) (h6)<|P1 (cs_l1In hr7)<|P2 (r7 = true) (h8)<|P2 ((decide (t2 > 0)) = true) (decide_eq_true h9)<|P1 h10<|P1 (int_lt_of_at h10 hx11)<|P1 (at_map gi_Goal hx11)<|P2 ((decide (x11.At ≥ x3.At)) = false) (decide_eq_false h12)<|P0) hn))
  (fun h9 H =>
  eN H fun r hn => gO [rg [hC 4 true [] (RI r4) [], { i := 6, call := some { cl := true, auto := true, ins := [], res := (RB r5), G' := [] }, dec := some true }, { i := 11, call := some { cl := true, auto := true, ins := [], res := (RB r7), G' := [] }, dec := some true }, hF 16], r0, .canon [0, 1] [2, 3, 29, 30, 31]] (by kernel_rfl) (P1 (cs_mSize hr4)<|P1 (cs_l1In hr5)<|P2 (r5 = true) (h6)<|P1 (cs_l1In hr7)<|P2 (r7 = true) (h8)<|P2 ((decide (t2 > 0)) = false) (decide_eq_false h9)<|P0) hn))
  (fun h8 H =>
  eN H<|gE func107 [rg [hC 4 true [] (RI r4) [], { i := 6, call := some { cl := true, auto := true, ins := [], res := (RB r5), G' := [] }, dec := some true }, { i := 11, call := some { cl := true, auto := true, ins := [], res := (RB r7), G' := [] }, dec := some false }], r0] (by kernel_rfl) (P1 (cs_mSize hr4)<|P1 (cs_l1In hr5)<|P2 (r5 = true) (h6)<|P1 (cs_l1In hr7)<|P2 (r7 = false) (eqF h8)<|P0)))
  (fun h6 H =>
  eN H<|gE func107 [rg [hC 4 true [] (RI r4) [], { i := 6, call := some { cl := true, auto := true, ins := [], res := (RB r5), G' := [] }, dec := some false }], r0] (by kernel_rfl) (P1 (cs_mSize hr4)<|P1 (cs_l1In hr5)<|P2 (r5 = false) (eqF h6)<|P0)))
  (fun h1 H =>
  eN H<|gE func107 [rg [hF 0], r0] (by kernel_rfl) (P2 ((decide (t2 < t1)) = false) (decide_eq_false h1)<|P0))
theorem ws_vcGood : ∀ s r, loop Bs_vcGood s = some r → Wc X 107 0 (Ks_vcGood s) (Zs_vcGood s) (RB r) ((fun _ => []) r) := Nx.all (ns_vcGood)
theorem cs_vcGood {a0 : Gi_Board} {a1 : Gi_Conditions} {r : Bool} (H : Ds_vcGood a0 a1 = some r) : Ct X.P X.gl 107 [gi_Board a0, gi_Conditions a1] [] (RB r) [] :=
 Ct.of func107 (c := bdy f107) (by kernel_rfl) (by kernel_rfl) <|
 eBind H fun r1 hr1 H =>
 gS [r0] (by kernel_rfl) P0 <|
 eIf H (fun h2 H =>
 eIf H (fun h3 H =>
 eW RB (fun _ => []) H<|gE func107 [rg [{ i := 1, call := some { cl := true, auto := true, ins := [], res := (RB r1), G' := [] }, dec := some true }, hT 7], r0] (by kernel_rfl) (P1 (cs_bGood hr1)<|P2 (r1 = true) (h2)<|P2 ((decide (((a1.Goals.length : Nat) : Int) > 12)) = true) (decide_eq_true h3)<|P0))
 (fun h3 H =>
 eBind H fun r4 hr4 H =>
 eIf H (fun h5 H =>
 eBind H fun r6 hr6 H =>
 eIf H (fun h7 H =>
 gO [rg [{ i := 1, call := some { cl := true, auto := true, ins := [], res := (RB r1), G' := [] }, dec := some true }, hF 7, { i := 12, call := some { cl := true, auto := true, ins := [], res := (RB r4), G' := [] }, dec := some true }, { i := 18, call := some { cl := true, auto := true, ins := [], res := (RB r6), G' := [] }, dec := some true }], r0, .canon [0, 1] [2, 3, 29, 30, 31]] (by kernel_rfl) (P1 (cs_bGood hr1)<|P2 (r1 = true) (h2)<|P2 ((decide (((a1.Goals.length : Nat) : Int) > 12)) = false) (decide_eq_false h3)<|P1 (cs_l1In hr4)<|P2 (r4 = true) (h5)<|P1 (cs_l1In hr6)<|P2 (r6 = true) (h7)<|P0) (ws_vcGood _ _ H))
 (fun h7 H =>
 eW RB (fun _ => []) H<|gE func107 [rg [{ i := 1, call := some { cl := true, auto := true, ins := [], res := (RB r1), G' := [] }, dec := some true }, hF 7, { i := 12, call := some { cl := true, auto := true, ins := [], res := (RB r4), G' := [] }, dec := some true }, { i := 18, call := some { cl := true, auto := true, ins := [], res := (RB r6), G' := [] }, dec := some false }], r0] (by kernel_rfl) (P1 (cs_bGood hr1)<|P2 (r1 = true) (h2)<|P2 ((decide (((a1.Goals.length : Nat) : Int) > 12)) = false) (decide_eq_false h3)<|P1 (cs_l1In hr4)<|P2 (r4 = true) (h5)<|P1 (cs_l1In hr6)<|P2 (r6 = false) (eqF h7)<|P0)))
 (fun h5 H =>
 eW RB (fun _ => []) H<|gE func107 [rg [{ i := 1, call := some { cl := true, auto := true, ins := [], res := (RB r1), G' := [] }, dec := some true }, hF 7, { i := 12, call := some { cl := true, auto := true, ins := [], res := (RB r4), G' := [] }, dec := some false }], r0] (by kernel_rfl) (P1 (cs_bGood hr1)<|P2 (r1 = true) (h2)<|P2 ((decide (((a1.Goals.length : Nat) : Int) > 12)) = false) (decide_eq_false h3)<|P1 (cs_l1In hr4)<|P2 (r4 = false) (eqF h5)<|P0))))
 (fun h2 H =>
 eW RB (fun _ => []) H<|gE func107 [rg [{ i := 1, call := some { cl := true, auto := true, ins := [], res := (RB r1), G' := [] }, dec := some false }], r0] (by kernel_rfl) (P1 (cs_bGood hr1)<|P2 (r1 = false) (eqF h2)<|P0))
theorem cs_jSources {a0 : Gi_Board} {a1 : (List Int)} {r : Bool} (H : Ds_jSources a0 a1 = some r) : Ct X.P X.gl 108 [gi_Board a0, sl 1 I a1] [] (RB r) [] :=
 Ct.of func108 (c := bdy f108) (by kernel_rfl) (by kernel_rfl) <|
 gS [r0] (by kernel_rfl) P0 <|
 eIf H (fun h1 H =>
 eBind H fun r2 hr2 H =>
 eBind H fun r3 hr3 H =>
 eW RB (fun _ => []) H<|gE func108 [rg [hT 2, hC 7 true [] (RI r2) [], hC 9 true [] (RB r3) []]] (by kernel_rfl) (P2 ((decide (((a1.length : Nat) : Int) ≤ 6)) = true) (decide_eq_true h1)<|P1 (cs_mSize hr2)<|P1 (cs_l1Rising hr3)<|P0))
 (fun h1 H =>
 eW RB (fun _ => []) H<|gE func108 [rg [hF 2]] (by kernel_rfl) (P2 ((decide (((a1.length : Nat) : Int) ≤ 6)) = false) (decide_eq_false h1)<|P0))
theorem cs_snCode {a0 : Gi_Scenario} {r : Int} (H : Ds_snCode a0 = some r) : Ct X.P X.gl 56 [gi_Scenario a0] [] (RI r) [] :=
 Ct.of func56 (c := bdy f56) (by kernel_rfl) (by kernel_rfl) <|
 eBind H fun r1 hr1 H =>
 gS [r0] (by kernel_rfl) P0 <|
 eIf H (fun h2 H =>
 eBind H fun r3 hr3 H =>
 gS [rg [{ i := 2, call := some { cl := true, auto := true, ins := [], res := (RB r1), G' := [] }, dec := some true }]] (by kernel_rfl) (P1 (cs_rName hr1)<|P2 (r1 = true) (h2)<|P0) <|
 eIf H (fun h4 H =>
 eBind H fun r5 hr5 H =>
 gS [rg [{ i := 2, call := some { cl := true, auto := true, ins := [], res := (RB r3), G' := [] }, dec := some true }]] (by kernel_rfl) (P1 (cs_bGood hr3)<|P2 (r3 = true) (h4)<|P0) <|
 eIf H (fun h6 H =>
 eBind H fun r7 hr7 H =>
 gS [rg [{ i := 2, call := some { cl := true, auto := true, ins := [], res := (RB r5), G' := [] }, dec := some true }]] (by kernel_rfl) (P1 (cs_kGood hr5)<|P2 (r5 = true) (h6)<|P0) <|
 eIf H (fun h8 H =>
 eBind H fun r9 hr9 H =>
 gS [rg [{ i := 4, call := some { cl := true, auto := true, ins := [], res := (RB r7), G' := [] }, dec := some true }]] (by kernel_rfl) (P1 (cs_sGood hr7)<|P2 (r7 = true) (h8)<|P0) <|
 eIf H (fun h10 H =>
 eBind H fun r11 hr11 H =>
 gS [rg [{ i := 4, call := some { cl := true, auto := true, ins := [], res := (RB r9), G' := [] }, dec := some true }]] (by kernel_rfl) (P1 (cs_vcGood hr9)<|P2 (r9 = true) (h10)<|P0) <|
 eIf H (fun h12 H =>
 eBind H fun r13 hr13 H =>
 eIf H (fun h14 H =>
 eW RI (fun _ => []) H<|gE func56 [rg [{ i := 4, call := some { cl := true, auto := true, ins := [], res := (RB r11), G' := [] }, dec := some true }, { i := 11, call := some { cl := true, auto := true, ins := [], res := (RB r13), G' := [] }, dec := some true }], r0] (by kernel_rfl) (P1 (cs_jSources hr11)<|P2 (r11 = true) (h12)<|P1 (cs_jSources hr13)<|P2 (r13 = true) (h14)<|P0))
 (fun h14 H =>
 eW RI (fun _ => []) H<|gE func56 [rg [{ i := 4, call := some { cl := true, auto := true, ins := [], res := (RB r11), G' := [] }, dec := some true }, { i := 11, call := some { cl := true, auto := true, ins := [], res := (RB r13), G' := [] }, dec := some false }], r0] (by kernel_rfl) (P1 (cs_jSources hr11)<|P2 (r11 = true) (h12)<|P1 (cs_jSources hr13)<|P2 (r13 = false) (eqF h14)<|P0)))
 (fun h12 H =>
 eW RI (fun _ => []) H<|gE func56 [rg [{ i := 4, call := some { cl := true, auto := true, ins := [], res := (RB r11), G' := [] }, dec := some false }], r0] (by kernel_rfl) (P1 (cs_jSources hr11)<|P2 (r11 = false) (eqF h12)<|P0)))
 (fun h10 H =>
 eW RI (fun _ => []) H<|gE func56 [rg [{ i := 4, call := some { cl := true, auto := true, ins := [], res := (RB r9), G' := [] }, dec := some false }], r0] (by kernel_rfl) (P1 (cs_vcGood hr9)<|P2 (r9 = false) (eqF h10)<|P0)))
 (fun h8 H =>
 eW RI (fun _ => []) H<|gE func56 [rg [{ i := 4, call := some { cl := true, auto := true, ins := [], res := (RB r7), G' := [] }, dec := some false }], r0] (by kernel_rfl) (P1 (cs_sGood hr7)<|P2 (r7 = false) (eqF h8)<|P0)))
 (fun h6 H =>
 eW RI (fun _ => []) H<|gE func56 [rg [{ i := 2, call := some { cl := true, auto := true, ins := [], res := (RB r5), G' := [] }, dec := some false }], r0] (by kernel_rfl) (P1 (cs_kGood hr5)<|P2 (r5 = false) (eqF h6)<|P0)))
 (fun h4 H =>
 eW RI (fun _ => []) H<|gE func56 [rg [{ i := 2, call := some { cl := true, auto := true, ins := [], res := (RB r3), G' := [] }, dec := some false }], r0] (by kernel_rfl) (P1 (cs_bGood hr3)<|P2 (r3 = false) (eqF h4)<|P0)))
 (fun h2 H =>
 eW RI (fun _ => []) H<|gE func56 [rg [{ i := 2, call := some { cl := true, auto := true, ins := [], res := (RB r1), G' := [] }, dec := some false }], r0] (by kernel_rfl) (P1 (cs_rName hr1)<|P2 (r1 = false) (eqF h2)<|P0))
theorem cs_snGood {a0 : Gi_Scenario} {r : Bool} (H : Ds_snGood a0 = some r) : Ct X.P X.gl 22 [gi_Scenario a0] [] (RB r) [] :=
 Ct.of func22 (c := bdy f22) (by kernel_rfl) (by kernel_rfl) <|
 eBind H fun r1 hr1 H =>
 eW RB (fun _ => []) H<|gE func22 [r0, rg [hC 1 true [] (RI r1) []]] (by kernel_rfl) (P1 (cs_snCode hr1)<|P0)
def Rs_l1Own (r : (List Int)) : List D := [ow 1 I r]
theorem cs_l1Own {a0 : (List Int)} {r : (List Int)} (H : Ds_l1Own a0 = some r) : Ct X.P X.gl 140 [sl 1 I a0] [] (Rs_l1Own r) [] :=
 Ct.of func140 (c := bdy f140) (by kernel_rfl) (by kernel_rfl) <|
 eCk H fun h1 H =>
 eW Rs_l1Own (fun _ => []) H<|gE func140 [r0, rg [hA 2 a0.length (List.map I a0)]] (by kernel_rfl) (P2 (AllFl (List.map I a0)) (allFl_3 _)<|P2 (a0.length = ([] : List Int).length + a0.length) (by simp <;> omega)<|P2 ((([] : List Int).length + a0.length) * 8 ≤ 70368744177664) (by have := h1; simp at this ⊢ <;> omega)<|P2 (List.map I ([] : List Int) ++ List.map I a0 = List.map I a0) (by simp)<|P0)
def Rs_rOwn (r : Gi_Rules) : List D := [.agg [ow 5 goi_Terrain r.Terrains, ow 6 gi_Kind r.Kinds, I r.Stack, I r.River, I r.Road, I r.Supply, I r.Turns]]
noncomputable def Ks_rOwn : Ss_rOwn → List Item
 | .h1 .. => nav 300 4 [] [.code (bdy f136)]
 | .h2 .. => nav 300 9 [true] [.code (bdy f136)]
def Zs_rOwn : Ss_rOwn → St
 | .h1 t0 t1 t2 b3 b4 b5 b6 b7 b8 b9 b10 b11 b12 b13 b14 => ⟨sts 32 [(1, .ptr 0 7 0 0), (2, .ptr 1 7 0 0), (3, .ptr 2 7 0 0), (9, sl 5 gi_Terrain t0), (10, I t1), (11, I t2)], [some ⟨false, true, 7, 1, [gi_Rules b3]⟩, some ⟨false, true, 7, 1, [.agg [.nil, .nil, I b4, I b5, I b6, I b7, I b8]]⟩, some ⟨false, true, 7, 1, [.agg [.nil, sl 6 gi_Kind b9, I b10, I b11, I b12, I b13, I b14]]⟩]⟩
 | .h2 t0 t1 t2 b3 b4 b5 b6 b7 b8 b9 b10 b11 b12 b13 b14 l15 => ⟨sts 32 [(1, .ptr 0 7 0 0), (2, .ptr 1 7 0 0), (3, .ptr 2 7 0 0), (9, sl 5 gi_Terrain t0), (10, I t1), (11, I t2)], [some ⟨false, true, 7, 1, [gi_Rules b3]⟩, some ⟨false, true, 7, 1, [.agg [.nil, .nil, I b4, I b5, I b6, I b7, I b8]]⟩, some ⟨false, true, 7, 1, [.agg [.ref 3 5 none, sl 6 gi_Kind b9, I b10, I b11, I b12, I b13, I b14]]⟩, some ⟨false, false, 5, l15.length, List.map goi_Terrain l15⟩]⟩
abbrev Qs_rOwn := Nx X 136 0 Ks_rOwn Zs_rOwn Rs_rOwn (fun _ => [])
theorem ns_rOwn : ∀ s o, Bs_rOwn s = some o → Qs_rOwn (Ks_rOwn s) (Zs_rOwn s) o
 | .h1 t0 t1 t2 b3 b4 b5 b6 b7 b8 b9 b10 b11 b12 b13 b14, o, H =>
  eIf H (fun h1 H =>
  eCk H fun h2 H =>
  eBind H fun x3 hx3 H =>
  eBind H fun r4 hr4 H =>
  eCk H fun h5 H =>
  eN H fun r hn => gO [rg [hT 0], rg [hE 1 (gi_Terrain x3)], rg [hC 2 true [] (Rs_l1Own r4) []], rg [{ i := 3, post := [.put 5 0 1 4 (List.map goi_Terrain [(Gi_Terrain.mk x3.Name r4 x3.Shift x3.Height x3.Blocks)]), .own 5 1] }, hA 4 ([(Gi_Terrain.mk x3.Name r4 x3.Shift x3.Height x3.Blocks)].length) (List.map goi_Terrain [(Gi_Terrain.mk x3.Name r4 x3.Shift x3.Height x3.Blocks)])], r0, .canon [0, 1, 2, 6] [1, 2, 3, 9, 10, 11]] (by kernel_rfl) (P2 ((decide (t2 < t1)) = true) (decide_eq_true h1)<|P1 h2<|P1 (int_lt_of_at h2 hx3)<|P1 (at_map gi_Terrain hx3)<|P1 (cs_l1Own hr4)<|P2 (getCells [.agg [.str x3.Name, .ref 4 1 none, I x3.Shift, I x3.Height, .bool x3.Blocks]] 0 1 1 = some [.ref 4 1 none]) rfl<|P2 (setCells [.agg [.str x3.Name, .ref 4 1 none, I x3.Shift, I x3.Height, .bool x3.Blocks]] 0 1 [ow 1 I r4] = List.map goi_Terrain [(Gi_Terrain.mk x3.Name r4 x3.Shift x3.Height x3.Blocks)]) rfl<|P1 (allOw_152 [(Gi_Terrain.mk x3.Name r4 x3.Shift x3.Height x3.Blocks)])<|P2 ((1 : Nat) = 1) rfl<|P2 ([(Gi_Terrain.mk x3.Name r4 x3.Shift x3.Height x3.Blocks)].length = 0 + [(Gi_Terrain.mk x3.Name r4 x3.Shift x3.Height x3.Blocks)].length) (by simp <;> omega)<|P2 ((0 + [(Gi_Terrain.mk x3.Name r4 x3.Shift x3.Height x3.Blocks)].length) * 64 ≤ 70368744177664) (by have := h5; simp at this ⊢ <;> omega)<|P2 (([] : List D) ++ List.map goi_Terrain [(Gi_Terrain.mk x3.Name r4 x3.Shift x3.Height x3.Blocks)] = List.map goi_Terrain [(Gi_Terrain.mk x3.Name r4 x3.Shift x3.Height x3.Blocks)]) (by simp)<|P0) hn)
  (fun h1 H =>
  eCk H fun h2 H =>
  eN H<|gE func136 [rg [hF 0], rg [hA 3 b3.Kinds.length (List.map gi_Kind b3.Kinds)], r0] (by kernel_rfl) (P2 ((decide (t2 < t1)) = false) (decide_eq_false h1)<|P2 (AllFl (List.map gi_Kind b3.Kinds)) (allFl_197 _)<|P2 (b3.Kinds.length = ([] : List Gi_Kind).length + b3.Kinds.length) (by simp <;> omega)<|P2 ((([] : List Gi_Kind).length + b3.Kinds.length) * 56 ≤ 70368744177664) (by have := h2; simp at this ⊢ <;> omega)<|P2 (List.map gi_Kind ([] : List Gi_Kind) ++ List.map gi_Kind b3.Kinds = List.map gi_Kind b3.Kinds) (by simp)<|P0))
 | .h2 t0 t1 t2 b3 b4 b5 b6 b7 b8 b9 b10 b11 b12 b13 b14 l15, o, H =>
  eIf H (fun h1 H =>
  eCk H fun h2 H =>
  eBind H fun x3 hx3 H =>
  eBind H fun r4 hr4 H =>
  eCk H fun h5 H =>
  eN H fun r hn => gO [rg [hT 0], rg [hE 1 (gi_Terrain x3)], rg [hC 2 true [] (Rs_l1Own r4) []], rg [{ i := 3, post := [.put 6 0 1 5 (List.map goi_Terrain [(Gi_Terrain.mk x3.Name r4 x3.Shift x3.Height x3.Blocks)]), .own 6 1] }, hA 4 ((l15 ++ [(Gi_Terrain.mk x3.Name r4 x3.Shift x3.Height x3.Blocks)]).length) (List.map goi_Terrain (l15 ++ [(Gi_Terrain.mk x3.Name r4 x3.Shift x3.Height x3.Blocks)]))], r0, .canon [0, 1, 2, 7] [1, 2, 3, 9, 10, 11]] (by kernel_rfl) (P2 ((decide (t2 < t1)) = true) (decide_eq_true h1)<|P1 h2<|P1 (int_lt_of_at h2 hx3)<|P1 (at_map gi_Terrain hx3)<|P1 (cs_l1Own hr4)<|P2 (getCells [.agg [.str x3.Name, .ref 5 1 none, I x3.Shift, I x3.Height, .bool x3.Blocks]] 0 1 1 = some [.ref 5 1 none]) rfl<|P2 (setCells [.agg [.str x3.Name, .ref 5 1 none, I x3.Shift, I x3.Height, .bool x3.Blocks]] 0 1 [ow 1 I r4] = List.map goi_Terrain [(Gi_Terrain.mk x3.Name r4 x3.Shift x3.Height x3.Blocks)]) rfl<|P1 (allOw_152 [(Gi_Terrain.mk x3.Name r4 x3.Shift x3.Height x3.Blocks)])<|P2 ((1 : Nat) = 1) rfl<|P1 (apL l15 [(Gi_Terrain.mk x3.Name r4 x3.Shift x3.Height x3.Blocks)])<|P1 (apB h5)<|P1 (apM goi_Terrain l15 [(Gi_Terrain.mk x3.Name r4 x3.Shift x3.Height x3.Blocks)])<|P0) hn)
  (fun h1 H =>
  eCk H fun h2 H =>
  eN H<|gE func136 [rg [hF 0], rg [hA 3 b3.Kinds.length (List.map gi_Kind b3.Kinds)], r0] (by kernel_rfl) (P2 ((decide (t2 < t1)) = false) (decide_eq_false h1)<|P2 (AllFl (List.map gi_Kind b3.Kinds)) (allFl_197 _)<|P2 (b3.Kinds.length = ([] : List Gi_Kind).length + b3.Kinds.length) (by simp <;> omega)<|P2 ((([] : List Gi_Kind).length + b3.Kinds.length) * 56 ≤ 70368744177664) (by have := h2; simp at this ⊢ <;> omega)<|P2 (List.map gi_Kind ([] : List Gi_Kind) ++ List.map gi_Kind b3.Kinds = List.map gi_Kind b3.Kinds) (by simp)<|P0))
theorem ws_rOwn : ∀ s r, loop Bs_rOwn s = some r → Wc X 136 0 (Ks_rOwn s) (Zs_rOwn s) (Rs_rOwn r) ((fun _ => []) r) := Nx.all (ns_rOwn)
theorem cs_rOwn {a0 : Gi_Rules} {r : Gi_Rules} (H : Ds_rOwn a0 = some r) : Ct X.P X.gl 136 [gi_Rules a0] [] (Rs_rOwn r) [] :=
 Ct.of func136 (c := bdy f136) (by kernel_rfl) (by kernel_rfl) <|
 gO [r0, r0, r0, r0, .canon [0, 1, 2] [1, 2, 3, 9, 10, 11]] (by kernel_rfl) P0 (ws_rOwn _ _ H)
def Rs_mOwn (r : Gi_Map) : List D := [.agg [I r.Width, I r.Height, ow 1 I r.Terrain, ow 1 I r.Rivers, ow 1 I r.Roads]]
theorem cs_mOwn {a0 : Gi_Map} {r : Gi_Map} (H : Ds_mOwn a0 = some r) : Ct X.P X.gl 137 [gi_Map a0] [] (Rs_mOwn r) [] :=
 Ct.of func137 (c := bdy f137) (by kernel_rfl) (by kernel_rfl) <|
 eBind H fun r1 hr1 H =>
 eBind H fun r2 hr2 H =>
 eBind H fun r3 hr3 H =>
 eW Rs_mOwn (fun _ => []) H<|gE func137 [r0, rg [hC 6 true [] (Rs_l1Own r1) [], hC 9 true [] (Rs_l1Own r2) [], hC 12 true [] (Rs_l1Own r3) []]] (by kernel_rfl) (P1 (cs_l1Own hr1)<|P1 (cs_l1Own hr2)<|P1 (cs_l1Own hr3)<|P0)
def Rs_kOwn (r : Gi_CombatTable) : List D := [.agg [ow 2 gi_Odds r.Columns, I r.Dice, ow 1 (ow 1 I) r.Results]]
noncomputable def Ks_kOwn : Ss_kOwn → List Item
 | .h1 .. => nav 300 3 [] [.code (bdy f138)]
 | .h2 .. => nav 300 7 [true] [.code (bdy f138)]
def Zs_kOwn : Ss_kOwn → St
 | .h1 t0 t1 t2 b3 b4 l5 => ⟨sts 29 [(2, .ptr 0 3 0 0), (3, .ptr 1 3 0 0), (14, sl 1 (sl 1 I) t0), (15, I t1), (16, I t2)], [some ⟨false, true, 3, 1, [.agg [.nil, I b3, .nil]]⟩, some ⟨false, true, 3, 1, [.agg [.ref 2 2 none, I b4, .nil]]⟩, some ⟨false, false, 2, l5.length, List.map gi_Odds l5⟩]⟩
 | .h2 t0 t1 t2 b3 b4 l5 l6 => ⟨sts 29 [(2, .ptr 0 3 0 0), (3, .ptr 1 3 0 0), (14, sl 1 (sl 1 I) t0), (15, I t1), (16, I t2)], [some ⟨false, true, 3, 1, [.agg [.nil, I b3, .nil]]⟩, some ⟨false, true, 3, 1, [.agg [.ref 2 2 none, I b4, .ref 3 1 none]]⟩, some ⟨false, false, 2, l5.length, List.map gi_Odds l5⟩, some ⟨false, false, 1, l6.length, List.map (ow 1 I) l6⟩]⟩
abbrev Qs_kOwn := Nx X 138 0 Ks_kOwn Zs_kOwn Rs_kOwn (fun _ => [])
theorem ns_kOwn : ∀ s o, Bs_kOwn s = some o → Qs_kOwn (Ks_kOwn s) (Zs_kOwn s) o
 | .h1 t0 t1 t2 b3 b4 l5, o, H =>
  eIf H (fun h1 H =>
  eCk H fun h2 H =>
  eBind H fun x3 hx3 H =>
  eBind H fun r4 hr4 H =>
  eCk H fun h5 H =>
  eN H fun r hn => gO [rg [hT 0], rg [hE 1 ((sl 1 I) x3)], rg [hC 3 true [] (Rs_l1Own r4) [], { i := 4, post := [.put 4 0 0 3 (List.map (ow 1 I) [r4]), .own 4 1] }, hA 5 ([r4].length) (List.map (ow 1 I) [r4])], r0, .canon [0, 1, 2, 5] [2, 3, 14, 15, 16]] (by kernel_rfl) (P2 ((decide (t2 < t1)) = true) (decide_eq_true h1)<|P1 h2<|P1 (int_lt_of_at h2 hx3)<|P1 (at_map (sl 1 I) hx3)<|P1 (cs_l1Own hr4)<|P2 (getCells [.ref 3 1 none] 0 0 1 = some [.ref 3 1 none]) rfl<|P2 (setCells [.ref 3 1 none] 0 0 [ow 1 I r4] = List.map (ow 1 I) [r4]) rfl<|P1 (allOw_26 [r4])<|P2 ((1 : Nat) = 1) rfl<|P2 ([r4].length = 0 + [r4].length) (by simp <;> omega)<|P2 ((0 + [r4].length) * 24 ≤ 70368744177664) (by have := h5; simp at this ⊢ <;> omega)<|P2 (([] : List D) ++ List.map (ow 1 I) [r4] = List.map (ow 1 I) [r4]) (by simp)<|P0) hn)
  (fun h1 H =>
  eN H<|gE func138 [rg [hF 0], r0] (by kernel_rfl) (P2 ((decide (t2 < t1)) = false) (decide_eq_false h1)<|P0))
 | .h2 t0 t1 t2 b3 b4 l5 l6, o, H =>
  eIf H (fun h1 H =>
  eCk H fun h2 H =>
  eBind H fun x3 hx3 H =>
  eBind H fun r4 hr4 H =>
  eCk H fun h5 H =>
  eN H fun r hn => gO [rg [hT 0], rg [hE 1 ((sl 1 I) x3)], rg [hC 3 true [] (Rs_l1Own r4) [], { i := 4, post := [.put 5 0 0 4 (List.map (ow 1 I) [r4]), .own 5 1] }, hA 5 ((l6 ++ [r4]).length) (List.map (ow 1 I) (l6 ++ [r4]))], r0, .canon [0, 1, 2, 6] [2, 3, 14, 15, 16]] (by kernel_rfl) (P2 ((decide (t2 < t1)) = true) (decide_eq_true h1)<|P1 h2<|P1 (int_lt_of_at h2 hx3)<|P1 (at_map (sl 1 I) hx3)<|P1 (cs_l1Own hr4)<|P2 (getCells [.ref 4 1 none] 0 0 1 = some [.ref 4 1 none]) rfl<|P2 (setCells [.ref 4 1 none] 0 0 [ow 1 I r4] = List.map (ow 1 I) [r4]) rfl<|P1 (allOw_26 [r4])<|P2 ((1 : Nat) = 1) rfl<|P1 (apL l6 [r4])<|P1 (apB h5)<|P1 (apM (ow 1 I) l6 [r4])<|P0) hn)
  (fun h1 H =>
  eN H<|gE func138 [rg [hF 0], r0] (by kernel_rfl) (P2 ((decide (t2 < t1)) = false) (decide_eq_false h1)<|P0))
theorem ws_kOwn : ∀ s r, loop Bs_kOwn s = some r → Wc X 138 0 (Ks_kOwn s) (Zs_kOwn s) (Rs_kOwn r) ((fun _ => []) r) := Nx.all (ns_kOwn)
theorem cs_kOwn {a0 : Gi_CombatTable} {r : Gi_CombatTable} (H : Ds_kOwn a0 = some r) : Ct X.P X.gl 138 [gi_CombatTable a0] [] (Rs_kOwn r) [] :=
 Ct.of func138 (c := bdy f138) (by kernel_rfl) (by kernel_rfl) <|
 eCk H fun h1 H =>
 gO [r0, rg [hA 3 a0.Columns.length (List.map gi_Odds a0.Columns)], r0, .canon [1, 4, 3] [2, 3, 14, 15, 16]] (by kernel_rfl) (P2 (AllFl (List.map gi_Odds a0.Columns)) (allFl_157 _)<|P2 (a0.Columns.length = ([] : List Gi_Odds).length + a0.Columns.length) (by simp <;> omega)<|P2 ((([] : List Gi_Odds).length + a0.Columns.length) * 16 ≤ 70368744177664) (by have := h1; simp at this ⊢ <;> omega)<|P2 (List.map gi_Odds ([] : List Gi_Odds) ++ List.map gi_Odds a0.Columns = List.map gi_Odds a0.Columns) (by simp)<|P0) (ws_kOwn _ _ H)
def Rs_sOwn (r : Gi_State) : List D := [.agg [I r.Turn, I r.Weather, ow 4 gi_Unit r.Units]]
theorem cs_sOwn {a0 : Gi_State} {r : Gi_State} (H : Ds_sOwn a0 = some r) : Ct X.P X.gl 139 [gi_State a0] [] (Rs_sOwn r) [] :=
 Ct.of func139 (c := bdy f139) (by kernel_rfl) (by kernel_rfl) <|
 eCk H fun h1 H =>
 eW Rs_sOwn (fun _ => []) H<|gE func139 [r0, rg [hA 7 a0.Units.length (List.map gi_Unit a0.Units)]] (by kernel_rfl) (P2 (AllFl (List.map gi_Unit a0.Units)) (allFl_83 _)<|P2 (a0.Units.length = ([] : List Gi_Unit).length + a0.Units.length) (by simp <;> omega)<|P2 ((([] : List Gi_Unit).length + a0.Units.length) * 32 ≤ 70368744177664) (by have := h1; simp at this ⊢ <;> omega)<|P2 (List.map gi_Unit ([] : List Gi_Unit) ++ List.map gi_Unit a0.Units = List.map gi_Unit a0.Units) (by simp)<|P0)
def Rs_snOwn (r : Gi_Scenario) : List D := [.agg [.str r.Name, ow 5 goi_Terrain r.Board.Rules.Terrains, ow 6 gi_Kind r.Board.Rules.Kinds, I r.Board.Rules.Stack, I r.Board.Rules.River, I r.Board.Rules.Road, I r.Board.Rules.Supply, I r.Board.Rules.Turns, I r.Board.Map.Width, I r.Board.Map.Height, ow 1 I r.Board.Map.Terrain, ow 1 I r.Board.Map.Rivers, ow 1 I r.Board.Map.Roads, ow 2 gi_Odds r.Table.Columns, I r.Table.Dice, ow 1 (ow 1 I) r.Table.Results, I r.Start.Turn, I r.Start.Weather, ow 4 gi_Unit r.Start.Units, ow 2 gi_Goal r.Conditions.Goals, I r.Conditions.Step, I r.Conditions.Margin, ow 1 I r.First, ow 1 I r.Other]]
theorem cs_snOwn {a0 : Gi_Scenario} {r : Gi_Scenario} (H : Ds_snOwn a0 = some r) : Ct X.P X.gl 85 [gi_Scenario a0] [] (Rs_snOwn r) [] :=
 Ct.of func85 (c := bdy f85) (by kernel_rfl) (by kernel_rfl) <|
 eBind H fun r1 hr1 H =>
 eBind H fun r2 hr2 H =>
 eBind H fun r3 hr3 H =>
 eBind H fun r4 hr4 H =>
 eCk H fun h5 H =>
 eBind H fun r6 hr6 H =>
 eBind H fun r7 hr7 H =>
 eW Rs_snOwn (fun _ => []) H<|gE func85 [r0, r0, rg [hC 3 true [] (Rs_rOwn r1) [], hC 7 true [] (Rs_mOwn r2) []], rg [hC 2 true [] (Rs_kOwn r3) []], rg [hC 2 true [] (Rs_sOwn r4) []], rg [hA 4 a0.Conditions.Goals.length (List.map gi_Goal a0.Conditions.Goals)], rg [hC 2 true [] (Rs_l1Own r6) []], rg [hC 2 true [] (Rs_l1Own r7) []], r0] (by kernel_rfl) (P1 (cs_rOwn hr1)<|P1 (cs_mOwn hr2)<|P1 (cs_kOwn hr3)<|P1 (cs_sOwn hr4)<|P2 (AllFl (List.map gi_Goal a0.Conditions.Goals)) (allFl_80 _)<|P2 (a0.Conditions.Goals.length = ([] : List Gi_Goal).length + a0.Conditions.Goals.length) (by simp <;> omega)<|P2 ((([] : List Gi_Goal).length + a0.Conditions.Goals.length) * 16 ≤ 70368744177664) (by have := h5; simp at this ⊢ <;> omega)<|P2 (List.map gi_Goal ([] : List Gi_Goal) ++ List.map gi_Goal a0.Conditions.Goals = List.map gi_Goal a0.Conditions.Goals) (by simp)<|P1 (cs_l1Own hr6)<|P1 (cs_l1Own hr7)<|P0)
theorem cs_mMirrorIndex {a0 : Gi_Map} {a1 : Int} {r : Int} (H : Ds_mMirrorIndex a0 a1 = some r) : Ct X.P X.gl 87 [gi_Map a0, I a1] [] (RI r) [] :=
 Ct.of func87 (c := bdy f87) (by kernel_rfl) (by kernel_rfl) <|
 eBind H fun r1 hr1 H =>
 eW RI (fun _ => []) H<|gE func87 [r0, rg [hC 2 true [] (Rs_mHex r1) []], r0] (by kernel_rfl) (P1 (cs_mHex hr1)<|P0)
theorem cs_mEdge {a0 : Gi_Map} {a1 : Int} {a2 : Int} {r : Int} (H : Ds_mEdge a0 a1 a2 = some r) : Ct X.P X.gl 180 [gi_Map a0, I a1, I a2] [] (RI r) [] :=
 Ct.of func180 (c := bdy f180) (by kernel_rfl) (by kernel_rfl) <|
 gS [r0] (by kernel_rfl) P0 <|
 eIf H (fun h1 H =>
 eW RI (fun _ => []) H<|gE func180 [rg [hT 1], r0] (by kernel_rfl) (P2 ((decide (a2 < 3)) = true) (decide_eq_true h1)<|P0))
 (fun h1 H =>
 eBind H fun r2 hr2 H =>
 eW RI (fun _ => []) H<|gE func180 [rg [hF 1], rg [hC 3 true [] (RI r2) []]] (by kernel_rfl) (P2 ((decide (a2 < 3)) = false) (decide_eq_false h1)<|P1 (cs_mNext hr2)<|P0))
def Rs_l1Put_c0 (r : (List Int)) : List D := [ow 1 I r]
def Ns_l1Put_c0 (r : (List Int)) : List Root := [deadR]
noncomputable def Ks_l1Put_c0 : Ss_l1Put_c0 → List Item
 | .h1 .. => nav 300 2 [] [.code (bdy f59)]
def Zs_l1Put_c0 : Ss_l1Put_c0 → St
 | .h1 n0 k1 l2 => ⟨sts 48 [(0, .ref 1 1 none), (1, I n0), (5, I k1)], [none, some ⟨false, false, 1, l2.length, List.map I l2⟩]⟩
abbrev Qs_l1Put_c0 := Nx X 59 1 Ks_l1Put_c0 Zs_l1Put_c0 Rs_l1Put_c0 Ns_l1Put_c0
theorem ns_l1Put_c0 : ∀ s o, Bs_l1Put_c0 s = some o → Qs_l1Put_c0 (Ks_l1Put_c0 s) (Zs_l1Put_c0 s) o
 | .h1 n0 k1 l2, o, H =>
  eIf H (fun h1 H =>
  eCk H fun h2 H =>
  eBind H fun x3 hx3 H =>
  eIf H (fun h4 H =>
  eN H fun r hn => gO [rg [hT 3, hE 8 (I x3), hT 10], r0, .canon [0, 1] [0, 1, 5]] (by kernel_rfl) (P2 ((decide (k1 < ((l2.length : Nat) : Int))) = true) (decide_eq_true h1)<|P1 h2<|P1 (int_lt_of_at h2 hx3)<|P1 (at_map I hx3)<|P2 ((decide (x3 < n0)) = true) (decide_eq_true h4)<|P0) hn)
  (fun h4 H =>
  gN [rg [hT 3, hE 8 (I x3), hF 10]] (by kernel_rfl) (P2 ((decide (k1 < ((l2.length : Nat) : Int))) = true) (decide_eq_true h1)<|P1 h2<|P1 (int_lt_of_at h2 hx3)<|P1 (at_map I hx3)<|P2 ((decide (x3 < n0)) = false) (decide_eq_false h4)<|P0) <|
  eIf H (fun h5 H =>
  eCk H fun h6 H =>
  eBind H fun x7 hx7 H =>
  eIf H (fun h8 H =>
  eN H<|gE func59 [rg [hT 3, hE 8 (I x7), hT 10], r0] (by kernel_rfl) (P2 ((decide (k1 < ((l2.length : Nat) : Int))) = true) (decide_eq_true h5)<|P1 h6<|P1 (int_lt_of_at h6 hx7)<|P1 (at_map I hx7)<|P2 (((x7 : Int) == n0) = true) (beqT h8)<|P0))
  (fun h8 H =>
  eCk H fun h9 H =>
  eCk H fun h10 H =>
  eCk H fun h11 H =>
  eCk H fun h12 H =>
  eCk H fun h13 H =>
  eCk H fun h14 H =>
  eCk H fun h15 H =>
  eN H<|gE func59 [rg [hT 3, hE 8 (I x7), hF 10], rg [{ i := 4, keep := true, n := (List.take ((Int.toNat k1) - 0) (List.drop 0 l2)).length, xs := List.map I (List.take ((Int.toNat k1) - 0) (List.drop 0 l2)) }], rg [hA 3 (((List.take ((Int.toNat k1) - 0) (List.drop 0 l2)) ++ [n0]).length) (List.map I ((List.take ((Int.toNat k1) - 0) (List.drop 0 l2)) ++ [n0]))], rg [{ i := 4, keep := true, n := (((List.take ((Int.toNat k1) - 0) (List.drop 0 l2)) ++ [n0]) ++ (List.take (l2.length - (Int.toNat k1)) (List.drop (Int.toNat k1) l2))).length, xs := List.map I (((List.take ((Int.toNat k1) - 0) (List.drop 0 l2)) ++ [n0]) ++ (List.take (l2.length - (Int.toNat k1)) (List.drop (Int.toNat k1) l2))) }]] (by kernel_rfl) (P2 ((decide (k1 < ((l2.length : Nat) : Int))) = true) (decide_eq_true h5)<|P1 h6<|P1 (int_lt_of_at h6 hx7)<|P1 (at_map I hx7)<|P2 (((x7 : Int) == n0) = false) (beqF h8)<|P2 ((0 : Int) ≤ k1) h9<|P2 ((k1 : Int) ≤ ((l2.length : Nat) : Int)) h10<|P2 (AllFl (List.map I l2)) (allFl_3 _)<|P2 ((List.take ((Int.toNat k1) - 0) (List.drop 0 l2)).length = ([] : List Int).length + ((Int.toNat k1) - 0)) (by first | (simp <;> omega) | (simp only [List.length_append, List.length_take, List.length_drop, List.length_nil] <;> omega))<|P2 ((([] : List Int).length + ((Int.toNat k1) - 0)) * 8 ≤ 70368744177664) (by have := h11; first | (simp at this ⊢ <;> omega) | (simp only [List.length_append, List.length_take, List.length_drop, List.length_nil] at this ⊢ <;> omega))<|P2 (List.map I ([] : List Int) ++ List.take ((Int.toNat k1) - 0) (List.drop 0 (List.map I l2)) = List.map I (List.take ((Int.toNat k1) - 0) (List.drop 0 l2))) (by simp [List.map_take, List.map_drop])<|P1 (apL (List.take ((Int.toNat k1) - 0) (List.drop 0 l2)) [n0])<|P1 (apB h12)<|P1 (apM I (List.take ((Int.toNat k1) - 0) (List.drop 0 l2)) [n0])<|P2 ((0 : Int) ≤ k1) h13<|P2 ((k1 : Int) ≤ ((l2.length : Nat) : Int)) h14<|P2 (AllFl (List.map I l2)) (allFl_3 _)<|P2 ((((List.take ((Int.toNat k1) - 0) (List.drop 0 l2)) ++ [n0]) ++ (List.take (l2.length - (Int.toNat k1)) (List.drop (Int.toNat k1) l2))).length = ((List.take ((Int.toNat k1) - 0) (List.drop 0 l2)) ++ [n0]).length + (l2.length - (Int.toNat k1))) (by first | (simp <;> omega) | (simp only [List.length_append, List.length_take, List.length_drop, List.length_nil] <;> omega))<|P2 ((((List.take ((Int.toNat k1) - 0) (List.drop 0 l2)) ++ [n0]).length + (l2.length - (Int.toNat k1))) * 8 ≤ 70368744177664) (by have := h15; first | (simp at this ⊢ <;> omega) | (simp only [List.length_append, List.length_take, List.length_drop, List.length_nil] at this ⊢ <;> omega))<|P2 (List.map I ((List.take ((Int.toNat k1) - 0) (List.drop 0 l2)) ++ [n0]) ++ List.take (l2.length - (Int.toNat k1)) (List.drop (Int.toNat k1) (List.map I l2)) = List.map I (((List.take ((Int.toNat k1) - 0) (List.drop 0 l2)) ++ [n0]) ++ (List.take (l2.length - (Int.toNat k1)) (List.drop (Int.toNat k1) l2)))) (by simp [List.map_take, List.map_drop])<|P0)))
  (fun h5 H =>
  eCk H fun h6 H =>
  eCk H fun h7 H =>
  eCk H fun h8 H =>
  eCk H fun h9 H =>
  eCk H fun h10 H =>
  eCk H fun h11 H =>
  eCk H fun h12 H =>
  eN H<|gE func59 [rg [hF 3], rg [{ i := 4, keep := true, n := (List.take ((Int.toNat k1) - 0) (List.drop 0 l2)).length, xs := List.map I (List.take ((Int.toNat k1) - 0) (List.drop 0 l2)) }], rg [hA 3 (((List.take ((Int.toNat k1) - 0) (List.drop 0 l2)) ++ [n0]).length) (List.map I ((List.take ((Int.toNat k1) - 0) (List.drop 0 l2)) ++ [n0]))], rg [{ i := 4, keep := true, n := (((List.take ((Int.toNat k1) - 0) (List.drop 0 l2)) ++ [n0]) ++ (List.take (l2.length - (Int.toNat k1)) (List.drop (Int.toNat k1) l2))).length, xs := List.map I (((List.take ((Int.toNat k1) - 0) (List.drop 0 l2)) ++ [n0]) ++ (List.take (l2.length - (Int.toNat k1)) (List.drop (Int.toNat k1) l2))) }]] (by kernel_rfl) (P2 ((decide (k1 < ((l2.length : Nat) : Int))) = false) (decide_eq_false h5)<|P2 ((0 : Int) ≤ k1) h6<|P2 ((k1 : Int) ≤ ((l2.length : Nat) : Int)) h7<|P2 (AllFl (List.map I l2)) (allFl_3 _)<|P2 ((List.take ((Int.toNat k1) - 0) (List.drop 0 l2)).length = ([] : List Int).length + ((Int.toNat k1) - 0)) (by first | (simp <;> omega) | (simp only [List.length_append, List.length_take, List.length_drop, List.length_nil] <;> omega))<|P2 ((([] : List Int).length + ((Int.toNat k1) - 0)) * 8 ≤ 70368744177664) (by have := h8; first | (simp at this ⊢ <;> omega) | (simp only [List.length_append, List.length_take, List.length_drop, List.length_nil] at this ⊢ <;> omega))<|P2 (List.map I ([] : List Int) ++ List.take ((Int.toNat k1) - 0) (List.drop 0 (List.map I l2)) = List.map I (List.take ((Int.toNat k1) - 0) (List.drop 0 l2))) (by simp [List.map_take, List.map_drop])<|P1 (apL (List.take ((Int.toNat k1) - 0) (List.drop 0 l2)) [n0])<|P1 (apB h9)<|P1 (apM I (List.take ((Int.toNat k1) - 0) (List.drop 0 l2)) [n0])<|P2 ((0 : Int) ≤ k1) h10<|P2 ((k1 : Int) ≤ ((l2.length : Nat) : Int)) h11<|P2 (AllFl (List.map I l2)) (allFl_3 _)<|P2 ((((List.take ((Int.toNat k1) - 0) (List.drop 0 l2)) ++ [n0]) ++ (List.take (l2.length - (Int.toNat k1)) (List.drop (Int.toNat k1) l2))).length = ((List.take ((Int.toNat k1) - 0) (List.drop 0 l2)) ++ [n0]).length + (l2.length - (Int.toNat k1))) (by first | (simp <;> omega) | (simp only [List.length_append, List.length_take, List.length_drop, List.length_nil] <;> omega))<|P2 ((((List.take ((Int.toNat k1) - 0) (List.drop 0 l2)) ++ [n0]).length + (l2.length - (Int.toNat k1))) * 8 ≤ 70368744177664) (by have := h12; first | (simp at this ⊢ <;> omega) | (simp only [List.length_append, List.length_take, List.length_drop, List.length_nil] at this ⊢ <;> omega))<|P2 (List.map I ((List.take ((Int.toNat k1) - 0) (List.drop 0 l2)) ++ [n0]) ++ List.take (l2.length - (Int.toNat k1)) (List.drop (Int.toNat k1) (List.map I l2)) = List.map I (((List.take ((Int.toNat k1) - 0) (List.drop 0 l2)) ++ [n0]) ++ (List.take (l2.length - (Int.toNat k1)) (List.drop (Int.toNat k1) l2)))) (by simp [List.map_take, List.map_drop])<|P0))))
  (fun h1 H =>
  gN [rg [hF 3]] (by kernel_rfl) (P2 ((decide (k1 < ((l2.length : Nat) : Int))) = false) (decide_eq_false h1)<|P0) <|
  eIf H (fun h2 H =>
  eCk H fun h3 H =>
  eBind H fun x4 hx4 H =>
  eIf H (fun h5 H =>
  eN H<|gE func59 [rg [hT 3, hE 8 (I x4), hT 10], r0] (by kernel_rfl) (P2 ((decide (k1 < ((l2.length : Nat) : Int))) = true) (decide_eq_true h2)<|P1 h3<|P1 (int_lt_of_at h3 hx4)<|P1 (at_map I hx4)<|P2 (((x4 : Int) == n0) = true) (beqT h5)<|P0))
  (fun h5 H =>
  eCk H fun h6 H =>
  eCk H fun h7 H =>
  eCk H fun h8 H =>
  eCk H fun h9 H =>
  eCk H fun h10 H =>
  eCk H fun h11 H =>
  eCk H fun h12 H =>
  eN H<|gE func59 [rg [hT 3, hE 8 (I x4), hF 10], rg [{ i := 4, keep := true, n := (List.take ((Int.toNat k1) - 0) (List.drop 0 l2)).length, xs := List.map I (List.take ((Int.toNat k1) - 0) (List.drop 0 l2)) }], rg [hA 3 (((List.take ((Int.toNat k1) - 0) (List.drop 0 l2)) ++ [n0]).length) (List.map I ((List.take ((Int.toNat k1) - 0) (List.drop 0 l2)) ++ [n0]))], rg [{ i := 4, keep := true, n := (((List.take ((Int.toNat k1) - 0) (List.drop 0 l2)) ++ [n0]) ++ (List.take (l2.length - (Int.toNat k1)) (List.drop (Int.toNat k1) l2))).length, xs := List.map I (((List.take ((Int.toNat k1) - 0) (List.drop 0 l2)) ++ [n0]) ++ (List.take (l2.length - (Int.toNat k1)) (List.drop (Int.toNat k1) l2))) }]] (by kernel_rfl) (P2 ((decide (k1 < ((l2.length : Nat) : Int))) = true) (decide_eq_true h2)<|P1 h3<|P1 (int_lt_of_at h3 hx4)<|P1 (at_map I hx4)<|P2 (((x4 : Int) == n0) = false) (beqF h5)<|P2 ((0 : Int) ≤ k1) h6<|P2 ((k1 : Int) ≤ ((l2.length : Nat) : Int)) h7<|P2 (AllFl (List.map I l2)) (allFl_3 _)<|P2 ((List.take ((Int.toNat k1) - 0) (List.drop 0 l2)).length = ([] : List Int).length + ((Int.toNat k1) - 0)) (by first | (simp <;> omega) | (simp only [List.length_append, List.length_take, List.length_drop, List.length_nil] <;> omega))<|P2 ((([] : List Int).length + ((Int.toNat k1) - 0)) * 8 ≤ 70368744177664) (by have := h8; first | (simp at this ⊢ <;> omega) | (simp only [List.length_append, List.length_take, List.length_drop, List.length_nil] at this ⊢ <;> omega))<|P2 (List.map I ([] : List Int) ++ List.take ((Int.toNat k1) - 0) (List.drop 0 (List.map I l2)) = List.map I (List.take ((Int.toNat k1) - 0) (List.drop 0 l2))) (by simp [List.map_take, List.map_drop])<|P1 (apL (List.take ((Int.toNat k1) - 0) (List.drop 0 l2)) [n0])<|P1 (apB h9)<|P1 (apM I (List.take ((Int.toNat k1) - 0) (List.drop 0 l2)) [n0])<|P2 ((0 : Int) ≤ k1) h10<|P2 ((k1 : Int) ≤ ((l2.length : Nat) : Int)) h11<|P2 (AllFl (List.map I l2)) (allFl_3 _)<|P2 ((((List.take ((Int.toNat k1) - 0) (List.drop 0 l2)) ++ [n0]) ++ (List.take (l2.length - (Int.toNat k1)) (List.drop (Int.toNat k1) l2))).length = ((List.take ((Int.toNat k1) - 0) (List.drop 0 l2)) ++ [n0]).length + (l2.length - (Int.toNat k1))) (by first | (simp <;> omega) | (simp only [List.length_append, List.length_take, List.length_drop, List.length_nil] <;> omega))<|P2 ((((List.take ((Int.toNat k1) - 0) (List.drop 0 l2)) ++ [n0]).length + (l2.length - (Int.toNat k1))) * 8 ≤ 70368744177664) (by have := h12; first | (simp at this ⊢ <;> omega) | (simp only [List.length_append, List.length_take, List.length_drop, List.length_nil] at this ⊢ <;> omega))<|P2 (List.map I ((List.take ((Int.toNat k1) - 0) (List.drop 0 l2)) ++ [n0]) ++ List.take (l2.length - (Int.toNat k1)) (List.drop (Int.toNat k1) (List.map I l2)) = List.map I (((List.take ((Int.toNat k1) - 0) (List.drop 0 l2)) ++ [n0]) ++ (List.take (l2.length - (Int.toNat k1)) (List.drop (Int.toNat k1) l2)))) (by simp [List.map_take, List.map_drop])<|P0)))
  (fun h2 H =>
  eCk H fun h3 H =>
  eCk H fun h4 H =>
  eCk H fun h5 H =>
  eCk H fun h6 H =>
  eCk H fun h7 H =>
  eCk H fun h8 H =>
  eCk H fun h9 H =>
  eN H<|gE func59 [rg [hF 3], rg [{ i := 4, keep := true, n := (List.take ((Int.toNat k1) - 0) (List.drop 0 l2)).length, xs := List.map I (List.take ((Int.toNat k1) - 0) (List.drop 0 l2)) }], rg [hA 3 (((List.take ((Int.toNat k1) - 0) (List.drop 0 l2)) ++ [n0]).length) (List.map I ((List.take ((Int.toNat k1) - 0) (List.drop 0 l2)) ++ [n0]))], rg [{ i := 4, keep := true, n := (((List.take ((Int.toNat k1) - 0) (List.drop 0 l2)) ++ [n0]) ++ (List.take (l2.length - (Int.toNat k1)) (List.drop (Int.toNat k1) l2))).length, xs := List.map I (((List.take ((Int.toNat k1) - 0) (List.drop 0 l2)) ++ [n0]) ++ (List.take (l2.length - (Int.toNat k1)) (List.drop (Int.toNat k1) l2))) }]] (by kernel_rfl) (P2 ((decide (k1 < ((l2.length : Nat) : Int))) = false) (decide_eq_false h2)<|P2 ((0 : Int) ≤ k1) h3<|P2 ((k1 : Int) ≤ ((l2.length : Nat) : Int)) h4<|P2 (AllFl (List.map I l2)) (allFl_3 _)<|P2 ((List.take ((Int.toNat k1) - 0) (List.drop 0 l2)).length = ([] : List Int).length + ((Int.toNat k1) - 0)) (by first | (simp <;> omega) | (simp only [List.length_append, List.length_take, List.length_drop, List.length_nil] <;> omega))<|P2 ((([] : List Int).length + ((Int.toNat k1) - 0)) * 8 ≤ 70368744177664) (by have := h5; first | (simp at this ⊢ <;> omega) | (simp only [List.length_append, List.length_take, List.length_drop, List.length_nil] at this ⊢ <;> omega))<|P2 (List.map I ([] : List Int) ++ List.take ((Int.toNat k1) - 0) (List.drop 0 (List.map I l2)) = List.map I (List.take ((Int.toNat k1) - 0) (List.drop 0 l2))) (by simp [List.map_take, List.map_drop])<|P1 (apL (List.take ((Int.toNat k1) - 0) (List.drop 0 l2)) [n0])<|P1 (apB h6)<|P1 (apM I (List.take ((Int.toNat k1) - 0) (List.drop 0 l2)) [n0])<|P2 ((0 : Int) ≤ k1) h7<|P2 ((k1 : Int) ≤ ((l2.length : Nat) : Int)) h8<|P2 (AllFl (List.map I l2)) (allFl_3 _)<|P2 ((((List.take ((Int.toNat k1) - 0) (List.drop 0 l2)) ++ [n0]) ++ (List.take (l2.length - (Int.toNat k1)) (List.drop (Int.toNat k1) l2))).length = ((List.take ((Int.toNat k1) - 0) (List.drop 0 l2)) ++ [n0]).length + (l2.length - (Int.toNat k1))) (by first | (simp <;> omega) | (simp only [List.length_append, List.length_take, List.length_drop, List.length_nil] <;> omega))<|P2 ((((List.take ((Int.toNat k1) - 0) (List.drop 0 l2)) ++ [n0]).length + (l2.length - (Int.toNat k1))) * 8 ≤ 70368744177664) (by have := h9; first | (simp at this ⊢ <;> omega) | (simp only [List.length_append, List.length_take, List.length_drop, List.length_nil] at this ⊢ <;> omega))<|P2 (List.map I ((List.take ((Int.toNat k1) - 0) (List.drop 0 l2)) ++ [n0]) ++ List.take (l2.length - (Int.toNat k1)) (List.drop (Int.toNat k1) (List.map I l2)) = List.map I (((List.take ((Int.toNat k1) - 0) (List.drop 0 l2)) ++ [n0]) ++ (List.take (l2.length - (Int.toNat k1)) (List.drop (Int.toNat k1) l2)))) (by simp [List.map_take, List.map_drop])<|P0)))
theorem ws_l1Put_c0 : ∀ s r, loop Bs_l1Put_c0 s = some r → Wc X 59 1 (Ks_l1Put_c0 s) (Zs_l1Put_c0 s) (Rs_l1Put_c0 r) (Ns_l1Put_c0 r) := Nx.all (ns_l1Put_c0)
theorem cs_l1Put_c0 {a0 : (List Int)} {a1 : Int} {r : (List Int)} (H : Ds_l1Put_c0 a0 a1 = some r) : Ct X.P X.gl 59 [.ref 0 1 none, I a1] [⟨false, false, 1, a0.length, List.map I a0⟩] (Rs_l1Put_c0 r) (Ns_l1Put_c0 r) :=
 Ct.of func59 (c := bdy f59) (by kernel_rfl) (by kernel_rfl) <|
 gO [.whole 0, r0, r0, .canon [0, 1] [0, 1, 5]] (by kernel_rfl) P0 (ws_l1Put_c0 _ _ H)
def Rs_mMirrorEdges (r : (List Int)) : List D := [ow 1 I r]
noncomputable def Ks_mMirrorEdges : Ss_mMirrorEdges → List Item
 | .h1 .. => nav 300 3 [] [.code (bdy f142)]
def Zs_mMirrorEdges : Ss_mMirrorEdges → St
 | .h1 t0 t1 t2 b3 b4 l5 => ⟨sts 29 [(3, .ptr 0 5 0 0), (4, .ptr 1 5 0 0), (7, .ref 2 1 none), (10, sl 1 I t0), (11, I t1), (12, I t2)], [some ⟨false, true, 5, 1, [gi_Map b3]⟩, some ⟨false, true, 5, 1, [gi_Map b4]⟩, some ⟨false, false, 1, l5.length, List.map I l5⟩]⟩
abbrev Qs_mMirrorEdges := Nx X 142 0 Ks_mMirrorEdges Zs_mMirrorEdges Rs_mMirrorEdges (fun _ => [])
theorem ns_mMirrorEdges : ∀ s o, Bs_mMirrorEdges s = some o → Qs_mMirrorEdges (Ks_mMirrorEdges s) (Zs_mMirrorEdges s) o
 | .h1 t0 t1 t2 b3 b4 l5, o, H =>
  eIf H (fun h1 H =>
  eCk H fun h2 H =>
  eBind H fun x3 hx3 H =>
  eBind H fun r4 hr4 H =>
  eBind H fun r5 hr5 H =>
  eBind H fun r6 hr6 H =>
  eN H fun r hn => gO [rg [hT 0], rg [hE 1 (I x3)], rg [hC 5 true [] (RI r4) [], hC 9 true [] (RI r5) [], hC 10 true [2] (Rs_l1Put_c0 r6) (Ns_l1Put_c0 r6)], r0, .canon [0, 1, 3] [3, 4, 7, 10, 11, 12]] (by kernel_rfl) (P2 ((decide (t2 < t1)) = true) (decide_eq_true h1)<|P1 h2<|P1 (int_lt_of_at h2 hx3)<|P1 (at_map I hx3)<|P2 (¬ (3 : Int) = 0) (by decide)<|P1 (cs_mMirrorIndex hr4)<|P2 (¬ (3 : Int) = 0) (by decide)<|P1 (cs_mEdge hr5)<|P1 (cs_l1Put_c0 hr6)<|P0) hn)
  (fun h1 H =>
  eN H<|gE func142 [rg [hF 0], r0] (by kernel_rfl) (P2 ((decide (t2 < t1)) = false) (decide_eq_false h1)<|P0))
theorem ws_mMirrorEdges : ∀ s r, loop Bs_mMirrorEdges s = some r → Wc X 142 0 (Ks_mMirrorEdges s) (Zs_mMirrorEdges s) (Rs_mMirrorEdges r) ((fun _ => []) r) := Nx.all (ns_mMirrorEdges)
theorem cs_mMirrorEdges {a0 : Gi_Map} {a1 : Gi_Map} {a2 : (List Int)} {r : (List Int)} (H : Ds_mMirrorEdges a0 a1 a2 = some r) : Ct X.P X.gl 142 [gi_Map a0, gi_Map a1, sl 1 I a2] [] (Rs_mMirrorEdges r) [] :=
 Ct.of func142 (c := bdy f142) (by kernel_rfl) (by kernel_rfl) <|
 gO [r0, r0, r0, .own 7 1, .canon [0, 1, 2] [3, 4, 7, 10, 11, 12]] (by kernel_rfl) P0 (ws_mMirrorEdges _ _ H)
def Rs_mMirror (r : Gi_Map) : List D := [.agg [I r.Width, I r.Height, ow 1 I r.Terrain, ow 1 I r.Rivers, ow 1 I r.Roads]]
noncomputable def Ks_mMirror : Ss_mMirror → List Item
 | .h1 .. => nav 300 3 [] [.code (bdy f86)]
def Zs_mMirror : Ss_mMirror → St
 | .h1 t0 t1 t2 b3 b4 b5 b6 b7 l8 => ⟨sts 43 [(1, .ptr 0 5 0 0), (2, .ptr 1 5 0 0), (3, .ptr 2 5 0 0), (15, sl 1 I t0), (16, I t1), (17, I t2)], [some ⟨false, true, 5, 1, [gi_Map b3]⟩, some ⟨false, true, 5, 1, [.agg [I b4, I b5, .nil, .nil, .nil]]⟩, some ⟨false, true, 5, 1, [.agg [I b6, I b7, .ref 3 1 none, .nil, .nil]]⟩, some ⟨false, false, 1, l8.length, List.map I l8⟩]⟩
abbrev Qs_mMirror := Nx X 86 0 Ks_mMirror Zs_mMirror Rs_mMirror (fun _ => [])
theorem ns_mMirror : ∀ s o, Bs_mMirror s = some o → Qs_mMirror (Ks_mMirror s) (Zs_mMirror s) o
 | .h1 t0 t1 t2 b3 b4 b5 b6 b7 l8, o, H =>
  eIf H (fun h1 H =>
  eCk H fun h2 H =>
  eBind H fun x3 hx3 H =>
  eBind H fun r4 hr4 H =>
  eCk H fun h5 H =>
  eBind H fun x6 hx6 H =>
  eN H fun r hn => gO [rg [hT 0], rg [hE 2 (I x3)], rg [hC 4 true [] (RI r4) [], hA 7 ((List.set l8 (Int.toNat r4) x3).length) (List.map I (List.set l8 (Int.toNat r4) x3))], r0, .canon [0, 1, 2, 3] [1, 2, 3, 15, 16, 17]] (by kernel_rfl) (P2 ((decide (t2 < t1)) = true) (decide_eq_true h1)<|P1 h2<|P1 (int_lt_of_at h2 hx3)<|P1 (at_map I hx3)<|P1 (cs_mMirrorIndex hr4)<|P1 h5<|P1 (int_lt_of_at h5 hx6)<|P1 (lt_of_at hx6)<|P2 (setCells (List.map I l8) (Int.toNat r4) 0 [I x3] = List.map I (List.set l8 (Int.toNat r4) x3)) (setCells_map hx6 rfl)<|P1 (setLen l8 (Int.toNat r4) x3)<|P0) hn)
  (fun h1 H =>
  eBind H fun r2 hr2 H =>
  eBind H fun r3 hr3 H =>
  eN H<|gE func86 [rg [hF 0], rg [{ i := 4, call := some { cl := false, ins := [], args := [gi_Map b3, .agg [I b6, I b7, sl 1 I l8, sl 1 I [], sl 1 I []], sl 1 I b3.Rivers], res := Rs_mMirrorEdges r2, G' := [] } }], rg [{ i := 4, call := some { cl := false, ins := [], args := [gi_Map b3, .agg [I b6, I b7, sl 1 I l8, sl 1 I r2, sl 1 I []], sl 1 I b3.Roads], res := Rs_mMirrorEdges r3, G' := [] } }], r0] (by kernel_rfl) (P2 ((decide (t2 < t1)) = false) (decide_eq_false h1)<|PI b3.Width<|PI b3.Height<|PL I b3.Terrain<|PL I b3.Rivers<|PL I b3.Roads<|PI b6<|PI b7<|PL I l8<|PI (0 : Nat)<|PI ([] : List D)<|PI (0 : Nat)<|PI ([] : List D)<|PL I b3.Rivers<|P2 (nfL (List.flatMap D.cells (Rs_mMirrorEdges r2))) ⟨nfL_map nf_3 _, trivial⟩<|P2 (nfG []) trivial<|P1 (cs_mMirrorEdges hr2)<|PI b3.Width<|PI b3.Height<|PL I b3.Terrain<|PL I b3.Rivers<|PL I b3.Roads<|PI b6<|PI b7<|PL I l8<|PL I r2<|PI (0 : Nat)<|PI ([] : List D)<|PL I b3.Roads<|P2 (nfL (List.flatMap D.cells (Rs_mMirrorEdges r3))) ⟨nfL_map nf_3 _, trivial⟩<|P2 (nfG []) trivial<|P1 (cs_mMirrorEdges hr3)<|P0))
theorem ws_mMirror : ∀ s r, loop Bs_mMirror s = some r → Wc X 86 0 (Ks_mMirror s) (Zs_mMirror s) (Rs_mMirror r) ((fun _ => []) r) := Nx.all (ns_mMirror)
theorem cs_mMirror {a0 : Gi_Map} {r : Gi_Map} (H : Ds_mMirror a0 = some r) : Ct X.P X.gl 86 [gi_Map a0] [] (Rs_mMirror r) [] :=
 have H := (Ds_mMirror.eq_1 ..).symm.trans H
 Ct.of func86 (c := bdy f86) (by kernel_rfl) (by kernel_rfl) <|
 eBind H fun r1 hr1 H =>
 eCk H fun h2 H =>
 eCk H fun h3 H =>
 gO [r0, rg [hC 5 true [] (RI r1) [], hA 6 ((List.replicate (Int.toNat r1) (0 : Int)).length) (List.map I (List.replicate (Int.toNat r1) (0 : Int)))], r0, .canon [0, 1, 3, 2] [1, 2, 3, 15, 16, 17]] (by kernel_rfl) (P1 (cs_mSize hr1)<|PI r1<|P2 ((0 : Int) ≤ r1) h2<|P2 (Int.toNat r1 * 8 ≤ 140737488355328) h3<|P1 (repLen (Int.toNat r1) (0 : Int))<|P1 (repMap I (Int.toNat r1) (0 : Int))<|P0) (ws_mMirror _ _ H)
def Rs_snHexes (r : (List Int)) : List D := [ow 1 I r]
noncomputable def Ks_snHexes : Ss_snHexes → List Item
 | .h1 .. => nav 300 3 [] [.code (bdy f88)]
def Zs_snHexes : Ss_snHexes → St
 | .h1 t0 t1 t2 b3 l4 => ⟨sts 21 [(2, .ptr 0 5 0 0), (5, .ref 1 1 none), (8, sl 1 I t0), (9, I t1), (10, I t2)], [some ⟨false, true, 5, 1, [gi_Map b3]⟩, some ⟨false, false, 1, l4.length, List.map I l4⟩]⟩
abbrev Qs_snHexes := Nx X 88 0 Ks_snHexes Zs_snHexes Rs_snHexes (fun _ => [])
theorem ns_snHexes : ∀ s o, Bs_snHexes s = some o → Qs_snHexes (Ks_snHexes s) (Zs_snHexes s) o
 | .h1 t0 t1 t2 b3 l4, o, H =>
  eIf H (fun h1 H =>
  eCk H fun h2 H =>
  eBind H fun x3 hx3 H =>
  eBind H fun r4 hr4 H =>
  eBind H fun r5 hr5 H =>
  eN H fun r hn => gO [rg [hT 0], rg [hE 1 (I x3)], rg [hC 3 true [] (RI r4) [], hC 4 true [1] (Rs_l1Put_c0 r5) (Ns_l1Put_c0 r5)], r0, .canon [0, 2] [2, 5, 8, 9, 10]] (by kernel_rfl) (P2 ((decide (t2 < t1)) = true) (decide_eq_true h1)<|P1 h2<|P1 (int_lt_of_at h2 hx3)<|P1 (at_map I hx3)<|P1 (cs_mMirrorIndex hr4)<|P1 (cs_l1Put_c0 hr5)<|P0) hn)
  (fun h1 H =>
  eN H<|gE func88 [rg [hF 0], r0] (by kernel_rfl) (P2 ((decide (t2 < t1)) = false) (decide_eq_false h1)<|P0))
theorem ws_snHexes : ∀ s r, loop Bs_snHexes s = some r → Wc X 88 0 (Ks_snHexes s) (Zs_snHexes s) (Rs_snHexes r) ((fun _ => []) r) := Nx.all (ns_snHexes)
theorem cs_snHexes {a0 : Gi_Map} {a1 : (List Int)} {r : (List Int)} (H : Ds_snHexes a0 a1 = some r) : Ct X.P X.gl 88 [gi_Map a0, sl 1 I a1] [] (Rs_snHexes r) [] :=
 Ct.of func88 (c := bdy f88) (by kernel_rfl) (by kernel_rfl) <|
 gO [r0, r0, r0, .own 5 1, .canon [0, 1] [2, 5, 8, 9, 10]] (by kernel_rfl) P0 (ws_snHexes _ _ H)
def Rs_snMirror (r : Gi_Scenario) : List D := [.agg [.str r.Name, ow 5 goi_Terrain r.Board.Rules.Terrains, ow 6 gi_Kind r.Board.Rules.Kinds, I r.Board.Rules.Stack, I r.Board.Rules.River, I r.Board.Rules.Road, I r.Board.Rules.Supply, I r.Board.Rules.Turns, I r.Board.Map.Width, I r.Board.Map.Height, ow 1 I r.Board.Map.Terrain, ow 1 I r.Board.Map.Rivers, ow 1 I r.Board.Map.Roads, ow 2 gi_Odds r.Table.Columns, I r.Table.Dice, ow 1 (ow 1 I) r.Table.Results, I r.Start.Turn, I r.Start.Weather, ow 4 gi_Unit r.Start.Units, ow 2 gi_Goal r.Conditions.Goals, I r.Conditions.Step, I r.Conditions.Margin, ow 1 I r.First, ow 1 I r.Other]]
noncomputable def Ks_snMirror : Ss_snMirror → List Item
 | .h1 .. => nav 300 5 [] [.code (bdy f44)]
 | .h2 .. => nav 300 9 [false] [.code (bdy f44)]
 | .h3 .. => nav 300 11 [false, false] [.code (bdy f44)]
 | .h4 .. => nav 300 14 [false, false, true] [.code (bdy f44)]
 | .h5 .. => nav 300 19 [false, false, true, true, true] [.code (bdy f44)]
 | .h6 .. => nav 300 21 [false, false, true, true, true, false] [.code (bdy f44)]
def Zs_snMirror : Ss_snMirror → St
 | .h1 t0 t1 b2 b3 b4 b5 b6 b7 b8 b9 b10 b11 b12 b13 b14 b15 b16 b17 b18 b19 b20 b21 b22 b23 b24 b25 b26 b27 b28 b29 l30 l31 l32 l33 l34 l35 l36 l37 l38 l39 l40 => ⟨sts 108 [(1, .ptr 0 24 0 0), (2, .ptr 1 24 0 0), (3, .ptr 2 5 0 0), (4, .ptr 3 24 0 0), (25, .ref 4 4 none), (26, I t0), (27, I t1)], [some ⟨false, true, 24, 1, [gi_Scenario b2]⟩, some ⟨false, true, 24, 1, [.agg [.str b3, .nil, .nil, I b4, I b5, I b6, I b7, I b8, I b9, I b10, .nil, .nil, .nil, .nil, I b11, .nil, I b12, I b13, .nil, .nil, I b14, I b15, .nil, .nil]]⟩, some ⟨false, true, 5, 1, [gi_Map b16]⟩, some ⟨false, true, 24, 1, [.agg [.str b17, .ref 5 5 none, .ref 6 6 none, I b18, I b19, I b20, I b21, I b22, I b23, I b24, .ref 7 1 none, .ref 8 1 none, .ref 9 1 none, .ref 10 2 none, I b25, .ref 11 1 none, I b26, I b27, .ref 4 4 none, .ref 12 2 none, I b28, I b29, .ref 13 1 none, .ref 14 1 none]]⟩, some ⟨false, false, 4, l30.length, List.map gi_Unit l30⟩, some ⟨false, false, 5, l31.length, List.map goi_Terrain l31⟩, some ⟨false, false, 6, l32.length, List.map gi_Kind l32⟩, some ⟨false, false, 1, l33.length, List.map I l33⟩, some ⟨false, false, 1, l34.length, List.map I l34⟩, some ⟨false, false, 1, l35.length, List.map I l35⟩, some ⟨false, false, 2, l36.length, List.map gi_Odds l36⟩, some ⟨false, false, 1, l37.length, List.map (ow 1 I) l37⟩, some ⟨false, false, 2, l38.length, List.map gi_Goal l38⟩, some ⟨false, false, 1, l39.length, List.map I l39⟩, some ⟨false, false, 1, l40.length, List.map I l40⟩]⟩
 | .h2 t0 t1 t2 b3 b4 b5 b6 b7 b8 b9 b10 b11 b12 b13 b14 b15 b16 b17 b18 b19 b20 b21 b22 b23 b24 b25 b26 b27 b28 b29 b30 l31 l32 l33 l34 l35 l36 l37 l38 l39 l40 l41 => ⟨sts 108 [(1, .ptr 0 24 0 0), (2, .ptr 1 24 0 0), (3, .ptr 2 5 0 0), (4, .ptr 3 24 0 0), (7, .ref 4 1 none), (50, sl 2 gi_Goal t0), (51, I t1), (52, I t2)], [some ⟨false, true, 24, 1, [gi_Scenario b3]⟩, some ⟨false, true, 24, 1, [.agg [.str b4, .nil, .nil, I b5, I b6, I b7, I b8, I b9, I b10, I b11, .nil, .nil, .nil, .nil, I b12, .nil, I b13, I b14, .nil, .nil, I b15, I b16, .nil, .nil]]⟩, some ⟨false, true, 5, 1, [gi_Map b17]⟩, some ⟨false, true, 24, 1, [.agg [.str b18, .ref 5 5 none, .ref 6 6 none, I b19, I b20, I b21, I b22, I b23, I b24, I b25, .ref 7 1 none, .ref 8 1 none, .ref 9 1 none, .ref 10 2 none, I b26, .ref 11 1 none, I b27, I b28, .ref 12 4 none, .nil, I b29, I b30, .ref 13 1 none, .ref 14 1 none]]⟩, some ⟨false, false, 1, l31.length, List.map I l31⟩, some ⟨false, false, 5, l32.length, List.map goi_Terrain l32⟩, some ⟨false, false, 6, l33.length, List.map gi_Kind l33⟩, some ⟨false, false, 1, l34.length, List.map I l34⟩, some ⟨false, false, 1, l35.length, List.map I l35⟩, some ⟨false, false, 1, l36.length, List.map I l36⟩, some ⟨false, false, 2, l37.length, List.map gi_Odds l37⟩, some ⟨false, false, 1, l38.length, List.map (ow 1 I) l38⟩, some ⟨false, false, 4, l39.length, List.map gi_Unit l39⟩, some ⟨false, false, 1, l40.length, List.map I l40⟩, some ⟨false, false, 1, l41.length, List.map I l41⟩]⟩
 | .h3 t0 t1 b2 b3 b4 b5 b6 b7 b8 b9 b10 b11 b12 b13 b14 b15 b16 b17 b18 b19 b20 b21 b22 b23 b24 b25 b26 b27 b28 b29 l30 l31 l32 l33 l34 l35 l36 l37 l38 l39 l40 => ⟨sts 108 [(1, .ptr 0 24 0 0), (2, .ptr 1 24 0 0), (3, .ptr 2 5 0 0), (4, .ptr 3 24 0 0), (64, .ref 4 1 none), (65, I t0), (66, I t1)], [some ⟨false, true, 24, 1, [gi_Scenario b2]⟩, some ⟨false, true, 24, 1, [.agg [.str b3, .nil, .nil, I b4, I b5, I b6, I b7, I b8, I b9, I b10, .nil, .nil, .nil, .nil, I b11, .nil, I b12, I b13, .nil, .nil, I b14, I b15, .nil, .nil]]⟩, some ⟨false, true, 5, 1, [gi_Map b16]⟩, some ⟨false, true, 24, 1, [.agg [.str b17, .ref 5 5 none, .ref 6 6 none, I b18, I b19, I b20, I b21, I b22, I b23, I b24, .ref 7 1 none, .ref 8 1 none, .ref 9 1 none, .ref 10 2 none, I b25, .ref 11 1 none, I b26, I b27, .ref 12 4 none, .nil, I b28, I b29, .ref 13 1 none, .ref 14 1 none]]⟩, some ⟨false, false, 1, l30.length, List.map I l30⟩, some ⟨false, false, 5, l31.length, List.map goi_Terrain l31⟩, some ⟨false, false, 6, l32.length, List.map gi_Kind l32⟩, some ⟨false, false, 1, l33.length, List.map I l33⟩, some ⟨false, false, 1, l34.length, List.map I l34⟩, some ⟨false, false, 1, l35.length, List.map I l35⟩, some ⟨false, false, 2, l36.length, List.map gi_Odds l36⟩, some ⟨false, false, 1, l37.length, List.map (ow 1 I) l37⟩, some ⟨false, false, 4, l38.length, List.map gi_Unit l38⟩, some ⟨false, false, 1, l39.length, List.map I l39⟩, some ⟨false, false, 1, l40.length, List.map I l40⟩]⟩
 | .h4 i0 t1 t2 t3 t4 t5 b6 b7 b8 b9 b10 b11 b12 b13 b14 b15 b16 b17 b18 b19 b20 b21 b22 b23 b24 b25 b26 b27 b28 b29 b30 b31 b32 b33 l34 l35 l36 l37 l38 l39 l40 l41 l42 l43 l44 => ⟨sts 108 [(1, .ptr 0 24 0 0), (2, .ptr 1 24 0 0), (3, .ptr 2 5 0 0), (4, .ptr 3 24 0 0), (11, I i0), (64, .ref 4 1 none), (65, I t1), (66, I t2), (72, sl 2 gi_Goal t3), (73, I t4), (74, I t5)], [some ⟨false, true, 24, 1, [gi_Scenario b6]⟩, some ⟨false, true, 24, 1, [.agg [.str b7, .nil, .nil, I b8, I b9, I b10, I b11, I b12, I b13, I b14, .nil, .nil, .nil, .nil, I b15, .nil, I b16, I b17, .nil, .nil, I b18, I b19, .nil, .nil]]⟩, some ⟨false, true, 5, 1, [gi_Map b20]⟩, some ⟨false, true, 24, 1, [.agg [.str b21, .ref 5 5 none, .ref 6 6 none, I b22, I b23, I b24, I b25, I b26, I b27, I b28, .ref 7 1 none, .ref 8 1 none, .ref 9 1 none, .ref 10 2 none, I b29, .ref 11 1 none, I b30, I b31, .ref 12 4 none, .nil, I b32, I b33, .ref 13 1 none, .ref 14 1 none]]⟩, some ⟨false, false, 1, l34.length, List.map I l34⟩, some ⟨false, false, 5, l35.length, List.map goi_Terrain l35⟩, some ⟨false, false, 6, l36.length, List.map gi_Kind l36⟩, some ⟨false, false, 1, l37.length, List.map I l37⟩, some ⟨false, false, 1, l38.length, List.map I l38⟩, some ⟨false, false, 1, l39.length, List.map I l39⟩, some ⟨false, false, 2, l40.length, List.map gi_Odds l40⟩, some ⟨false, false, 1, l41.length, List.map (ow 1 I) l41⟩, some ⟨false, false, 4, l42.length, List.map gi_Unit l42⟩, some ⟨false, false, 1, l43.length, List.map I l43⟩, some ⟨false, false, 1, l44.length, List.map I l44⟩]⟩
 | .h5 i0 t1 t2 t3 t4 t5 b6 b7 b8 b9 b10 b11 b12 b13 b14 b15 b16 b17 b18 b19 b20 b21 b22 b23 b24 b25 b26 b27 b28 b29 b30 b31 b32 b33 l34 l35 l36 l37 l38 l39 l40 l41 l42 l43 l44 l45 => ⟨sts 108 [(1, .ptr 0 24 0 0), (2, .ptr 1 24 0 0), (3, .ptr 2 5 0 0), (4, .ptr 3 24 0 0), (11, I i0), (64, .ref 4 1 none), (65, I t1), (66, I t2), (72, sl 2 gi_Goal t3), (73, I t4), (74, I t5)], [some ⟨false, true, 24, 1, [gi_Scenario b6]⟩, some ⟨false, true, 24, 1, [.agg [.str b7, .nil, .nil, I b8, I b9, I b10, I b11, I b12, I b13, I b14, .nil, .nil, .nil, .nil, I b15, .nil, I b16, I b17, .nil, .nil, I b18, I b19, .nil, .nil]]⟩, some ⟨false, true, 5, 1, [gi_Map b20]⟩, some ⟨false, true, 24, 1, [.agg [.str b21, .ref 5 5 none, .ref 6 6 none, I b22, I b23, I b24, I b25, I b26, I b27, I b28, .ref 7 1 none, .ref 8 1 none, .ref 9 1 none, .ref 10 2 none, I b29, .ref 11 1 none, I b30, I b31, .ref 12 4 none, .ref 13 2 none, I b32, I b33, .ref 14 1 none, .ref 15 1 none]]⟩, some ⟨false, false, 1, l34.length, List.map I l34⟩, some ⟨false, false, 5, l35.length, List.map goi_Terrain l35⟩, some ⟨false, false, 6, l36.length, List.map gi_Kind l36⟩, some ⟨false, false, 1, l37.length, List.map I l37⟩, some ⟨false, false, 1, l38.length, List.map I l38⟩, some ⟨false, false, 1, l39.length, List.map I l39⟩, some ⟨false, false, 2, l40.length, List.map gi_Odds l40⟩, some ⟨false, false, 1, l41.length, List.map (ow 1 I) l41⟩, some ⟨false, false, 4, l42.length, List.map gi_Unit l42⟩, some ⟨false, false, 2, l43.length, List.map gi_Goal l43⟩, some ⟨false, false, 1, l44.length, List.map I l44⟩, some ⟨false, false, 1, l45.length, List.map I l45⟩]⟩
 | .h6 t0 t1 b2 b3 b4 b5 b6 b7 b8 b9 b10 b11 b12 b13 b14 b15 b16 b17 b18 b19 b20 b21 b22 b23 b24 b25 b26 b27 b28 b29 l30 l31 l32 l33 l34 l35 l36 l37 l38 l39 l40 l41 => ⟨sts 108 [(1, .ptr 0 24 0 0), (2, .ptr 1 24 0 0), (3, .ptr 2 5 0 0), (4, .ptr 3 24 0 0), (64, .ref 4 1 none), (65, I t0), (66, I t1)], [some ⟨false, true, 24, 1, [gi_Scenario b2]⟩, some ⟨false, true, 24, 1, [.agg [.str b3, .nil, .nil, I b4, I b5, I b6, I b7, I b8, I b9, I b10, .nil, .nil, .nil, .nil, I b11, .nil, I b12, I b13, .nil, .nil, I b14, I b15, .nil, .nil]]⟩, some ⟨false, true, 5, 1, [gi_Map b16]⟩, some ⟨false, true, 24, 1, [.agg [.str b17, .ref 5 5 none, .ref 6 6 none, I b18, I b19, I b20, I b21, I b22, I b23, I b24, .ref 7 1 none, .ref 8 1 none, .ref 9 1 none, .ref 10 2 none, I b25, .ref 11 1 none, I b26, I b27, .ref 12 4 none, .ref 13 2 none, I b28, I b29, .ref 14 1 none, .ref 15 1 none]]⟩, some ⟨false, false, 1, l30.length, List.map I l30⟩, some ⟨false, false, 5, l31.length, List.map goi_Terrain l31⟩, some ⟨false, false, 6, l32.length, List.map gi_Kind l32⟩, some ⟨false, false, 1, l33.length, List.map I l33⟩, some ⟨false, false, 1, l34.length, List.map I l34⟩, some ⟨false, false, 1, l35.length, List.map I l35⟩, some ⟨false, false, 2, l36.length, List.map gi_Odds l36⟩, some ⟨false, false, 1, l37.length, List.map (ow 1 I) l37⟩, some ⟨false, false, 4, l38.length, List.map gi_Unit l38⟩, some ⟨false, false, 2, l39.length, List.map gi_Goal l39⟩, some ⟨false, false, 1, l40.length, List.map I l40⟩, some ⟨false, false, 1, l41.length, List.map I l41⟩]⟩
abbrev Qs_snMirror := Nx X 44 0 Ks_snMirror Zs_snMirror Rs_snMirror (fun _ => [])
theorem ns_snMirror : ∀ s o, Bs_snMirror s = some o → Qs_snMirror (Ks_snMirror s) (Zs_snMirror s) o
 | .h1 t0 t1 b2 b3 b4 b5 b6 b7 b8 b9 b10 b11 b12 b13 b14 b15 b16 b17 b18 b19 b20 b21 b22 b23 b24 b25 b26 b27 b28 b29 l30 l31 l32 l33 l34 l35 l36 l37 l38 l39 l40, o, H =>
  eIf H (fun h1 H =>
  eCk H fun h2 H =>
  eBind H fun x3 hx3 H =>
  gN [rg [hT 0], rg [hE 2 (gi_Unit x3)]] (by kernel_rfl) (P2 ((decide (t1 < t0)) = true) (decide_eq_true h1)<|P1 h2<|P1 (int_lt_of_at h2 hx3)<|P1 (at_map gi_Unit hx3)<|P0) <|
  eIf H (fun h4 H =>
  eBind H fun r5 hr5 H =>
  eCk H fun h6 H =>
  eBind H fun x7 hx7 H =>
  eN H fun r hn => gO [rg [hT 2], rg [hC 7 true [] (RI r5) [], hA 10 ((List.set l30 (Int.toNat t1) (Gi_Unit.mk x7.Side x7.Kind r5 x7.Steps)).length) (List.map gi_Unit (List.set l30 (Int.toNat t1) (Gi_Unit.mk x7.Side x7.Kind r5 x7.Steps)))], r0, .canon [0, 1, 2, 3, 4, 5, 6, 7, 8, 9, 10, 11, 12, 13, 14] [1, 2, 3, 4, 25, 26, 27]] (by kernel_rfl) (P2 ((decide (x3.At ≥ 0)) = true) (decide_eq_true h4)<|P1 (cs_mMirrorIndex hr5)<|P1 h6<|P1 (int_lt_of_at h6 hx7)<|P1 (lt_of_at hx7)<|P2 (setCells (List.map gi_Unit l30) (Int.toNat t1) 2 [I r5] = List.map gi_Unit (List.set l30 (Int.toNat t1) (Gi_Unit.mk x7.Side x7.Kind r5 x7.Steps))) (setCells_map hx7 rfl)<|P1 (setLen l30 (Int.toNat t1) (Gi_Unit.mk x7.Side x7.Kind r5 x7.Steps))<|P0) hn)
  (fun h4 H =>
  eN H fun r hn => gO [rg [hF 2], r0, .canon [0, 1, 2, 3, 4, 5, 6, 7, 8, 9, 10, 11, 12, 13, 14] [1, 2, 3, 4, 25, 26, 27]] (by kernel_rfl) (P2 ((decide (x3.At ≥ 0)) = false) (decide_eq_false h4)<|P0) hn))
  (fun h1 H =>
  eN H fun r hn => gO [rg [hF 0], r0, r0, r0, .own 7 1, .canon [0, 1, 2, 3, 15, 5, 6, 7, 8, 9, 10, 11, 4, 13, 14] [1, 2, 3, 4, 7, 50, 51, 52]] (by kernel_rfl) (P2 ((decide (t1 < t0)) = false) (decide_eq_false h1)<|P0) hn)
 | .h2 t0 t1 t2 b3 b4 b5 b6 b7 b8 b9 b10 b11 b12 b13 b14 b15 b16 b17 b18 b19 b20 b21 b22 b23 b24 b25 b26 b27 b28 b29 b30 l31 l32 l33 l34 l35 l36 l37 l38 l39 l40 l41, o, H =>
  eIf H (fun h1 H =>
  eCk H fun h2 H =>
  eBind H fun x3 hx3 H =>
  eCk H fun h4 H =>
  eN H fun r hn => gO [rg [hT 0], rg [hE 1 (gi_Goal x3)], rg [hA 4 ((l31 ++ [x3.At]).length) (List.map I (l31 ++ [x3.At]))], r0, .canon [0, 1, 2, 3, 17, 5, 6, 7, 8, 9, 10, 11, 12, 13, 14] [1, 2, 3, 4, 7, 50, 51, 52]] (by kernel_rfl) (P2 ((decide (t2 < t1)) = true) (decide_eq_true h1)<|P1 h2<|P1 (int_lt_of_at h2 hx3)<|P1 (at_map gi_Goal hx3)<|P1 (apL l31 [x3.At])<|P1 (apB h4)<|P1 (apM I l31 [x3.At])<|P0) hn)
  (fun h1 H =>
  eBind H fun r2 hr2 H =>
  eN H fun r hn => gO [rg [hF 0], rg [hC 2 false [] (Rs_snHexes r2) []], .canon [0, 1, 2, 3, 15, 5, 6, 7, 8, 9, 10, 11, 12, 13, 14] [1, 2, 3, 4, 64, 65, 66]] (by kernel_rfl) (P2 ((decide (t2 < t1)) = false) (decide_eq_false h1)<|P2 (nfL (List.flatMap D.cells (Rs_snHexes r2))) ⟨nfL_map nf_3 _, trivial⟩<|P2 (nfG []) trivial<|P1 (cs_snHexes hr2)<|P0) hn)
 | .h3 t0 t1 b2 b3 b4 b5 b6 b7 b8 b9 b10 b11 b12 b13 b14 b15 b16 b17 b18 b19 b20 b21 b22 b23 b24 b25 b26 b27 b28 b29 l30 l31 l32 l33 l34 l35 l36 l37 l38 l39 l40, o, H =>
  eIf H (fun h1 H =>
  eCk H fun h2 H =>
  eBind H fun x3 hx3 H =>
  eN H fun r hn => gO [rg [hT 0], rg [hE 1 (I x3)], r0, .canon [0, 1, 2, 3, 4, 5, 6, 7, 8, 9, 10, 11, 12, 13, 14] [1, 2, 3, 4, 11, 64, 65, 66, 72, 73, 74]] (by kernel_rfl) (P2 ((decide (t1 < t0)) = true) (decide_eq_true h1)<|P1 h2<|P1 (int_lt_of_at h2 hx3)<|P1 (at_map I hx3)<|P0) hn)
  (fun h1 H =>
  eBind H fun r2 hr2 H =>
  eBind H fun r3 hr3 H =>
  eN H<|gE func44 [rg [hF 0], rg [hC 3 true [] (Rs_snHexes r2) []], rg [hC 3 true [] (Rs_snHexes r3) []], r0] (by kernel_rfl) (P2 ((decide (t1 < t0)) = false) (decide_eq_false h1)<|P1 (cs_snHexes hr2)<|P1 (cs_snHexes hr3)<|P0))
 | .h4 i0 t1 t2 t3 t4 t5 b6 b7 b8 b9 b10 b11 b12 b13 b14 b15 b16 b17 b18 b19 b20 b21 b22 b23 b24 b25 b26 b27 b28 b29 b30 b31 b32 b33 l34 l35 l36 l37 l38 l39 l40 l41 l42 l43 l44, o, H =>
  eIf H (fun h1 H =>
  eCk H fun h2 H =>
  eBind H fun x3 hx3 H =>
  eBind H fun r4 hr4 H =>
  gN [rg [hT 0], rg [hE 1 (gi_Goal x3)]] (by kernel_rfl) (P2 ((decide (t5 < t4)) = true) (decide_eq_true h1)<|P1 h2<|P1 (int_lt_of_at h2 hx3)<|P1 (at_map gi_Goal hx3)<|P0) <|
  eIf H (fun h5 H =>
  eCk H fun h6 H =>
  eN H fun r hn => gO [rg [hC 3 true [] (RI r4) [], hT 5], rg [hA 8 ([(Gi_Goal.mk i0 x3.Points)].length) (List.map gi_Goal [(Gi_Goal.mk i0 x3.Points)])], r0, .canon [0, 1, 2, 3, 4, 5, 6, 7, 8, 9, 10, 11, 12, 17, 13, 14] [1, 2, 3, 4, 11, 64, 65, 66, 72, 73, 74]] (by kernel_rfl) (P1 (cs_mMirrorIndex hr4)<|P2 (((r4 : Int) == i0) = true) (beqT h5)<|P2 ([(Gi_Goal.mk i0 x3.Points)].length = 0 + [(Gi_Goal.mk i0 x3.Points)].length) (by simp <;> omega)<|P2 ((0 + [(Gi_Goal.mk i0 x3.Points)].length) * 16 ≤ 70368744177664) (by have := h6; simp at this ⊢ <;> omega)<|P2 (([] : List D) ++ List.map gi_Goal [(Gi_Goal.mk i0 x3.Points)] = List.map gi_Goal [(Gi_Goal.mk i0 x3.Points)]) (by simp)<|P0) hn)
  (fun h5 H =>
  eN H fun r hn => gO [rg [hC 3 true [] (RI r4) [], hF 5], r0, .canon [0, 1, 2, 3, 4, 5, 6, 7, 8, 9, 10, 11, 12, 13, 14] [1, 2, 3, 4, 11, 64, 65, 66, 72, 73, 74]] (by kernel_rfl) (P1 (cs_mMirrorIndex hr4)<|P2 (((r4 : Int) == i0) = false) (beqF h5)<|P0) hn))
  (fun h1 H =>
  eN H fun r hn => gO [rg [hF 0], r0, .canon [0, 1, 2, 3, 4, 5, 6, 7, 8, 9, 10, 11, 12, 13, 14] [1, 2, 3, 4, 64, 65, 66]] (by kernel_rfl) (P2 ((decide (t5 < t4)) = false) (decide_eq_false h1)<|P0) hn)
 | .h5 i0 t1 t2 t3 t4 t5 b6 b7 b8 b9 b10 b11 b12 b13 b14 b15 b16 b17 b18 b19 b20 b21 b22 b23 b24 b25 b26 b27 b28 b29 b30 b31 b32 b33 l34 l35 l36 l37 l38 l39 l40 l41 l42 l43 l44 l45, o, H =>
  eIf H (fun h1 H =>
  eCk H fun h2 H =>
  eBind H fun x3 hx3 H =>
  eBind H fun r4 hr4 H =>
  gN [rg [hT 0], rg [hE 1 (gi_Goal x3)]] (by kernel_rfl) (P2 ((decide (t5 < t4)) = true) (decide_eq_true h1)<|P1 h2<|P1 (int_lt_of_at h2 hx3)<|P1 (at_map gi_Goal hx3)<|P0) <|
  eIf H (fun h5 H =>
  eCk H fun h6 H =>
  eN H fun r hn => gO [rg [hC 3 true [] (RI r4) [], hT 5], rg [hA 8 ((l43 ++ [(Gi_Goal.mk i0 x3.Points)]).length) (List.map gi_Goal (l43 ++ [(Gi_Goal.mk i0 x3.Points)]))], r0, .canon [0, 1, 2, 3, 4, 5, 6, 7, 8, 9, 10, 11, 12, 18, 14, 15] [1, 2, 3, 4, 11, 64, 65, 66, 72, 73, 74]] (by kernel_rfl) (P1 (cs_mMirrorIndex hr4)<|P2 (((r4 : Int) == i0) = true) (beqT h5)<|P1 (apL l43 [(Gi_Goal.mk i0 x3.Points)])<|P1 (apB h6)<|P1 (apM gi_Goal l43 [(Gi_Goal.mk i0 x3.Points)])<|P0) hn)
  (fun h5 H =>
  eN H fun r hn => gO [rg [hC 3 true [] (RI r4) [], hF 5], r0, .canon [0, 1, 2, 3, 4, 5, 6, 7, 8, 9, 10, 11, 12, 13, 14, 15] [1, 2, 3, 4, 11, 64, 65, 66, 72, 73, 74]] (by kernel_rfl) (P1 (cs_mMirrorIndex hr4)<|P2 (((r4 : Int) == i0) = false) (beqF h5)<|P0) hn))
  (fun h1 H =>
  eN H fun r hn => gO [rg [hF 0], r0, .canon [0, 1, 2, 3, 4, 5, 6, 7, 8, 9, 10, 11, 12, 13, 14, 15] [1, 2, 3, 4, 64, 65, 66]] (by kernel_rfl) (P2 ((decide (t5 < t4)) = false) (decide_eq_false h1)<|P0) hn)
 | .h6 t0 t1 b2 b3 b4 b5 b6 b7 b8 b9 b10 b11 b12 b13 b14 b15 b16 b17 b18 b19 b20 b21 b22 b23 b24 b25 b26 b27 b28 b29 l30 l31 l32 l33 l34 l35 l36 l37 l38 l39 l40 l41, o, H =>
  eIf H (fun h1 H =>
  eCk H fun h2 H =>
  eBind H fun x3 hx3 H =>
  eN H fun r hn => gO [rg [hT 0], rg [hE 1 (I x3)], r0, .canon [0, 1, 2, 3, 4, 5, 6, 7, 8, 9, 10, 11, 12, 13, 14, 15] [1, 2, 3, 4, 11, 64, 65, 66, 72, 73, 74]] (by kernel_rfl) (P2 ((decide (t1 < t0)) = true) (decide_eq_true h1)<|P1 h2<|P1 (int_lt_of_at h2 hx3)<|P1 (at_map I hx3)<|P0) hn)
  (fun h1 H =>
  eBind H fun r2 hr2 H =>
  eBind H fun r3 hr3 H =>
  eN H<|gE func44 [rg [hF 0], rg [hC 3 true [] (Rs_snHexes r2) []], rg [hC 3 true [] (Rs_snHexes r3) []], r0] (by kernel_rfl) (P2 ((decide (t1 < t0)) = false) (decide_eq_false h1)<|P1 (cs_snHexes hr2)<|P1 (cs_snHexes hr3)<|P0))
theorem ws_snMirror : ∀ s r, loop Bs_snMirror s = some r → Wc X 44 0 (Ks_snMirror s) (Zs_snMirror s) (Rs_snMirror r) ((fun _ => []) r) := Nx.all (ns_snMirror)
theorem cs_snMirror {a0 : Gi_Scenario} {r : Gi_Scenario} (H : Ds_snMirror a0 = some r) : Ct X.P X.gl 44 [gi_Scenario a0] [] (Rs_snMirror r) [] :=
 Ct.of func44 (c := bdy f44) (by kernel_rfl) (by kernel_rfl) <|
 eBind H fun r1 hr1 H =>
 eBind H fun r2 hr2 H =>
 gO [r0, r0, rg [hC 1 true [] (Rs_snOwn r1) []], rg [hC 1 true [] (Rs_mMirror r2) []], r0, .canon [0, 1, 2, 27, 21, 4, 5, 30, 31, 32, 16, 18, 22, 25, 26] [1, 2, 3, 4, 25, 26, 27]] (by kernel_rfl) (P1 (cs_snOwn hr1)<|P1 (cs_mMirror hr2)<|P0) (ws_snMirror _ _ H)
def Rs_MirrorScenario (r : Gi_Scenario × Bool) : List D := [.agg [.str r.1.Name, ow 5 goi_Terrain r.1.Board.Rules.Terrains, ow 6 gi_Kind r.1.Board.Rules.Kinds, I r.1.Board.Rules.Stack, I r.1.Board.Rules.River, I r.1.Board.Rules.Road, I r.1.Board.Rules.Supply, I r.1.Board.Rules.Turns, I r.1.Board.Map.Width, I r.1.Board.Map.Height, ow 1 I r.1.Board.Map.Terrain, ow 1 I r.1.Board.Map.Rivers, ow 1 I r.1.Board.Map.Roads, ow 2 gi_Odds r.1.Table.Columns, I r.1.Table.Dice, ow 1 (ow 1 I) r.1.Table.Results, I r.1.Start.Turn, I r.1.Start.Weather, ow 4 gi_Unit r.1.Start.Units, ow 2 gi_Goal r.1.Conditions.Goals, I r.1.Conditions.Step, I r.1.Conditions.Margin, ow 1 I r.1.First, ow 1 I r.1.Other], .bool r.2]
theorem cs_MirrorScenario {a0 : Gi_Scenario} {r : Gi_Scenario × Bool} (H : Ds_MirrorScenario a0 = some r) : Ct X.P X.gl 14 [gi_Scenario a0] [] (Rs_MirrorScenario r) [] :=
 Ct.of func14 (c := bdy f14) (by kernel_rfl) (by kernel_rfl) <|
 eBind H fun r1 hr1 H =>
 gS [r0] (by kernel_rfl) P0 <|
 eIf H (fun h2 H =>
 eBind H fun r3 hr3 H =>
 eW Rs_MirrorScenario (fun _ => []) H<|gE func14 [rg [{ i := 1, call := some { cl := true, auto := true, ins := [], res := (RB r1), G' := [] }, dec := some true }], rg [hC 1 true [] (Rs_snMirror r3) []]] (by kernel_rfl) (P1 (cs_snGood hr1)<|P2 (r1 = true) (h2)<|P1 (cs_snMirror hr3)<|P0))
 (fun h2 H =>
 eW Rs_MirrorScenario (fun _ => []) H<|gE func14 [rg [{ i := 1, call := some { cl := true, auto := true, ins := [], res := (RB r1), G' := [] }, dec := some false }], r0] (by kernel_rfl) (P1 (cs_snGood hr1)<|P2 (r1 = false) (eqF h2)<|P0))
theorem ci_inRange {a0 : Int} {a1 : Int} {a2 : Int} {r : Bool} (H : Di_inRange a0 a1 a2 = some r) : Ct X.P X.gl 67 [I a0, I a1, I a2] [] (RB r) [] :=
 Ct.of func67 (c := bdy f67) (by kernel_rfl) (by kernel_rfl) <|
 gS [r0] (by kernel_rfl) P0 <|
 eIf H (fun h1 H =>
 eW RB (fun _ => []) H<|gE func67 [rg [hT 2]] (by kernel_rfl) (P2 ((decide (a1 ≤ a0)) = true) (decide_eq_true h1)<|P0))
 (fun h1 H =>
 eW RB (fun _ => []) H<|gE func67 [rg [hF 2]] (by kernel_rfl) (P2 ((decide (a1 ≤ a0)) = false) (decide_eq_false h1)<|P0))
noncomputable def Ki_isName : Si_isName → List Item
 | .h1 .. => nav 300 2 [] [.code (bdy f118)]
def Zi_isName : Si_isName → St
 | .h1 s0 i1 => ⟨sts 23 [(0, .str s0), (3, I i1)], []⟩
abbrev Qi_isName := Nx X 118 0 Ki_isName Zi_isName RB (fun _ => [])
theorem ni_isName : ∀ s o, Bi_isName s = some o → Qi_isName (Ki_isName s) (Zi_isName s) o
 | .h1 s0 i1, o, H =>
  eIf H (fun h1 H =>
  eCk H fun h2 H =>
  eCk H fun h3 H =>
  gN [rg [hT 3]] (by kernel_rfl) (P2 ((decide (i1 < ((ByteArray.size s0 : Nat) : Int))) = true) (decide_eq_true h1)<|P0) <|
  eIf H (fun h4 H =>
  eN H<|gE func118 [rg [{ i := 2, n := byteAt s0 (Int.toNat i1) }, hT 3], r0] (by kernel_rfl) (P2 ((0 : Int) ≤ i1) h2<|P2 (i1 < (ByteArray.size s0 : Int)) h3<|P2 ((s0.data.toList[(Int.toNat i1)]?.map fun b => (b.toNat : Int)) = some ((byteAt s0 (Int.toNat i1) : Nat) : Int)) (byteAt_ok (by omega))<|P2 ((decide (((byteAt s0 (Int.toNat i1) : Nat) : Int) < 97)) = true) (decide_eq_true h4)<|P0))
  (fun h4 H =>
  eCk H fun h5 H =>
  eCk H fun h6 H =>
  eIf H (fun h7 H =>
  eN H<|gE func118 [rg [{ i := 2, n := byteAt s0 (Int.toNat i1) }, hF 3, { i := 7, n := byteAt s0 (Int.toNat i1) }, hT 8], r0] (by kernel_rfl) (P2 ((0 : Int) ≤ i1) h2<|P2 (i1 < (ByteArray.size s0 : Int)) h3<|P2 ((s0.data.toList[(Int.toNat i1)]?.map fun b => (b.toNat : Int)) = some ((byteAt s0 (Int.toNat i1) : Nat) : Int)) (byteAt_ok (by omega))<|P2 ((decide (((byteAt s0 (Int.toNat i1) : Nat) : Int) < 97)) = false) (decide_eq_false h4)<|P2 ((0 : Int) ≤ i1) h5<|P2 (i1 < (ByteArray.size s0 : Int)) h6<|P2 ((s0.data.toList[(Int.toNat i1)]?.map fun b => (b.toNat : Int)) = some ((byteAt s0 (Int.toNat i1) : Nat) : Int)) (byteAt_ok (by omega))<|P2 ((decide (((byteAt s0 (Int.toNat i1) : Nat) : Int) > 122)) = true) (decide_eq_true h7)<|P0))
  (fun h7 H =>
  eN H fun r hn => gO [rg [{ i := 2, n := byteAt s0 (Int.toNat i1) }, hF 3, { i := 7, n := byteAt s0 (Int.toNat i1) }, hF 8], r0, .canon [] [0, 3]] (by kernel_rfl) (P2 ((0 : Int) ≤ i1) h2<|P2 (i1 < (ByteArray.size s0 : Int)) h3<|P2 ((s0.data.toList[(Int.toNat i1)]?.map fun b => (b.toNat : Int)) = some ((byteAt s0 (Int.toNat i1) : Nat) : Int)) (byteAt_ok (by omega))<|P2 ((decide (((byteAt s0 (Int.toNat i1) : Nat) : Int) < 97)) = false) (decide_eq_false h4)<|P2 ((0 : Int) ≤ i1) h5<|P2 (i1 < (ByteArray.size s0 : Int)) h6<|P2 ((s0.data.toList[(Int.toNat i1)]?.map fun b => (b.toNat : Int)) = some ((byteAt s0 (Int.toNat i1) : Nat) : Int)) (byteAt_ok (by omega))<|P2 ((decide (((byteAt s0 (Int.toNat i1) : Nat) : Int) > 122)) = false) (decide_eq_false h7)<|P0) hn)))
  (fun h1 H =>
  eBind H fun r2 hr2 H =>
  eN H<|gE func118 [rg [hF 3], rg [hC 2 true [] (RB r2) []]] (by kernel_rfl) (P2 ((decide (i1 < ((ByteArray.size s0 : Nat) : Int))) = false) (decide_eq_false h1)<|P1 (ci_inRange hr2)<|P0))
theorem wi_isName : ∀ s r, loop Bi_isName s = some r → Wc X 118 0 (Ki_isName s) (Zi_isName s) (RB r) ((fun _ => []) r) := Nx.all (ni_isName)
theorem ci_isName {a0 : ByteArray} {r : Bool} (H : Di_isName a0 = some r) : Ct X.P X.gl 118 [.str a0] [] (RB r) [] :=
 Ct.of func118 (c := bdy f118) (by kernel_rfl) (by kernel_rfl) <|
 gO [r0, r0, .canon [] [0, 3]] (by kernel_rfl) P0 (wi_isName _ _ H)
theorem ci_goodTerrain_1 {a0 : Int} {r : Bool} (H : Di_goodTerrain_1 a0 = some r) : Ct X.P X.gl 222 [I a0] [] (RB r) [] :=
 Ct.of func222 (c := bdy f222) (by kernel_rfl) (by kernel_rfl) <|
 eBind H fun r1 hr1 H =>
 eW RB (fun _ => []) H<|gE func222 [r0, rg [hC 1 true [] (RB r1) []]] (by kernel_rfl) (P1 (ci_inRange hr1)<|P0)
noncomputable def Kslices_IndexFunc_int_i_goodTerrain_1 : Sslices_IndexFunc_int_i_goodTerrain_1 → List Item
 | .h1 .. => nav 300 2 [] [.code (bdy f203)]
def Zslices_IndexFunc_int_i_goodTerrain_1 : Sslices_IndexFunc_int_i_goodTerrain_1 → St
 | .h1 s0 t1 t2 => ⟨sts 19 [(0, sl 1 I s0), (1, .fn 222 []), (7, I t1), (8, I t2)], []⟩
abbrev Qslices_IndexFunc_int_i_goodTerrain_1 := Nx X 203 0 Kslices_IndexFunc_int_i_goodTerrain_1 Zslices_IndexFunc_int_i_goodTerrain_1 RI (fun _ => [])
theorem nslices_IndexFunc_int_i_goodTerrain_1 : ∀ s o, Bslices_IndexFunc_int_i_goodTerrain_1 s = some o → Qslices_IndexFunc_int_i_goodTerrain_1 (Kslices_IndexFunc_int_i_goodTerrain_1 s) (Zslices_IndexFunc_int_i_goodTerrain_1 s) o
 | .h1 s0 t1 t2, o, H =>
  eIf H (fun h1 H =>
  eCk H fun h2 H =>
  eBind H fun x3 hx3 H =>
  eBind H fun r4 hr4 H =>
  gN [rg [hT 0], r0] (by kernel_rfl) (P2 ((decide (t2 < t1)) = true) (decide_eq_true h1)<|P0) <|
  eIf H (fun h5 H =>
  eN H<|gE func203 [rg [hE 4 (I x3), { i := 5, call := some { cl := true, auto := true, ins := [], res := (RB r4), G' := [] }, dec := some true }], r0] (by kernel_rfl) (P1 h2<|P1 (int_lt_of_at h2 hx3)<|P1 (at_map I hx3)<|P1 (ci_goodTerrain_1 hr4)<|P2 (r4 = true) (h5)<|P0))
  (fun h5 H =>
  eN H fun r hn => gO [rg [hE 4 (I x3), { i := 5, call := some { cl := true, auto := true, ins := [], res := (RB r4), G' := [] }, dec := some false }], r0, .canon [] [0, 1, 7, 8]] (by kernel_rfl) (P1 h2<|P1 (int_lt_of_at h2 hx3)<|P1 (at_map I hx3)<|P1 (ci_goodTerrain_1 hr4)<|P2 (r4 = false) (eqF h5)<|P0) hn))
  (fun h1 H =>
  eN H<|gE func203 [rg [hF 0], r0] (by kernel_rfl) (P2 ((decide (t2 < t1)) = false) (decide_eq_false h1)<|P0))
theorem wslices_IndexFunc_int_i_goodTerrain_1 : ∀ s r, loop Bslices_IndexFunc_int_i_goodTerrain_1 s = some r → Wc X 203 0 (Kslices_IndexFunc_int_i_goodTerrain_1 s) (Zslices_IndexFunc_int_i_goodTerrain_1 s) (RI r) ((fun _ => []) r) := Nx.all (nslices_IndexFunc_int_i_goodTerrain_1)
theorem cslices_IndexFunc_int_i_goodTerrain_1 {a0 : (List Int)} {r : Int} (H : Dslices_IndexFunc_int_i_goodTerrain_1 a0 = some r) : Ct X.P X.gl 203 [sl 1 I a0, .fn 222 []] [] (RI r) [] :=
 Ct.of func203 (c := bdy f203) (by kernel_rfl) (by kernel_rfl) <|
 gO [r0, r0, .canon [] [0, 1, 7, 8]] (by kernel_rfl) P0 (wslices_IndexFunc_int_i_goodTerrain_1 _ _ H)
theorem cslices_ContainsFunc_int_i_goodTerrain_1 {a0 : (List Int)} {r : Bool} (H : Dslices_ContainsFunc_int_i_goodTerrain_1 a0 = some r) : Ct X.P X.gl 167 [sl 1 I a0, .fn 222 []] [] (RB r) [] :=
 Ct.of func167 (c := bdy f167) (by kernel_rfl) (by kernel_rfl) <|
 eBind H fun r1 hr1 H =>
 eW RB (fun _ => []) H<|gE func167 [r0, rg [hC 2 true [] (RI r1) []]] (by kernel_rfl) (P1 (cslices_IndexFunc_int_i_goodTerrain_1 hr1)<|P0)
theorem ci_goodTerrain {a0 : Gi_Terrain} {a1 : Int} {r : Bool} (H : Di_goodTerrain a0 a1 = some r) : Ct X.P X.gl 198 [gi_Terrain a0, I a1] [] (RB r) [] :=
 Ct.of func198 (c := bdy f198) (by kernel_rfl) (by kernel_rfl) <|
 eBind H fun r1 hr1 H =>
 gS [r0] (by kernel_rfl) P0 <|
 eIf H (fun h2 H =>
 eIf H (fun h3 H =>
 eBind H fun r4 hr4 H =>
 eIf H (fun h5 H =>
 eBind H fun r6 hr6 H =>
 eIf H (fun h7 H =>
 eBind H fun r8 hr8 H =>
 eW RB (fun _ => []) H<|gE func198 [rg [{ i := 2, call := some { cl := true, auto := true, ins := [], res := (RB r1), G' := [] }, dec := some true }, hF 9, { i := 14, call := some { cl := true, auto := true, ins := [], res := (RB r4), G' := [] }, dec := some true }, { i := 20, call := some { cl := true, auto := true, ins := [], res := (RB r6), G' := [] }, dec := some true }], rg [hC 2 true [] (RB r8) []]] (by kernel_rfl) (P1 (ci_isName hr1)<|P2 (r1 = true) (h2)<|P2 (((((a0.Cost.length : Nat) : Int) : Int) != a1) = false) (bneF h3)<|P1 (ci_inRange hr4)<|P2 (r4 = true) (h5)<|P1 (ci_inRange hr6)<|P2 (r6 = true) (h7)<|P1 (cslices_ContainsFunc_int_i_goodTerrain_1 hr8)<|P0))
 (fun h7 H =>
 eW RB (fun _ => []) H<|gE func198 [rg [{ i := 2, call := some { cl := true, auto := true, ins := [], res := (RB r1), G' := [] }, dec := some true }, hF 9, { i := 14, call := some { cl := true, auto := true, ins := [], res := (RB r4), G' := [] }, dec := some true }, { i := 20, call := some { cl := true, auto := true, ins := [], res := (RB r6), G' := [] }, dec := some false }], r0] (by kernel_rfl) (P1 (ci_isName hr1)<|P2 (r1 = true) (h2)<|P2 (((((a0.Cost.length : Nat) : Int) : Int) != a1) = false) (bneF h3)<|P1 (ci_inRange hr4)<|P2 (r4 = true) (h5)<|P1 (ci_inRange hr6)<|P2 (r6 = false) (eqF h7)<|P0)))
 (fun h5 H =>
 eW RB (fun _ => []) H<|gE func198 [rg [{ i := 2, call := some { cl := true, auto := true, ins := [], res := (RB r1), G' := [] }, dec := some true }, hF 9, { i := 14, call := some { cl := true, auto := true, ins := [], res := (RB r4), G' := [] }, dec := some false }], r0] (by kernel_rfl) (P1 (ci_isName hr1)<|P2 (r1 = true) (h2)<|P2 (((((a0.Cost.length : Nat) : Int) : Int) != a1) = false) (bneF h3)<|P1 (ci_inRange hr4)<|P2 (r4 = false) (eqF h5)<|P0)))
 (fun h3 H =>
 eW RB (fun _ => []) H<|gE func198 [rg [{ i := 2, call := some { cl := true, auto := true, ins := [], res := (RB r1), G' := [] }, dec := some true }, hT 9], r0] (by kernel_rfl) (P1 (ci_isName hr1)<|P2 (r1 = true) (h2)<|P2 (((((a0.Cost.length : Nat) : Int) : Int) != a1) = true) (bneT h3)<|P0)))
 (fun h2 H =>
 eW RB (fun _ => []) H<|gE func198 [rg [{ i := 2, call := some { cl := true, auto := true, ins := [], res := (RB r1), G' := [] }, dec := some false }], r0] (by kernel_rfl) (P1 (ci_isName hr1)<|P2 (r1 = false) (eqF h2)<|P0))
theorem ci_terrainIndex_1 {a0 : Gi_Terrain} {a1 : ByteArray} {r : Bool} (H : Di_terrainIndex_1 a0 a1 = some r) : Ct X.P X.gl 224 [gi_Terrain a0, .fptr 1 [.agg [.str a1]] 0 0] [] (RB r) [] :=
 Ct.of func224 (c := bdy f224) (by kernel_rfl) (by kernel_rfl) <|
 eW RB (fun _ => []) H<|gE func224 [r0, r0] (by kernel_rfl) P0
noncomputable def Kslices_IndexFunc_i_Terrain_i_terrainIndex_1 : Sslices_IndexFunc_i_Terrain_i_terrainIndex_1 → List Item
 | .h1 .. => nav 300 2 [] [.code (bdy f223)]
def Zslices_IndexFunc_i_Terrain_i_terrainIndex_1 : Sslices_IndexFunc_i_Terrain_i_terrainIndex_1 → St
 | .h1 s0 f1 t2 t3 => ⟨sts 19 [(0, sl 5 gi_Terrain s0), (1, .fn 224 [.fptr 1 [.agg [.str f1]] 0 0]), (7, I t2), (8, I t3)], []⟩
abbrev Qslices_IndexFunc_i_Terrain_i_terrainIndex_1 := Nx X 223 0 Kslices_IndexFunc_i_Terrain_i_terrainIndex_1 Zslices_IndexFunc_i_Terrain_i_terrainIndex_1 RI (fun _ => [])
theorem nslices_IndexFunc_i_Terrain_i_terrainIndex_1 : ∀ s o, Bslices_IndexFunc_i_Terrain_i_terrainIndex_1 s = some o → Qslices_IndexFunc_i_Terrain_i_terrainIndex_1 (Kslices_IndexFunc_i_Terrain_i_terrainIndex_1 s) (Zslices_IndexFunc_i_Terrain_i_terrainIndex_1 s) o
 | .h1 s0 f1 t2 t3, o, H =>
  eIf H (fun h1 H =>
  eCk H fun h2 H =>
  eBind H fun x3 hx3 H =>
  eBind H fun r4 hr4 H =>
  gN [rg [hT 0], r0] (by kernel_rfl) (P2 ((decide (t3 < t2)) = true) (decide_eq_true h1)<|P0) <|
  eIf H (fun h5 H =>
  eN H<|gE func223 [rg [hE 4 (gi_Terrain x3), { i := 5, call := some { cl := true, auto := true, ins := [], res := (RB r4), G' := [] }, dec := some true }], r0] (by kernel_rfl) (P1 h2<|P1 (int_lt_of_at h2 hx3)<|P1 (at_map gi_Terrain hx3)<|P1 (ci_terrainIndex_1 hr4)<|P2 (r4 = true) (h5)<|P0))
  (fun h5 H =>
  eN H fun r hn => gO [rg [hE 4 (gi_Terrain x3), { i := 5, call := some { cl := true, auto := true, ins := [], res := (RB r4), G' := [] }, dec := some false }], r0, .canon [] [0, 1, 7, 8]] (by kernel_rfl) (P1 h2<|P1 (int_lt_of_at h2 hx3)<|P1 (at_map gi_Terrain hx3)<|P1 (ci_terrainIndex_1 hr4)<|P2 (r4 = false) (eqF h5)<|P0) hn))
  (fun h1 H =>
  eN H<|gE func223 [rg [hF 0], r0] (by kernel_rfl) (P2 ((decide (t3 < t2)) = false) (decide_eq_false h1)<|P0))
theorem wslices_IndexFunc_i_Terrain_i_terrainIndex_1 : ∀ s r, loop Bslices_IndexFunc_i_Terrain_i_terrainIndex_1 s = some r → Wc X 223 0 (Kslices_IndexFunc_i_Terrain_i_terrainIndex_1 s) (Zslices_IndexFunc_i_Terrain_i_terrainIndex_1 s) (RI r) ((fun _ => []) r) := Nx.all (nslices_IndexFunc_i_Terrain_i_terrainIndex_1)
theorem cslices_IndexFunc_i_Terrain_i_terrainIndex_1 {a0 : (List Gi_Terrain)} {a100 : ByteArray} {r : Int} (H : Dslices_IndexFunc_i_Terrain_i_terrainIndex_1 a0 a100 = some r) : Ct X.P X.gl 223 [sl 5 gi_Terrain a0, .fn 224 [.fptr 1 [.agg [.str a100]] 0 0]] [] (RI r) [] :=
 Ct.of func223 (c := bdy f223) (by kernel_rfl) (by kernel_rfl) <|
 gO [r0, r0, .canon [] [0, 1, 7, 8]] (by kernel_rfl) P0 (wslices_IndexFunc_i_Terrain_i_terrainIndex_1 _ _ H)
theorem ci_terrainIndex {a0 : (List Gi_Terrain)} {a1 : ByteArray} {r : Int} (H : Di_terrainIndex a0 a1 = some r) : Ct X.P X.gl 199 [sl 5 gi_Terrain a0, .str a1] [] (RI r) [] :=
 Ct.of func199 (c := bdy f199) (by kernel_rfl) (by kernel_rfl) <|
 eBind H fun r1 hr1 H =>
 eW RI (fun _ => []) H<|gE func199 [r0, rg [hC 2 false [] (RI r1) []]] (by kernel_rfl) (P1 (cslices_IndexFunc_i_Terrain_i_terrainIndex_1 hr1)<|P0)
theorem ci_goodKind {a0 : Gi_Kind} {r : Bool} (H : Di_goodKind a0 = some r) : Ct X.P X.gl 200 [gi_Kind a0] [] (RB r) [] :=
 Ct.of func200 (c := bdy f200) (by kernel_rfl) (by kernel_rfl) <|
 eBind H fun r1 hr1 H =>
 gS [r0] (by kernel_rfl) P0 <|
 eIf H (fun h2 H =>
 eBind H fun r3 hr3 H =>
 eIf H (fun h4 H =>
 eBind H fun r5 hr5 H =>
 eIf H (fun h6 H =>
 eBind H fun r7 hr7 H =>
 eIf H (fun h8 H =>
 eBind H fun r9 hr9 H =>
 eW RB (fun _ => []) H<|gE func200 [rg [{ i := 2, call := some { cl := true, auto := true, ins := [], res := (RB r1), G' := [] }, dec := some true }, { i := 6, call := some { cl := true, auto := true, ins := [], res := (RB r3), G' := [] }, dec := some true }, { i := 11, call := some { cl := true, auto := true, ins := [], res := (RB r5), G' := [] }, dec := some true }, { i := 16, call := some { cl := true, auto := true, ins := [], res := (RB r7), G' := [] }, dec := some true }, hC 21 true [] (RB r9) []]] (by kernel_rfl) (P1 (ci_isName hr1)<|P2 (r1 = true) (h2)<|P1 (ci_inRange hr3)<|P2 (r3 = true) (h4)<|P1 (ci_inRange hr5)<|P2 (r5 = true) (h6)<|P1 (ci_inRange hr7)<|P2 (r7 = true) (h8)<|P1 (ci_inRange hr9)<|P0))
 (fun h8 H =>
 eW RB (fun _ => []) H<|gE func200 [rg [{ i := 2, call := some { cl := true, auto := true, ins := [], res := (RB r1), G' := [] }, dec := some true }, { i := 6, call := some { cl := true, auto := true, ins := [], res := (RB r3), G' := [] }, dec := some true }, { i := 11, call := some { cl := true, auto := true, ins := [], res := (RB r5), G' := [] }, dec := some true }, { i := 16, call := some { cl := true, auto := true, ins := [], res := (RB r7), G' := [] }, dec := some false }]] (by kernel_rfl) (P1 (ci_isName hr1)<|P2 (r1 = true) (h2)<|P1 (ci_inRange hr3)<|P2 (r3 = true) (h4)<|P1 (ci_inRange hr5)<|P2 (r5 = true) (h6)<|P1 (ci_inRange hr7)<|P2 (r7 = false) (eqF h8)<|P0)))
 (fun h6 H =>
 eW RB (fun _ => []) H<|gE func200 [rg [{ i := 2, call := some { cl := true, auto := true, ins := [], res := (RB r1), G' := [] }, dec := some true }, { i := 6, call := some { cl := true, auto := true, ins := [], res := (RB r3), G' := [] }, dec := some true }, { i := 11, call := some { cl := true, auto := true, ins := [], res := (RB r5), G' := [] }, dec := some false }]] (by kernel_rfl) (P1 (ci_isName hr1)<|P2 (r1 = true) (h2)<|P1 (ci_inRange hr3)<|P2 (r3 = true) (h4)<|P1 (ci_inRange hr5)<|P2 (r5 = false) (eqF h6)<|P0)))
 (fun h4 H =>
 eW RB (fun _ => []) H<|gE func200 [rg [{ i := 2, call := some { cl := true, auto := true, ins := [], res := (RB r1), G' := [] }, dec := some true }, { i := 6, call := some { cl := true, auto := true, ins := [], res := (RB r3), G' := [] }, dec := some false }]] (by kernel_rfl) (P1 (ci_isName hr1)<|P2 (r1 = true) (h2)<|P1 (ci_inRange hr3)<|P2 (r3 = false) (eqF h4)<|P0)))
 (fun h2 H =>
 eW RB (fun _ => []) H<|gE func200 [rg [{ i := 2, call := some { cl := true, auto := true, ins := [], res := (RB r1), G' := [] }, dec := some false }]] (by kernel_rfl) (P1 (ci_isName hr1)<|P2 (r1 = false) (eqF h2)<|P0))
theorem ci_kindIndex_1 {a0 : Gi_Kind} {a1 : ByteArray} {r : Bool} (H : Di_kindIndex_1 a0 a1 = some r) : Ct X.P X.gl 226 [gi_Kind a0, .fptr 1 [.agg [.str a1]] 0 0] [] (RB r) [] :=
 Ct.of func226 (c := bdy f226) (by kernel_rfl) (by kernel_rfl) <|
 eW RB (fun _ => []) H<|gE func226 [r0, r0] (by kernel_rfl) P0
noncomputable def Kslices_IndexFunc_i_Kind_i_kindIndex_1 : Sslices_IndexFunc_i_Kind_i_kindIndex_1 → List Item
 | .h1 .. => nav 300 2 [] [.code (bdy f225)]
def Zslices_IndexFunc_i_Kind_i_kindIndex_1 : Sslices_IndexFunc_i_Kind_i_kindIndex_1 → St
 | .h1 s0 f1 t2 t3 => ⟨sts 19 [(0, sl 6 gi_Kind s0), (1, .fn 226 [.fptr 1 [.agg [.str f1]] 0 0]), (7, I t2), (8, I t3)], []⟩
abbrev Qslices_IndexFunc_i_Kind_i_kindIndex_1 := Nx X 225 0 Kslices_IndexFunc_i_Kind_i_kindIndex_1 Zslices_IndexFunc_i_Kind_i_kindIndex_1 RI (fun _ => [])
theorem nslices_IndexFunc_i_Kind_i_kindIndex_1 : ∀ s o, Bslices_IndexFunc_i_Kind_i_kindIndex_1 s = some o → Qslices_IndexFunc_i_Kind_i_kindIndex_1 (Kslices_IndexFunc_i_Kind_i_kindIndex_1 s) (Zslices_IndexFunc_i_Kind_i_kindIndex_1 s) o
 | .h1 s0 f1 t2 t3, o, H =>
  eIf H (fun h1 H =>
  eCk H fun h2 H =>
  eBind H fun x3 hx3 H =>
  eBind H fun r4 hr4 H =>
  gN [rg [hT 0], r0] (by kernel_rfl) (P2 ((decide (t3 < t2)) = true) (decide_eq_true h1)<|P0) <|
  eIf H (fun h5 H =>
  eN H<|gE func225 [rg [hE 4 (gi_Kind x3), { i := 5, call := some { cl := true, auto := true, ins := [], res := (RB r4), G' := [] }, dec := some true }], r0] (by kernel_rfl) (P1 h2<|P1 (int_lt_of_at h2 hx3)<|P1 (at_map gi_Kind hx3)<|P1 (ci_kindIndex_1 hr4)<|P2 (r4 = true) (h5)<|P0))
  (fun h5 H =>
  eN H fun r hn => gO [rg [hE 4 (gi_Kind x3), { i := 5, call := some { cl := true, auto := true, ins := [], res := (RB r4), G' := [] }, dec := some false }], r0, .canon [] [0, 1, 7, 8]] (by kernel_rfl) (P1 h2<|P1 (int_lt_of_at h2 hx3)<|P1 (at_map gi_Kind hx3)<|P1 (ci_kindIndex_1 hr4)<|P2 (r4 = false) (eqF h5)<|P0) hn))
  (fun h1 H =>
  eN H<|gE func225 [rg [hF 0], r0] (by kernel_rfl) (P2 ((decide (t3 < t2)) = false) (decide_eq_false h1)<|P0))
theorem wslices_IndexFunc_i_Kind_i_kindIndex_1 : ∀ s r, loop Bslices_IndexFunc_i_Kind_i_kindIndex_1 s = some r → Wc X 225 0 (Kslices_IndexFunc_i_Kind_i_kindIndex_1 s) (Zslices_IndexFunc_i_Kind_i_kindIndex_1 s) (RI r) ((fun _ => []) r) := Nx.all (nslices_IndexFunc_i_Kind_i_kindIndex_1)
theorem cslices_IndexFunc_i_Kind_i_kindIndex_1 {a0 : (List Gi_Kind)} {a100 : ByteArray} {r : Int} (H : Dslices_IndexFunc_i_Kind_i_kindIndex_1 a0 a100 = some r) : Ct X.P X.gl 225 [sl 6 gi_Kind a0, .fn 226 [.fptr 1 [.agg [.str a100]] 0 0]] [] (RI r) [] :=
 Ct.of func225 (c := bdy f225) (by kernel_rfl) (by kernel_rfl) <|
 gO [r0, r0, .canon [] [0, 1, 7, 8]] (by kernel_rfl) P0 (wslices_IndexFunc_i_Kind_i_kindIndex_1 _ _ H)
theorem ci_kindIndex {a0 : (List Gi_Kind)} {a1 : ByteArray} {r : Int} (H : Di_kindIndex a0 a1 = some r) : Ct X.P X.gl 201 [sl 6 gi_Kind a0, .str a1] [] (RI r) [] :=
 Ct.of func201 (c := bdy f201) (by kernel_rfl) (by kernel_rfl) <|
 eBind H fun r1 hr1 H =>
 eW RI (fun _ => []) H<|gE func201 [r0, rg [hC 2 false [] (RI r1) []]] (by kernel_rfl) (P1 (cslices_IndexFunc_i_Kind_i_kindIndex_1 hr1)<|P0)
noncomputable def Ki_IsRules : Si_IsRules → List Item
 | .h1 .. => nav 300 3 [false] [.code (bdy f165)]
 | .h2 .. => nav 300 5 [false, false] [.code (bdy f165)]
def Zi_IsRules : Si_IsRules → St
 | .h1 t0 t1 t2 b3 => ⟨sts 87 [(1, .ptr 0 7 0 0), (20, sl 5 gi_Terrain t0), (21, I t1), (22, I t2)], [some ⟨false, true, 7, 1, [gi_Rules b3]⟩]⟩
 | .h2 t0 t1 t2 b3 => ⟨sts 87 [(1, .ptr 0 7 0 0), (44, sl 6 gi_Kind t0), (45, I t1), (46, I t2)], [some ⟨false, true, 7, 1, [gi_Rules b3]⟩]⟩
abbrev Qi_IsRules := Nx X 165 0 Ki_IsRules Zi_IsRules RB (fun _ => [])
theorem ni_IsRules : ∀ s o, Bi_IsRules s = some o → Qi_IsRules (Ki_IsRules s) (Zi_IsRules s) o
 | .h1 t0 t1 t2 b3, o, H =>
  eIf H (fun h1 H =>
  eCk H fun h2 H =>
  eBind H fun x3 hx3 H =>
  eBind H fun r4 hr4 H =>
  gN [rg [hT 0], rg [hE 2 (gi_Terrain x3)]] (by kernel_rfl) (P2 ((decide (t2 < t1)) = true) (decide_eq_true h1)<|P1 h2<|P1 (int_lt_of_at h2 hx3)<|P1 (at_map gi_Terrain hx3)<|P0) <|
  eIf H (fun h5 H =>
  eBind H fun r6 hr6 H =>
  eIf H (fun h7 H =>
  eN H fun r hn => gO [rg [{ i := 4, call := some { cl := true, auto := true, ins := [], res := (RB r4), G' := [] }, dec := some true }, hC 11 true [] (RI r6) [], hF 13], r0, .canon [0] [1, 20, 21, 22]] (by kernel_rfl) (P1 (ci_goodTerrain hr4)<|P2 (r4 = true) (h5)<|P1 (ci_terrainIndex hr6)<|P2 (((r6 : Int) != t2) = false) (bneF h7)<|P0) hn)
  (fun h7 H =>
  eN H<|gE func165 [rg [{ i := 4, call := some { cl := true, auto := true, ins := [], res := (RB r4), G' := [] }, dec := some true }, hC 11 true [] (RI r6) [], hT 13], r0] (by kernel_rfl) (P1 (ci_goodTerrain hr4)<|P2 (r4 = true) (h5)<|P1 (ci_terrainIndex hr6)<|P2 (((r6 : Int) != t2) = true) (bneT h7)<|P0)))
  (fun h5 H =>
  eN H<|gE func165 [rg [{ i := 4, call := some { cl := true, auto := true, ins := [], res := (RB r4), G' := [] }, dec := some false }], r0] (by kernel_rfl) (P1 (ci_goodTerrain hr4)<|P2 (r4 = false) (eqF h5)<|P0)))
  (fun h1 H =>
  eN H fun r hn => gO [rg [hF 0], r0, .canon [0] [1, 44, 45, 46]] (by kernel_rfl) (P2 ((decide (t2 < t1)) = false) (decide_eq_false h1)<|P0) hn)
 | .h2 t0 t1 t2 b3, o, H =>
  eIf H (fun h1 H =>
  eCk H fun h2 H =>
  eBind H fun x3 hx3 H =>
  eBind H fun r4 hr4 H =>
  gN [rg [hT 0], rg [hE 2 (gi_Kind x3)]] (by kernel_rfl) (P2 ((decide (t2 < t1)) = true) (decide_eq_true h1)<|P1 h2<|P1 (int_lt_of_at h2 hx3)<|P1 (at_map gi_Kind hx3)<|P0) <|
  eIf H (fun h5 H =>
  eBind H fun r6 hr6 H =>
  eIf H (fun h7 H =>
  eN H fun r hn => gO [rg [{ i := 1, call := some { cl := true, auto := true, ins := [], res := (RB r4), G' := [] }, dec := some true }, hC 8 true [] (RI r6) [], hF 10], r0, .canon [0] [1, 44, 45, 46]] (by kernel_rfl) (P1 (ci_goodKind hr4)<|P2 (r4 = true) (h5)<|P1 (ci_kindIndex hr6)<|P2 (((r6 : Int) != t2) = false) (bneF h7)<|P0) hn)
  (fun h7 H =>
  eN H<|gE func165 [rg [{ i := 1, call := some { cl := true, auto := true, ins := [], res := (RB r4), G' := [] }, dec := some true }, hC 8 true [] (RI r6) [], hT 10], r0] (by kernel_rfl) (P1 (ci_goodKind hr4)<|P2 (r4 = true) (h5)<|P1 (ci_kindIndex hr6)<|P2 (((r6 : Int) != t2) = true) (bneT h7)<|P0)))
  (fun h5 H =>
  eN H<|gE func165 [rg [{ i := 1, call := some { cl := true, auto := true, ins := [], res := (RB r4), G' := [] }, dec := some false }], r0] (by kernel_rfl) (P1 (ci_goodKind hr4)<|P2 (r4 = false) (eqF h5)<|P0)))
  (fun h1 H =>
  eBind H fun r2 hr2 H =>
  gN [rg [hF 0]] (by kernel_rfl) (P2 ((decide (t2 < t1)) = false) (decide_eq_false h1)<|P0) <|
  eIf H (fun h3 H =>
  eBind H fun r4 hr4 H =>
  eIf H (fun h5 H =>
  eBind H fun r6 hr6 H =>
  eIf H (fun h7 H =>
  eBind H fun r8 hr8 H =>
  eIf H (fun h9 H =>
  eBind H fun r10 hr10 H =>
  eN H<|gE func165 [rg [{ i := 2, call := some { cl := true, auto := true, ins := [], res := (RB r2), G' := [] }, dec := some true }, { i := 6, call := some { cl := true, auto := true, ins := [], res := (RB r4), G' := [] }, dec := some true }, { i := 11, call := some { cl := true, auto := true, ins := [], res := (RB r6), G' := [] }, dec := some true }, { i := 16, call := some { cl := true, auto := true, ins := [], res := (RB r8), G' := [] }, dec := some true }, hC 21 true [] (RB r10) []]] (by kernel_rfl) (P1 (ci_inRange hr2)<|P2 (r2 = true) (h3)<|P1 (ci_inRange hr4)<|P2 (r4 = true) (h5)<|P1 (ci_inRange hr6)<|P2 (r6 = true) (h7)<|P1 (ci_inRange hr8)<|P2 (r8 = true) (h9)<|P1 (ci_inRange hr10)<|P0))
  (fun h9 H =>
  eN H<|gE func165 [rg [{ i := 2, call := some { cl := true, auto := true, ins := [], res := (RB r2), G' := [] }, dec := some true }, { i := 6, call := some { cl := true, auto := true, ins := [], res := (RB r4), G' := [] }, dec := some true }, { i := 11, call := some { cl := true, auto := true, ins := [], res := (RB r6), G' := [] }, dec := some true }, { i := 16, call := some { cl := true, auto := true, ins := [], res := (RB r8), G' := [] }, dec := some false }]] (by kernel_rfl) (P1 (ci_inRange hr2)<|P2 (r2 = true) (h3)<|P1 (ci_inRange hr4)<|P2 (r4 = true) (h5)<|P1 (ci_inRange hr6)<|P2 (r6 = true) (h7)<|P1 (ci_inRange hr8)<|P2 (r8 = false) (eqF h9)<|P0)))
  (fun h7 H =>
  eN H<|gE func165 [rg [{ i := 2, call := some { cl := true, auto := true, ins := [], res := (RB r2), G' := [] }, dec := some true }, { i := 6, call := some { cl := true, auto := true, ins := [], res := (RB r4), G' := [] }, dec := some true }, { i := 11, call := some { cl := true, auto := true, ins := [], res := (RB r6), G' := [] }, dec := some false }]] (by kernel_rfl) (P1 (ci_inRange hr2)<|P2 (r2 = true) (h3)<|P1 (ci_inRange hr4)<|P2 (r4 = true) (h5)<|P1 (ci_inRange hr6)<|P2 (r6 = false) (eqF h7)<|P0)))
  (fun h5 H =>
  eN H<|gE func165 [rg [{ i := 2, call := some { cl := true, auto := true, ins := [], res := (RB r2), G' := [] }, dec := some true }, { i := 6, call := some { cl := true, auto := true, ins := [], res := (RB r4), G' := [] }, dec := some false }]] (by kernel_rfl) (P1 (ci_inRange hr2)<|P2 (r2 = true) (h3)<|P1 (ci_inRange hr4)<|P2 (r4 = false) (eqF h5)<|P0)))
  (fun h3 H =>
  eN H<|gE func165 [rg [{ i := 2, call := some { cl := true, auto := true, ins := [], res := (RB r2), G' := [] }, dec := some false }]] (by kernel_rfl) (P1 (ci_inRange hr2)<|P2 (r2 = false) (eqF h3)<|P0)))
theorem wi_IsRules : ∀ s r, loop Bi_IsRules s = some r → Wc X 165 0 (Ki_IsRules s) (Zi_IsRules s) (RB r) ((fun _ => []) r) := Nx.all (ni_IsRules)
theorem ci_IsRules {a0 : Gi_Rules} {r : Bool} (H : Di_IsRules a0 = some r) : Ct X.P X.gl 165 [gi_Rules a0] [] (RB r) [] :=
 Ct.of func165 (c := bdy f165) (by kernel_rfl) (by kernel_rfl) <|
 eBind H fun r1 hr1 H =>
 gS [r0] (by kernel_rfl) P0 <|
 eIf H (fun h2 H =>
 eBind H fun r3 hr3 H =>
 eIf H (fun h4 H =>
 gO [rg [{ i := 3, call := some { cl := true, auto := true, ins := [], res := (RB r1), G' := [] }, dec := some true }, { i := 9, call := some { cl := true, auto := true, ins := [], res := (RB r3), G' := [] }, dec := some true }], r0, .canon [0] [1, 20, 21, 22]] (by kernel_rfl) (P1 (ci_inRange hr1)<|P2 (r1 = true) (h2)<|P1 (ci_inRange hr3)<|P2 (r3 = true) (h4)<|P0) (wi_IsRules _ _ H))
 (fun h4 H =>
 eW RB (fun _ => []) H<|gE func165 [rg [{ i := 3, call := some { cl := true, auto := true, ins := [], res := (RB r1), G' := [] }, dec := some true }, { i := 9, call := some { cl := true, auto := true, ins := [], res := (RB r3), G' := [] }, dec := some false }], r0] (by kernel_rfl) (P1 (ci_inRange hr1)<|P2 (r1 = true) (h2)<|P1 (ci_inRange hr3)<|P2 (r3 = false) (eqF h4)<|P0)))
 (fun h2 H =>
 eW RB (fun _ => []) H<|gE func165 [rg [{ i := 3, call := some { cl := true, auto := true, ins := [], res := (RB r1), G' := [] }, dec := some false }], r0] (by kernel_rfl) (P1 (ci_inRange hr1)<|P2 (r1 = false) (eqF h2)<|P0))
theorem ci_isIndex {a0 : Int} {a1 : Int} {r : Bool} (H : Di_isIndex a0 a1 = some r) : Ct X.P X.gl 69 [I a0, I a1] [] (RB r) [] :=
 Ct.of func69 (c := bdy f69) (by kernel_rfl) (by kernel_rfl) <|
 eBind H fun r1 hr1 H =>
 eW RB (fun _ => []) H<|gE func69 [r0, rg [hC 3 true [] (RB r1) []]] (by kernel_rfl) (P1 (ci_inRange hr1)<|P0)
noncomputable def Ki_increasing : Si_increasing → List Item
 | .h1 .. => nav 300 2 [] [.code (bdy f172)]
def Zi_increasing : Si_increasing → St
 | .h1 list0 i1 => ⟨sts 20 [(0, sl 1 I list0), (3, I i1)], []⟩
abbrev Qi_increasing := Nx X 172 0 Ki_increasing Zi_increasing RB (fun _ => [])
theorem ni_increasing : ∀ s o, Bi_increasing s = some o → Qi_increasing (Ki_increasing s) (Zi_increasing s) o
 | .h1 list0 i1, o, H =>
  eIf H (fun h1 H =>
  eCk H fun h2 H =>
  eBind H fun x3 hx3 H =>
  eCk H fun h4 H =>
  eBind H fun x5 hx5 H =>
  gN [rg [hT 3]] (by kernel_rfl) (P2 ((decide (i1 < ((list0.length : Nat) : Int))) = true) (decide_eq_true h1)<|P0) <|
  eIf H (fun h6 H =>
  eN H<|gE func172 [rg [hE 4 (I x3), hE 8 (I x5), hT 9], r0] (by kernel_rfl) (P1 h2<|P1 (int_lt_of_at h2 hx3)<|P1 (at_map I hx3)<|P1 h4<|P1 (int_lt_of_at h4 hx5)<|P1 (at_map I hx5)<|P2 ((decide (x3 ≥ x5)) = true) (decide_eq_true h6)<|P0))
  (fun h6 H =>
  eN H fun r hn => gO [rg [hE 4 (I x3), hE 8 (I x5), hF 9], r0, .canon [] [0, 3]] (by kernel_rfl) (P1 h2<|P1 (int_lt_of_at h2 hx3)<|P1 (at_map I hx3)<|P1 h4<|P1 (int_lt_of_at h4 hx5)<|P1 (at_map I hx5)<|P2 ((decide (x3 ≥ x5)) = false) (decide_eq_false h6)<|P0) hn))
  (fun h1 H =>
  eN H<|gE func172 [rg [hF 3], r0] (by kernel_rfl) (P2 ((decide (i1 < ((list0.length : Nat) : Int))) = false) (decide_eq_false h1)<|P0))
theorem wi_increasing : ∀ s r, loop Bi_increasing s = some r → Wc X 172 0 (Ki_increasing s) (Zi_increasing s) (RB r) ((fun _ => []) r) := Nx.all (ni_increasing)
theorem ci_increasing {a0 : (List Int)} {r : Bool} (H : Di_increasing a0 = some r) : Ct X.P X.gl 172 [sl 1 I a0] [] (RB r) [] :=
 Ct.of func172 (c := bdy f172) (by kernel_rfl) (by kernel_rfl) <|
 gO [r0, r0, .canon [] [0, 3]] (by kernel_rfl) P0 (wi_increasing _ _ H)
def Ri_hexOf (r : Gi_Hex) : List D := [.agg [I r.Q, I r.R]]
theorem ci_hexOf {a0 : Gi_Map} {a1 : Int} {r : Gi_Hex} (H : Di_hexOf a0 a1 = some r) : Ct X.P X.gl 206 [gi_Map a0, I a1] [] (Ri_hexOf r) [] :=
 Ct.of func206 (c := bdy f206) (by kernel_rfl) (by kernel_rfl) <|
 eCk H fun h1 H =>
 eCk H fun h2 H =>
 eW Ri_hexOf (fun _ => []) H<|gE func206 [r0, r0] (by kernel_rfl) (P2 (¬ (a0.Width : Int) = 0) h1<|P2 (¬ (a0.Width : Int) = 0) h2<|P0)
def Ri_stepBy (r : Gi_Hex) : List D := [.agg [I r.Q, I r.R]]
theorem ci_stepBy {a0 : Gi_Hex} {a1 : Int} {a2 : Int} {r : Gi_Hex} (H : Di_stepBy a0 a1 a2 = some r) : Ct X.P X.gl 205 [gi_Hex a0, I a1, I a2] [] (Ri_stepBy r) [] :=
 Ct.of func205 (c := bdy f205) (by kernel_rfl) (by kernel_rfl) <|
 eCk H fun h1 H =>
 eBind H fun x2 hx2 H =>
 eCk H fun h3 H =>
 eBind H fun x4 hx4 H =>
 eW Ri_stepBy (fun _ => []) H<|gE func205 [r0, rg [{ i := 6, xs := [I x2.Q] }, { i := 15, xs := [I x4.R] }]] (by kernel_rfl) (P1 h1<|P2 (a1 < ((6 : Nat) : Int)) (int_lt_of_at h1 hx2)<|P2 (getCells gc0 0 (0 + Int.toNat a1 * 2 + 0) 1 = some [I x2.Q]) (flat_at (enc := gi_Hex) (w := 2) (off := 0) (fun _ => rfl) hx2 (by omega) (by decide))<|P1 h3<|P2 (a1 < ((6 : Nat) : Int)) (int_lt_of_at h3 hx4)<|P2 (getCells gc0 0 (0 + Int.toNat a1 * 2 + 1) 1 = some [I x4.R]) (flat_at (enc := gi_Hex) (w := 2) (off := 1) (fun _ => rfl) hx4 (by omega) (by decide))<|P0)
theorem ci_indexOf {a0 : Gi_Map} {a1 : Gi_Hex} {r : Int} (H : Di_indexOf a0 a1 = some r) : Ct X.P X.gl 204 [gi_Map a0, gi_Hex a1] [] (RI r) [] :=
 Ct.of func204 (c := bdy f204) (by kernel_rfl) (by kernel_rfl) <|
 eBind H fun r1 hr1 H =>
 gS [r0] (by kernel_rfl) P0 <|
 eIf H (fun h2 H =>
 eBind H fun r3 hr3 H =>
 eIf H (fun h4 H =>
 eW RI (fun _ => []) H<|gE func204 [rg [{ i := 4, call := some { cl := true, auto := true, ins := [], res := (RB r1), G' := [] }, dec := some true }, { i := 11, call := some { cl := true, auto := true, ins := [], res := (RB r3), G' := [] }, dec := some true }], r0] (by kernel_rfl) (P1 (ci_isIndex hr1)<|P2 (r1 = true) (h2)<|P1 (ci_isIndex hr3)<|P2 (r3 = true) (h4)<|P0))
 (fun h4 H =>
 eW RI (fun _ => []) H<|gE func204 [rg [{ i := 4, call := some { cl := true, auto := true, ins := [], res := (RB r1), G' := [] }, dec := some true }, { i := 11, call := some { cl := true, auto := true, ins := [], res := (RB r3), G' := [] }, dec := some false }], r0] (by kernel_rfl) (P1 (ci_isIndex hr1)<|P2 (r1 = true) (h2)<|P1 (ci_isIndex hr3)<|P2 (r3 = false) (eqF h4)<|P0)))
 (fun h2 H =>
 eW RI (fun _ => []) H<|gE func204 [rg [{ i := 4, call := some { cl := true, auto := true, ins := [], res := (RB r1), G' := [] }, dec := some false }], r0] (by kernel_rfl) (P1 (ci_isIndex hr1)<|P2 (r1 = false) (eqF h2)<|P0))
theorem ci_nextTo {a0 : Gi_Map} {a1 : Int} {a2 : Int} {r : Int} (H : Di_nextTo a0 a1 a2 = some r) : Ct X.P X.gl 174 [gi_Map a0, I a1, I a2] [] (RI r) [] :=
 Ct.of func174 (c := bdy f174) (by kernel_rfl) (by kernel_rfl) <|
 eBind H fun r1 hr1 H =>
 eBind H fun r2 hr2 H =>
 eBind H fun r3 hr3 H =>
 eW RI (fun _ => []) H<|gE func174 [r0, rg [hC 3 true [] (Ri_hexOf r1) [], hC 5 true [] (Ri_stepBy r2) [], hC 6 true [] (RI r3) []]] (by kernel_rfl) (P1 (ci_hexOf hr1)<|P1 (ci_stepBy hr2)<|P1 (ci_indexOf hr3)<|P0)
theorem ci_isEdge {a0 : Gi_Map} {a1 : Int} {r : Bool} (H : Di_isEdge a0 a1 = some r) : Ct X.P X.gl 202 [gi_Map a0, I a1] [] (RB r) [] :=
 Ct.of func202 (c := bdy f202) (by kernel_rfl) (by kernel_rfl) <|
 eBind H fun r1 hr1 H =>
 gS [r0] (by kernel_rfl) P0 <|
 eIf H (fun h2 H =>
 eBind H fun r3 hr3 H =>
 eW RB (fun _ => []) H<|gE func202 [rg [{ i := 8, call := some { cl := true, auto := true, ins := [], res := (RB r1), G' := [] }, dec := some true }, hC 15 true [] (RI r3) []]] (by kernel_rfl) (P1 (ci_inRange hr1)<|P2 (r1 = true) (h2)<|P2 (¬ (3 : Int) = 0) (by decide)<|P2 (¬ (3 : Int) = 0) (by decide)<|P1 (ci_nextTo hr3)<|P0))
 (fun h2 H =>
 eW RB (fun _ => []) H<|gE func202 [rg [{ i := 8, call := some { cl := true, auto := true, ins := [], res := (RB r1), G' := [] }, dec := some false }]] (by kernel_rfl) (P1 (ci_inRange hr1)<|P2 (r1 = false) (eqF h2)<|P0))
end Go.Proofs.YtdafkeddonfjkaaGreatDoor.Ab
