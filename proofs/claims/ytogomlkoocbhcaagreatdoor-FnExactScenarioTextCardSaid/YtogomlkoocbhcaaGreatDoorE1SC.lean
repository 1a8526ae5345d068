/- Part of the proof of FnExactScenarioTextCard: no condition of its own. -/
import Derived.Test.YtogomlkoocbhcaaGreatDoorAb5
import Derived.Test.YtogomlkoocbhcaaGreatDoorAb5
import Derived.Test.YtogomlkoocbhcaaGreatDoorChecked
import Derived.Test.YtogomlkoocbhcaaGreatDoorE1SD
set_option linter.unusedVariables false
set_option linter.unusedSimpArgs false
open Go Go.Proofs Go.Proofs.Tryz
namespace Go.Proofs.YtogomlkoocbhcaaGreatDoor.Ab
def T : Tab := [(3, ⟨(TK.int IntKind.i64), 1, 8, I 0⟩),
 (4, ⟨TK.bool, 1, 1, (D.bool false)⟩),
 (5, ⟨(TK.int IntKind.u8), 1, 1, .int .u8 0⟩),
 (9, ⟨TK.str, 1, 16, (D.str (ByteArray.mk (Array.mk [])))⟩),
 (22, ⟨(TK.slice 176), 1, 24, D.nil⟩),
 (23, ⟨(TK.slice 178), 1, 24, D.nil⟩),
 (25, ⟨(TK.strct [(FI.mk 0 1 false), (FI.mk 1 1 false), (FI.mk 2 1 false), (FI.mk 3 1 false), (FI.mk 4 1 false), (FI.mk 5 1 false), (FI.mk 6 1 false)] none), 7, 88, (D.agg [D.nil, D.nil, I 0, I 0, I 0, I 0, I 0])⟩),
 (26, ⟨(TK.slice 3), 1, 24, D.nil⟩),
 (28, ⟨(TK.strct [(FI.mk 0 1 false), (FI.mk 1 1 false), (FI.mk 2 1 false), (FI.mk 3 1 false), (FI.mk 4 1 false)] none), 5, 88, (D.agg [I 0, I 0, D.nil, D.nil, D.nil])⟩),
 (30, ⟨(TK.strct [(FI.mk 0 7 true), (FI.mk 7 5 true)] none), 12, 176, (D.agg [D.nil, D.nil, I 0, I 0, I 0, I 0, I 0, I 0, I 0, D.nil, D.nil, D.nil])⟩),
 (31, ⟨(TK.slice 144), 1, 24, D.nil⟩),
 (32, ⟨(TK.slice 26), 1, 24, D.nil⟩),
 (34, ⟨(TK.strct [(FI.mk 0 1 false), (FI.mk 1 1 false), (FI.mk 2 1 false)] none), 3, 56, (D.agg [D.nil, I 0, D.nil])⟩),
 (35, ⟨(TK.slice 146), 1, 24, D.nil⟩),
 (37, ⟨(TK.strct [(FI.mk 0 1 false), (FI.mk 1 1 false), (FI.mk 2 1 false)] none), 3, 40, (D.agg [I 0, I 0, D.nil])⟩),
 (38, ⟨(TK.slice 148), 1, 24, D.nil⟩),
 (40, ⟨(TK.strct [(FI.mk 0 1 false), (FI.mk 1 1 false), (FI.mk 2 1 false)] none), 3, 40, (D.agg [D.nil, I 0, I 0])⟩),
 (42, ⟨(TK.strct [(FI.mk 0 1 false), (FI.mk 1 12 true), (FI.mk 13 3 true), (FI.mk 16 3 true), (FI.mk 19 3 true), (FI.mk 22 1 false), (FI.mk 23 1 false)] none), 24, 376, (D.agg [(D.str (ByteArray.mk (Array.mk []))), D.nil, D.nil, I 0, I 0, I 0, I 0, I 0, I 0, I 0, D.nil, D.nil, D.nil, D.nil, I 0, D.nil, I 0, I 0, D.nil, D.nil, I 0, I 0, D.nil, D.nil])⟩),
 (46, ⟨(TK.slice 186), 1, 24, D.nil⟩),
 (47, ⟨(TK.slice 139), 1, 24, D.nil⟩),
 (49, ⟨(TK.strct [(FI.mk 0 1 false), (FI.mk 1 1 false), (FI.mk 2 1 false), (FI.mk 3 1 false), (FI.mk 4 1 false), (FI.mk 5 1 false), (FI.mk 6 1 false)] none), 7, 88, (D.agg [D.nil, D.nil, I 0, I 0, I 0, I 0, I 0])⟩),
 (50, ⟨(TK.strct [(FI.mk 0 1 false), (FI.mk 1 1 false), (FI.mk 2 1 false), (FI.mk 3 1 false), (FI.mk 4 1 false)] none), 5, 88, (D.agg [I 0, I 0, D.nil, D.nil, D.nil])⟩),
 (52, ⟨(TK.strct [(FI.mk 0 7 true), (FI.mk 7 5 true)] none), 12, 176, (D.agg [D.nil, D.nil, I 0, I 0, I 0, I 0, I 0, I 0, I 0, D.nil, D.nil, D.nil])⟩),
 (53, ⟨(TK.slice 137), 1, 24, D.nil⟩),
 (55, ⟨(TK.strct [(FI.mk 0 1 false), (FI.mk 1 1 false), (FI.mk 2 1 false)] none), 3, 56, (D.agg [D.nil, I 0, D.nil])⟩),
 (56, ⟨(TK.slice 88), 1, 24, D.nil⟩),
 (58, ⟨(TK.strct [(FI.mk 0 1 false), (FI.mk 1 1 false), (FI.mk 2 1 false)] none), 3, 40, (D.agg [I 0, I 0, D.nil])⟩),
 (59, ⟨(TK.slice 93), 1, 24, D.nil⟩),
 (61, ⟨(TK.strct [(FI.mk 0 1 false), (FI.mk 1 1 false), (FI.mk 2 1 false)] none), 3, 40, (D.agg [D.nil, I 0, I 0])⟩),
 (63, ⟨(TK.strct [(FI.mk 0 1 false), (FI.mk 1 12 true), (FI.mk 13 3 true), (FI.mk 16 3 true), (FI.mk 19 3 true), (FI.mk 22 1 false), (FI.mk 23 1 false)] none), 24, 376, (D.agg [(D.str (ByteArray.mk (Array.mk []))), D.nil, D.nil, I 0, I 0, I 0, I 0, I 0, I 0, I 0, D.nil, D.nil, D.nil, D.nil, I 0, D.nil, I 0, I 0, D.nil, D.nil, I 0, I 0, D.nil, D.nil])⟩),
 (88, ⟨(TK.strct [(FI.mk 0 1 false), (FI.mk 1 1 false), (FI.mk 2 1 false), (FI.mk 3 1 false)] (some [(LK.int IntKind.i64), (LK.int IntKind.i64), (LK.int IntKind.i64), (LK.int IntKind.i64)])), 4, 32, (D.agg [I 0, I 0, I 0, I 0])⟩),
 (93, ⟨(TK.strct [(FI.mk 0 1 false), (FI.mk 1 1 false)] (some [(LK.int IntKind.i64), (LK.int IntKind.i64)])), 2, 16, (D.agg [I 0, I 0])⟩),
 (137, ⟨(TK.strct [(FI.mk 0 1 false), (FI.mk 1 1 false)] (some [(LK.int IntKind.i64), (LK.int IntKind.i64)])), 2, 16, (D.agg [I 0, I 0])⟩),
 (139, ⟨(TK.strct [(FI.mk 0 1 false), (FI.mk 1 1 false), (FI.mk 2 1 false), (FI.mk 3 1 false), (FI.mk 4 1 false), (FI.mk 5 1 false)] (some [LK.str, (LK.int IntKind.i64), (LK.int IntKind.i64), (LK.int IntKind.i64), LK.bool, (LK.int IntKind.i64)])), 6, 56, (D.agg [(D.str (ByteArray.mk (Array.mk []))), I 0, I 0, I 0, (D.bool false), I 0])⟩),
 (140, ⟨(TK.slice 5), 1, 24, D.nil⟩),
 (144, ⟨(TK.strct [(FI.mk 0 1 false), (FI.mk 1 1 false)] (some [(LK.int IntKind.i64), (LK.int IntKind.i64)])), 2, 16, (D.agg [I 0, I 0])⟩),
 (146, ⟨(TK.strct [(FI.mk 0 1 false), (FI.mk 1 1 false), (FI.mk 2 1 false), (FI.mk 3 1 false)] (some [(LK.int IntKind.i64), (LK.int IntKind.i64), (LK.int IntKind.i64), (LK.int IntKind.i64)])), 4, 32, (D.agg [I 0, I 0, I 0, I 0])⟩),
 (148, ⟨(TK.strct [(FI.mk 0 1 false), (FI.mk 1 1 false)] (some [(LK.int IntKind.i64), (LK.int IntKind.i64)])), 2, 16, (D.agg [I 0, I 0])⟩),
 (150, ⟨(TK.slice 9), 1, 24, D.nil⟩),
 (163, ⟨(TK.strct [(FI.mk 0 1 false), (FI.mk 1 1 false)] (some [(LK.int IntKind.i64), (LK.int IntKind.i64)])), 2, 16, (D.agg [I 0, I 0])⟩),
 (176, ⟨(TK.strct [(FI.mk 0 1 false), (FI.mk 1 1 false), (FI.mk 2 1 false), (FI.mk 3 1 false), (FI.mk 4 1 false)] none), 5, 64, (D.agg [(D.str (ByteArray.mk (Array.mk []))), D.nil, I 0, I 0, (D.bool false)])⟩),
 (178, ⟨(TK.strct [(FI.mk 0 1 false), (FI.mk 1 1 false), (FI.mk 2 1 false), (FI.mk 3 1 false), (FI.mk 4 1 false), (FI.mk 5 1 false)] (some [LK.str, (LK.int IntKind.i64), (LK.int IntKind.i64), (LK.int IntKind.i64), LK.bool, (LK.int IntKind.i64)])), 6, 56, (D.agg [(D.str (ByteArray.mk (Array.mk []))), I 0, I 0, I 0, (D.bool false), I 0])⟩),
 (186, ⟨(TK.strct [(FI.mk 0 1 false), (FI.mk 1 1 false), (FI.mk 2 1 false), (FI.mk 3 1 false), (FI.mk 4 1 false)] none), 5, 64, (D.agg [(D.str (ByteArray.mk (Array.mk []))), D.nil, I 0, I 0, (D.bool false)])⟩),
 (191, ⟨(TK.slice 193), 1, 24, D.nil⟩),
 (193, ⟨(TK.arr 2 3), 2, 16, (D.agg [I 0, I 0])⟩),
 (196, ⟨(TK.arr 5 3), 5, 40, (D.agg [I 0, I 0, I 0, I 0, I 0])⟩),
 (197, ⟨(TK.arr 5 9), 5, 80, (D.agg [(D.str (ByteArray.mk (Array.mk []))), (D.str (ByteArray.mk (Array.mk []))), (D.str (ByteArray.mk (Array.mk []))), (D.str (ByteArray.mk (Array.mk []))), (D.str (ByteArray.mk (Array.mk [])))])⟩),
 (202, ⟨(TK.strct [(FI.mk 0 1 false), (FI.mk 1 1 false)] none), 2, 32, (D.agg [D.undef, D.nil])⟩),
 (205, ⟨TK.other, 1, 16, D.undef⟩),
 (225, ⟨(TK.int IntKind.u64), 1, 8, (D.int IntKind.u64 (Int.ofNat 0))⟩),
 (270, ⟨(TK.arr 6 163), 12, 96, (D.agg [I 0, I 0, I 0, I 0, I 0, I 0, I 0, I 0, I 0, I 0, I 0, I 0])⟩)]
noncomputable def X : Ctx := ⟨Go.Proofs.Tryz.prog, T, [(0, .fptr 5 gc100 0 0), (1, .fptr 12 gc0 0 0), (2, .fptr 20 gc102 0 0)]⟩
theorem T_ok : TabOK X.P X.T := ⟨by kernel_rfl, by kernel_rfl, by kernel_rfl, by kernel_rfl, by kernel_rfl, by kernel_rfl, by kernel_rfl, by kernel_rfl, by kernel_rfl, by kernel_rfl, by kernel_rfl, by kernel_rfl, by kernel_rfl, by kernel_rfl, by kernel_rfl, by kernel_rfl, by kernel_rfl, by kernel_rfl, by kernel_rfl, by kernel_rfl, by kernel_rfl, by kernel_rfl, by kernel_rfl, by kernel_rfl, by kernel_rfl, by kernel_rfl, by kernel_rfl, by kernel_rfl, by kernel_rfl, by kernel_rfl, by kernel_rfl, by kernel_rfl, by kernel_rfl, by kernel_rfl, by kernel_rfl, by kernel_rfl, by kernel_rfl, by kernel_rfl, by kernel_rfl, by kernel_rfl, by kernel_rfl, by kernel_rfl, by kernel_rfl, by kernel_rfl, by kernel_rfl, by kernel_rfl, by kernel_rfl, by kernel_rfl, by kernel_rfl, by kernel_rfl, by kernel_rfl, trivial⟩
theorem mixed : X.P.follows .mixedOrders = true := Go.Proofs.Tryz.checked.mixed
theorem gO {f : FuncId} {M : Nat} {k k' : List Item} {σ σ' : St} {res : List D} {G' : List Root} (cmds : List Cmd) {ps : List Prop} (h : run X M cmds k σ = some (ps, k', σ')) (hp : AllP ps) (hk : Wc X f M k' σ' res G') : Wc X f M k σ res G' := run_ok T_ok mixed h hp hk
theorem gE {f : FuncId} {M : Nat} {k : List Item} {σ : St} {res : List D} {G' : List Root} {fn : Func} (hf : X.P.funcs[f]? = some fn) (cmds : List Cmd) {ps : List Prop} (h : runFinC X M cmds k σ fn.results.toList res = some (ps, res, G')) (hp : AllP ps) : Wc X f M k σ res G' := runFinC_ok T_ok mixed hf h hp
theorem gS {f : FuncId} {M : Nat} {k : List Item} {σ : St} {res : List D} {G' : List Root} (cmds : List Cmd) {ps : List Prop} (h : runP X M cmds k σ = some ps) (hp : AllP ps) (hk : Wc X f M (runK X M cmds k σ) (runS X M cmds k σ) res G') : Wc X f M k σ res G' := seg_ok T_ok mixed cmds h hp hk
theorem gN {ς ρ : Type} {f : FuncId} {M : Nat} {K : ς → List Item} {Z : ς → St} {R : ρ → List D} {G : ρ → List Root} {k : List Item} {σ : St} {o : ς ⊕ ρ} (cmds : List Cmd) {ps : List Prop} (h : runP X M cmds k σ = some ps) (hp : AllP ps) (hk : Nx X f M K Z R G (runK X M cmds k σ) (runS X M cmds k σ) o) : Nx X f M K Z R G k σ o := segN_ok T_ok mixed cmds h hp hk
theorem ero_26 : ∀ x, ((ow 1 I) x).er = ((sl 1 I) x).er := fun x => er_ow (fun _ => rfl) _ x
theorem ero_186 : ∀ x, (goi_Terrain x).er = (gi_Terrain x).er := fun x => by simp [goi_Terrain, gi_Terrain, D.er, erL, er_ow (f := I) (g := I) (fun _ => rfl)]
theorem allOw_26 (l : List (List Int)) : AllOw (List.map (ow 1 I) l) := allOw_map (fun x c hc => by simp [ow, D.cells] at hc; rcases hc with rfl <;> rfl) l
theorem allOw_186 (l : List Gi_Terrain) : AllOw (List.map goi_Terrain l) := allOw_map (fun x c hc => by simp [goi_Terrain, gi_Terrain, D.cells] at hc; rcases hc with rfl | rfl | rfl | rfl | rfl <;> rfl) l
def lays_n156_ren : Go.Shelf.Ren := ⟨fun | 156 => 112 | 165 => 166 | 166 => 167 | 169 => 168 | 240 => 213 | 241 => 214 | 276 => 249 | 277 => 250 | n => n, fun | 31 => 150 | 9 => 9 | 3 => 3 | 4 => 4 | 0 => 0 | 20 => 20 | 72 => 202 | 76 => 206 | 70 => 200 | 37 => 140 | 75 => 205 | 127 => 242 | 164 => 266 | 5 => 5 | 80 => 208 | n => n, fun | n => n⟩
theorem lays_n156 : Go.Proofs.Lays.n156 Go.Proofs.Tryz.prog lays_n156_ren := {
 mixed := by kernel_rfl
 f156 := Go.Proofs.Tryz.func112.trans (congrArg some (by kernel_rfl))
 f165 := Go.Proofs.Tryz.func166.trans (congrArg some (by kernel_rfl))
 f166 := Go.Proofs.Tryz.func167.trans (congrArg some (by kernel_rfl))
 f169 := Go.Proofs.Tryz.func168.trans (congrArg some (by kernel_rfl))
 f240 := Go.Proofs.Tryz.func213.trans (congrArg some (by kernel_rfl))
 f241 := Go.Proofs.Tryz.func214.trans (congrArg some (by kernel_rfl))
 f276 := Go.Proofs.Tryz.func249.trans (congrArg some (by kernel_rfl))
 f277 := Go.Proofs.Tryz.func250.trans (congrArg some (by kernel_rfl))
 t0 := Go.Proofs.Tryz.underlying0
 a0 := Go.Proofs.Tryz.isAgg0
 z0 := Go.Proofs.Tryz.sizeOf0
 v0 := Go.Proofs.Tryz.zeroValue0
 t3 := Go.Proofs.Tryz.underlying3
 a3 := Go.Proofs.Tryz.isAgg3
 z3 := Go.Proofs.Tryz.sizeOf3
 v3 := Go.Proofs.Tryz.zeroValue3
 t4 := Go.Proofs.Tryz.underlying4
 a4 := Go.Proofs.Tryz.isAgg4
 z4 := Go.Proofs.Tryz.sizeOf4
 v4 := Go.Proofs.Tryz.zeroValue4
 t9 := Go.Proofs.Tryz.underlying9
 a9 := Go.Proofs.Tryz.isAgg9
 z9 := Go.Proofs.Tryz.sizeOf9
 v9 := Go.Proofs.Tryz.zeroValue9
 t20 := Go.Proofs.Tryz.underlying20
 a20 := Go.Proofs.Tryz.isAgg20
 z20 := Go.Proofs.Tryz.sizeOf20
 v20 := Go.Proofs.Tryz.zeroValue20
 t31 := Go.Proofs.Tryz.underlying150
 a31 := Go.Proofs.Tryz.isAgg150
 z31 := Go.Proofs.Tryz.sizeOf150
 v31 := Go.Proofs.Tryz.zeroValue150
 t37 := Go.Proofs.Tryz.underlying140
 a37 := Go.Proofs.Tryz.isAgg140
 z37 := Go.Proofs.Tryz.sizeOf140
 v37 := Go.Proofs.Tryz.zeroValue140
 t70 := Go.Proofs.Tryz.underlying200
 a70 := Go.Proofs.Tryz.isAgg200
 z70 := Go.Proofs.Tryz.sizeOf200
 v70 := Go.Proofs.Tryz.zeroValue200
 t72 := Go.Proofs.Tryz.underlying202
 a72 := Go.Proofs.Tryz.isAgg202
 z72 := Go.Proofs.Tryz.sizeOf202
 v72 := Go.Proofs.Tryz.zeroValue202
 t75 := Go.Proofs.Tryz.underlying205
 a75 := Go.Proofs.Tryz.isAgg205
 z75 := Go.Proofs.Tryz.sizeOf205
 v75 := Go.Proofs.Tryz.zeroValue205
 t76 := Go.Proofs.Tryz.underlying206
 a76 := Go.Proofs.Tryz.isAgg206
 z76 := Go.Proofs.Tryz.sizeOf206
 v76 := Go.Proofs.Tryz.zeroValue206
 t127 := Go.Proofs.Tryz.underlying242
 a127 := Go.Proofs.Tryz.isAgg242
 z127 := Go.Proofs.Tryz.sizeOf242
 v127 := Go.Proofs.Tryz.zeroValue242
 t164 := Go.Proofs.Tryz.underlying266
 a164 := Go.Proofs.Tryz.isAgg266
 z164 := Go.Proofs.Tryz.sizeOf266
 v164 := Go.Proofs.Tryz.zeroValue266 }

def lays_n171_ren : Go.Shelf.Ren := ⟨fun | 171 => 85 | 243 => 137 | 246 => 188 | 283 => 234 | 284 => 235 | 285 => 236 | 286 => 237 | 129 => 187 | 317 => 258 | 318 => 259 | 319 => 260 | 320 => 261 | 337 => 264 | 338 => 265 | n => n, fun | 3 => 3 | 9 => 9 | 2 => 2 | 4 => 4 | 171 => 256 | 0 => 0 | 53 => 225 | 37 => 140 | 5 => 5 | 173 => 258 | 212 => 277 | 51 => 223 | 20 => 20 | 213 => 278 | 46 => 172 | 232 => 281 | 233 => 282 | n => n, fun | 17 => 2 | 18 => 4 | 19 => 5 | n => n⟩
theorem lays_n171 : Go.Proofs.LaysM.n171 Go.Proofs.Tryz.prog lays_n171_ren := {
 mixed := by kernel_rfl
 f129 := Go.Proofs.Tryz.func187.trans (congrArg some (by kernel_rfl))
 f171 := Go.Proofs.Tryz.func85.trans (congrArg some (by kernel_rfl))
 f243 := Go.Proofs.Tryz.func137.trans (congrArg some (by kernel_rfl))
 f246 := Go.Proofs.Tryz.func188.trans (congrArg some (by kernel_rfl))
 f283 := Go.Proofs.Tryz.func234.trans (congrArg some (by kernel_rfl))
 f284 := Go.Proofs.Tryz.func235.trans (congrArg some (by kernel_rfl))
 f285 := Go.Proofs.Tryz.func236.trans (congrArg some (by kernel_rfl))
 f286 := Go.Proofs.Tryz.func237.trans (congrArg some (by kernel_rfl))
 f317 := Go.Proofs.Tryz.func258.trans (congrArg some (by kernel_rfl))
 f318 := Go.Proofs.Tryz.func259.trans (congrArg some (by kernel_rfl))
 f319 := Go.Proofs.Tryz.func260.trans (congrArg some (by kernel_rfl))
 f320 := Go.Proofs.Tryz.func261.trans (congrArg some (by kernel_rfl))
 f337 := Go.Proofs.Tryz.func264.trans (congrArg some (by kernel_rfl))
 f338 := Go.Proofs.Tryz.func265.trans (congrArg some (by kernel_rfl))
 t0 := Go.Proofs.Tryz.underlying0
 a0 := Go.Proofs.Tryz.isAgg0
 z0 := Go.Proofs.Tryz.sizeOf0
 v0 := Go.Proofs.Tryz.zeroValue0
 t2 := Go.Proofs.Tryz.underlying2
 a2 := Go.Proofs.Tryz.isAgg2
 z2 := Go.Proofs.Tryz.sizeOf2
 v2 := Go.Proofs.Tryz.zeroValue2
 t3 := Go.Proofs.Tryz.underlying3
 a3 := Go.Proofs.Tryz.isAgg3
 z3 := Go.Proofs.Tryz.sizeOf3
 v3 := Go.Proofs.Tryz.zeroValue3
 t4 := Go.Proofs.Tryz.underlying4
 a4 := Go.Proofs.Tryz.isAgg4
 z4 := Go.Proofs.Tryz.sizeOf4
 v4 := Go.Proofs.Tryz.zeroValue4
 t5 := Go.Proofs.Tryz.underlying5
 a5 := Go.Proofs.Tryz.isAgg5
 z5 := Go.Proofs.Tryz.sizeOf5
 v5 := Go.Proofs.Tryz.zeroValue5
 t9 := Go.Proofs.Tryz.underlying9
 a9 := Go.Proofs.Tryz.isAgg9
 z9 := Go.Proofs.Tryz.sizeOf9
 v9 := Go.Proofs.Tryz.zeroValue9
 t20 := Go.Proofs.Tryz.underlying20
 a20 := Go.Proofs.Tryz.isAgg20
 z20 := Go.Proofs.Tryz.sizeOf20
 v20 := Go.Proofs.Tryz.zeroValue20
 t37 := Go.Proofs.Tryz.underlying140
 a37 := Go.Proofs.Tryz.isAgg140
 z37 := Go.Proofs.Tryz.sizeOf140
 v37 := Go.Proofs.Tryz.zeroValue140
 t46 := Go.Proofs.Tryz.underlying172
 a46 := Go.Proofs.Tryz.isAgg172
 z46 := Go.Proofs.Tryz.sizeOf172
 v46 := Go.Proofs.Tryz.zeroValue172
 t51 := Go.Proofs.Tryz.underlying223
 a51 := Go.Proofs.Tryz.isAgg223
 z51 := Go.Proofs.Tryz.sizeOf223
 v51 := Go.Proofs.Tryz.zeroValue223
 t53 := Go.Proofs.Tryz.underlying225
 a53 := Go.Proofs.Tryz.isAgg225
 z53 := Go.Proofs.Tryz.sizeOf225
 v53 := Go.Proofs.Tryz.zeroValue225
 t171 := Go.Proofs.Tryz.underlying256
 a171 := Go.Proofs.Tryz.isAgg256
 z171 := Go.Proofs.Tryz.sizeOf256
 v171 := Go.Proofs.Tryz.zeroValue256
 t173 := Go.Proofs.Tryz.underlying258
 a173 := Go.Proofs.Tryz.isAgg258
 z173 := Go.Proofs.Tryz.sizeOf258
 v173 := Go.Proofs.Tryz.zeroValue258
 t212 := Go.Proofs.Tryz.underlying277
 a212 := Go.Proofs.Tryz.isAgg277
 z212 := Go.Proofs.Tryz.sizeOf277
 v212 := Go.Proofs.Tryz.zeroValue277
 t213 := Go.Proofs.Tryz.underlying278
 a213 := Go.Proofs.Tryz.isAgg278
 z213 := Go.Proofs.Tryz.sizeOf278
 t232 := Go.Proofs.Tryz.underlying281
 a232 := Go.Proofs.Tryz.isAgg281
 z232 := Go.Proofs.Tryz.sizeOf281
 v232 := Go.Proofs.Tryz.zeroValue281
 t233 := Go.Proofs.Tryz.underlying282
 a233 := Go.Proofs.Tryz.isAgg282
 z233 := Go.Proofs.Tryz.sizeOf282
 v233 := Go.Proofs.Tryz.zeroValue282
 g17 := by kernel_rfl
 g18 := by kernel_rfl
 g19 := by kernel_rfl
 i0 := by kernel_rfl
 i2 := by kernel_rfl
 i3 := by kernel_rfl
 i4 := by kernel_rfl
 i5 := by kernel_rfl
 i9 := by kernel_rfl
 i20 := by kernel_rfl
 i37 := by kernel_rfl
 i46 := by kernel_rfl
 i51 := by kernel_rfl
 i53 := by kernel_rfl
 i171 := by kernel_rfl
 i173 := by kernel_rfl
 i212 := by kernel_rfl
 i232 := by kernel_rfl
 i233 := by kernel_rfl
 m17 := by kernel_rfl
 m18 := by kernel_rfl
 m19 := by kernel_rfl }

theorem lays_Extra : Builder.Extra Go.Proofs.Tryz.prog lays_n156_ren := {
 sizeBuilder := by kernel_rfl
 liesBuilder := by kernel_rfl
 t5 := Go.Proofs.Tryz.underlying5
 a5 := Go.Proofs.Tryz.isAgg5
 z5 := Go.Proofs.Tryz.sizeOf5
 v5 := Go.Proofs.Tryz.zeroValue5
 infoByte := by kernel_rfl
 cellsByte := by kernel_rfl
 sizeByte := by kernel_rfl
 neB5 := by decide }

theorem cw_szIntS {a0 : (List Int)} {a1 : Int} {r : Int} (H : Dw_szIntS a0 a1 = some r) : Ct X.P X.gl 16 [sl 1 I a0, I a1] [] (RI r) [] :=
 Ct.of func16 (c := bdy f16) (by kernel_rfl) (by kernel_rfl) <|
 gS [r0, r0] (by kernel_rfl) P0 <|
 eIf H (fun h1 H =>
 eW RI (fun _ => []) H<|gE func16 [rg [hT 1], r0] (by kernel_rfl) (P2 ((decide ((IntKind.wrap .i64 (a1 - ((a0.length : Nat) : Int))) < 0)) = true) (decide_eq_true h1)<|P0))
 (fun h1 H =>
 eW RI (fun _ => []) H<|gE func16 [rg [hF 1], r0] (by kernel_rfl) (P2 ((decide ((IntKind.wrap .i64 (a1 - ((a0.length : Nat) : Int))) < 0)) = false) (decide_eq_false h1)<|P0))
theorem cw_szTerrain {a0 : Gw_Terrain} {a1 : Int} {r : Int} (H : Dw_szTerrain a0 a1 = some r) : Ct X.P X.gl 139 [gw_Terrain a0, I a1] [] (RI r) [] :=
 Ct.of func139 (c := bdy f139) (by kernel_rfl) (by kernel_rfl) <|
 gS [r0, r0] (by kernel_rfl) P0 <|
 eIf H (fun h1 H =>
 eW RI (fun _ => []) H<|gE func139 [rg [hT 1], r0] (by kernel_rfl) (P2 ((decide ((IntKind.wrap .i64 (a1 - ((ByteArray.size a0.Name : Nat) : Int))) < 0)) = true) (decide_eq_true h1)<|P0))
 (fun h1 H =>
 eBind H fun r2 hr2 H =>
 gS [rg [hF 1], rg [hC 3 true [] (RI r2) []]] (by kernel_rfl) (P2 ((decide ((IntKind.wrap .i64 (a1 - ((ByteArray.size a0.Name : Nat) : Int))) < 0)) = false) (decide_eq_false h1)<|P1 (cw_szIntS hr2)<|P0) <|
 eIf H (fun h3 H =>
 eW RI (fun _ => []) H<|gE func139 [rg [hT 1], r0] (by kernel_rfl) (P2 ((decide (r2 < 0)) = true) (decide_eq_true h3)<|P0))
 (fun h3 H =>
 eW RI (fun _ => []) H<|gE func139 [rg [hF 1], r0] (by kernel_rfl) (P2 ((decide (r2 < 0)) = false) (decide_eq_false h3)<|P0)))
noncomputable def Kw_szTerrainS : Sw_szTerrainS → List Item
 | .h1 .. => nav 300 4 [false] [.code (bdy f90)]
def Zw_szTerrainS : Sw_szTerrainS → St
 | .h1 va0 left1 i2 => ⟨sts 27 [(0, sl 5 gw_Terrain va0), (1, I left1), (5, I i2)], []⟩
abbrev Qw_szTerrainS := Nx X 90 0 Kw_szTerrainS Zw_szTerrainS RI (fun _ => [])
theorem nw_szTerrainS : ∀ s o, Bw_szTerrainS s = some o → Qw_szTerrainS (Kw_szTerrainS s) (Zw_szTerrainS s) o
 | .h1 va0 left1 i2, o, H =>
  eIf H (fun h1 H =>
  eCk H fun h2 H =>
  eBind H fun x3 hx3 H =>
  eBind H fun r4 hr4 H =>
  gN [rg [hT 3], rg [hE 3 (gw_Terrain x3), hC 5 true [] (RI r4) []]] (by kernel_rfl) (P2 ((decide (i2 < ((va0.length : Nat) : Int))) = true) (decide_eq_true h1)<|P1 h2<|P1 (int_lt_of_at h2 hx3)<|P1 (at_map gw_Terrain hx3)<|P1 (cw_szTerrain hr4)<|P0) <|
  eIf H (fun h5 H =>
  eN H<|gE func90 [rg [hT 1], r0] (by kernel_rfl) (P2 ((decide (r4 < 0)) = true) (decide_eq_true h5)<|P0))
  (fun h5 H =>
  eN H fun r hn => gO [rg [hF 1], r0, .canon [] [0, 1, 5]] (by kernel_rfl) (P2 ((decide (r4 < 0)) = false) (decide_eq_false h5)<|P0) hn))
  (fun h1 H =>
  eN H<|gE func90 [rg [hF 3], r0] (by kernel_rfl) (P2 ((decide (i2 < ((va0.length : Nat) : Int))) = false) (decide_eq_false h1)<|P0))
theorem ww_szTerrainS : ∀ s r, loop Bw_szTerrainS s = some r → Wc X 90 0 (Kw_szTerrainS s) (Zw_szTerrainS s) (RI r) ((fun _ => []) r) := Nx.all (nw_szTerrainS)
theorem cw_szTerrainS {a0 : (List Gw_Terrain)} {a1 : Int} {r : Int} (H : Dw_szTerrainS a0 a1 = some r) : Ct X.P X.gl 90 [sl 5 gw_Terrain a0, I a1] [] (RI r) [] :=
 Ct.of func90 (c := bdy f90) (by kernel_rfl) (by kernel_rfl) <|
 gS [r0, r0] (by kernel_rfl) P0 <|
 eIf H (fun h1 H =>
 eW RI (fun _ => []) H<|gE func90 [rg [hT 1], r0] (by kernel_rfl) (P2 ((decide ((IntKind.wrap .i64 (a1 - ((a0.length : Nat) : Int))) < 0)) = true) (decide_eq_true h1)<|P0))
 (fun h1 H =>
 gO [rg [hF 1], r0, .canon [] [0, 1, 5]] (by kernel_rfl) (P2 ((decide ((IntKind.wrap .i64 (a1 - ((a0.length : Nat) : Int))) < 0)) = false) (decide_eq_false h1)<|P0) (ww_szTerrainS _ _ H))
theorem cw_szKind {a0 : Gw_Kind} {a1 : Int} {r : Int} (H : Dw_szKind a0 a1 = some r) : Ct X.P X.gl 140 [gw_Kind a0, I a1] [] (RI r) [] :=
 Ct.of func140 (c := bdy f140) (by kernel_rfl) (by kernel_rfl) <|
 gS [r0, r0] (by kernel_rfl) P0 <|
 eIf H (fun h1 H =>
 eW RI (fun _ => []) H<|gE func140 [rg [hT 1], r0] (by kernel_rfl) (P2 ((decide ((IntKind.wrap .i64 (a1 - ((ByteArray.size a0.Name : Nat) : Int))) < 0)) = true) (decide_eq_true h1)<|P0))
 (fun h1 H =>
 eW RI (fun _ => []) H<|gE func140 [rg [hF 1], r0] (by kernel_rfl) (P2 ((decide ((IntKind.wrap .i64 (a1 - ((ByteArray.size a0.Name : Nat) : Int))) < 0)) = false) (decide_eq_false h1)<|P0))
noncomputable def Kw_szKindS : Sw_szKindS → List Item
 | .h1 .. => nav 300 4 [false] [.code (bdy f91)]
def Zw_szKindS : Sw_szKindS → St
 | .h1 va0 left1 i2 => ⟨sts 27 [(0, sl 6 gw_Kind va0), (1, I left1), (5, I i2)], []⟩
abbrev Qw_szKindS := Nx X 91 0 Kw_szKindS Zw_szKindS RI (fun _ => [])
theorem nw_szKindS : ∀ s o, Bw_szKindS s = some o → Qw_szKindS (Kw_szKindS s) (Zw_szKindS s) o
 | .h1 va0 left1 i2, o, H =>
  eIf H (fun h1 H =>
  eCk H fun h2 H =>
  eBind H fun x3 hx3 H =>
  eBind H fun r4 hr4 H =>
  gN [rg [hT 3], rg [hE 3 (gw_Kind x3), hC 5 true [] (RI r4) []]] (by kernel_rfl) (P2 ((decide (i2 < ((va0.length : Nat) : Int))) = true) (decide_eq_true h1)<|P1 h2<|P1 (int_lt_of_at h2 hx3)<|P1 (at_map gw_Kind hx3)<|P1 (cw_szKind hr4)<|P0) <|
  eIf H (fun h5 H =>
  eN H<|gE func91 [rg [hT 1], r0] (by kernel_rfl) (P2 ((decide (r4 < 0)) = true) (decide_eq_true h5)<|P0))
  (fun h5 H =>
  eN H fun r hn => gO [rg [hF 1], r0, .canon [] [0, 1, 5]] (by kernel_rfl) (P2 ((decide (r4 < 0)) = false) (decide_eq_false h5)<|P0) hn))
  (fun h1 H =>
  eN H<|gE func91 [rg [hF 3], r0] (by kernel_rfl) (P2 ((decide (i2 < ((va0.length : Nat) : Int))) = false) (decide_eq_false h1)<|P0))
theorem ww_szKindS : ∀ s r, loop Bw_szKindS s = some r → Wc X 91 0 (Kw_szKindS s) (Zw_szKindS s) (RI r) ((fun _ => []) r) := Nx.all (nw_szKindS)
theorem cw_szKindS {a0 : (List Gw_Kind)} {a1 : Int} {r : Int} (H : Dw_szKindS a0 a1 = some r) : Ct X.P X.gl 91 [sl 6 gw_Kind a0, I a1] [] (RI r) [] :=
 Ct.of func91 (c := bdy f91) (by kernel_rfl) (by kernel_rfl) <|
 gS [r0, r0] (by kernel_rfl) P0 <|
 eIf H (fun h1 H =>
 eW RI (fun _ => []) H<|gE func91 [rg [hT 1], r0] (by kernel_rfl) (P2 ((decide ((IntKind.wrap .i64 (a1 - ((a0.length : Nat) : Int))) < 0)) = true) (decide_eq_true h1)<|P0))
 (fun h1 H =>
 gO [rg [hF 1], r0, .canon [] [0, 1, 5]] (by kernel_rfl) (P2 ((decide ((IntKind.wrap .i64 (a1 - ((a0.length : Nat) : Int))) < 0)) = false) (decide_eq_false h1)<|P0) (ww_szKindS _ _ H))
theorem cw_szRules {a0 : Gw_Rules} {a1 : Int} {r : Int} (H : Dw_szRules a0 a1 = some r) : Ct X.P X.gl 44 [gw_Rules a0, I a1] [] (RI r) [] :=
 Ct.of func44 (c := bdy f44) (by kernel_rfl) (by kernel_rfl) <|
 eBind H fun r1 hr1 H =>
 gS [r0, rg [hC 3 true [] (RI r1) []]] (by kernel_rfl) (P1 (cw_szTerrainS hr1)<|P0) <|
 eIf H (fun h2 H =>
 eW RI (fun _ => []) H<|gE func44 [rg [hT 1], r0] (by kernel_rfl) (P2 ((decide (r1 < 0)) = true) (decide_eq_true h2)<|P0))
 (fun h2 H =>
 eBind H fun r3 hr3 H =>
 gS [rg [hF 1], rg [hC 3 true [] (RI r3) []]] (by kernel_rfl) (P2 ((decide (r1 < 0)) = false) (decide_eq_false h2)<|P1 (cw_szKindS hr3)<|P0) <|
 eIf H (fun h4 H =>
 eW RI (fun _ => []) H<|gE func44 [rg [hT 1], r0] (by kernel_rfl) (P2 ((decide (r3 < 0)) = true) (decide_eq_true h4)<|P0))
 (fun h4 H =>
 eW RI (fun _ => []) H<|gE func44 [rg [hF 1], r0] (by kernel_rfl) (P2 ((decide (r3 < 0)) = false) (decide_eq_false h4)<|P0)))
theorem cw_szMap {a0 : Gw_Map} {a1 : Int} {r : Int} (H : Dw_szMap a0 a1 = some r) : Ct X.P X.gl 45 [gw_Map a0, I a1] [] (RI r) [] :=
 Ct.of func45 (c := bdy f45) (by kernel_rfl) (by kernel_rfl) <|
 eBind H fun r1 hr1 H =>
 gS [r0, rg [hC 3 true [] (RI r1) []]] (by kernel_rfl) (P1 (cw_szIntS hr1)<|P0) <|
 eIf H (fun h2 H =>
 eW RI (fun _ => []) H<|gE func45 [rg [hT 1], r0] (by kernel_rfl) (P2 ((decide (r1 < 0)) = true) (decide_eq_true h2)<|P0))
 (fun h2 H =>
 eBind H fun r3 hr3 H =>
 gS [rg [hF 1], rg [hC 3 true [] (RI r3) []]] (by kernel_rfl) (P2 ((decide (r1 < 0)) = false) (decide_eq_false h2)<|P1 (cw_szIntS hr3)<|P0) <|
 eIf H (fun h4 H =>
 eW RI (fun _ => []) H<|gE func45 [rg [hT 1], r0] (by kernel_rfl) (P2 ((decide (r3 < 0)) = true) (decide_eq_true h4)<|P0))
 (fun h4 H =>
 eBind H fun r5 hr5 H =>
 gS [rg [hF 1], rg [hC 3 true [] (RI r5) []]] (by kernel_rfl) (P2 ((decide (r3 < 0)) = false) (decide_eq_false h4)<|P1 (cw_szIntS hr5)<|P0) <|
 eIf H (fun h6 H =>
 eW RI (fun _ => []) H<|gE func45 [rg [hT 1], r0] (by kernel_rfl) (P2 ((decide (r5 < 0)) = true) (decide_eq_true h6)<|P0))
 (fun h6 H =>
 eW RI (fun _ => []) H<|gE func45 [rg [hF 1], r0] (by kernel_rfl) (P2 ((decide (r5 < 0)) = false) (decide_eq_false h6)<|P0))))
theorem cw_szBoard {a0 : Gw_Board} {a1 : Int} {r : Int} (H : Dw_szBoard a0 a1 = some r) : Ct X.P X.gl 12 [gw_Board a0, I a1] [] (RI r) [] :=
 Ct.of func12 (c := bdy f12) (by kernel_rfl) (by kernel_rfl) <|
 eBind H fun r1 hr1 H =>
 gS [r0, rg [hC 3 true [] (RI r1) []]] (by kernel_rfl) (P1 (cw_szRules hr1)<|P0) <|
 eIf H (fun h2 H =>
 eW RI (fun _ => []) H<|gE func12 [rg [hT 1], r0] (by kernel_rfl) (P2 ((decide (r1 < 0)) = true) (decide_eq_true h2)<|P0))
 (fun h2 H =>
 eBind H fun r3 hr3 H =>
 gS [rg [hF 1], rg [hC 3 true [] (RI r3) []]] (by kernel_rfl) (P2 ((decide (r1 < 0)) = false) (decide_eq_false h2)<|P1 (cw_szMap hr3)<|P0) <|
 eIf H (fun h4 H =>
 eW RI (fun _ => []) H<|gE func12 [rg [hT 1], r0] (by kernel_rfl) (P2 ((decide (r3 < 0)) = true) (decide_eq_true h4)<|P0))
 (fun h4 H =>
 eW RI (fun _ => []) H<|gE func12 [rg [hF 1], r0] (by kernel_rfl) (P2 ((decide (r3 < 0)) = false) (decide_eq_false h4)<|P0)))
theorem cw_szOddsS {a0 : (List Gw_Odds)} {a1 : Int} {r : Int} (H : Dw_szOddsS a0 a1 = some r) : Ct X.P X.gl 46 [sl 2 gw_Odds a0, I a1] [] (RI r) [] :=
 Ct.of func46 (c := bdy f46) (by kernel_rfl) (by kernel_rfl) <|
 gS [r0, r0] (by kernel_rfl) P0 <|
 eIf H (fun h1 H =>
 eW RI (fun _ => []) H<|gE func46 [rg [hT 1], r0] (by kernel_rfl) (P2 ((decide ((IntKind.wrap .i64 (a1 - ((a0.length : Nat) : Int))) < 0)) = true) (decide_eq_true h1)<|P0))
 (fun h1 H =>
 eW RI (fun _ => []) H<|gE func46 [rg [hF 1], r0] (by kernel_rfl) (P2 ((decide ((IntKind.wrap .i64 (a1 - ((a0.length : Nat) : Int))) < 0)) = false) (decide_eq_false h1)<|P0))
noncomputable def Kw_szIntSS : Sw_szIntSS → List Item
 | .h1 .. => nav 300 4 [false] [.code (bdy f47)]
def Zw_szIntSS : Sw_szIntSS → St
 | .h1 va0 left1 i2 => ⟨sts 27 [(0, sl 1 (sl 1 I) va0), (1, I left1), (5, I i2)], []⟩
abbrev Qw_szIntSS := Nx X 47 0 Kw_szIntSS Zw_szIntSS RI (fun _ => [])
theorem nw_szIntSS : ∀ s o, Bw_szIntSS s = some o → Qw_szIntSS (Kw_szIntSS s) (Zw_szIntSS s) o
 | .h1 va0 left1 i2, o, H =>
  eIf H (fun h1 H =>
  eCk H fun h2 H =>
  eBind H fun x3 hx3 H =>
  eBind H fun r4 hr4 H =>
  gN [rg [hT 3], rg [hE 3 ((sl 1 I) x3), hC 5 true [] (RI r4) []]] (by kernel_rfl) (P2 ((decide (i2 < ((va0.length : Nat) : Int))) = true) (decide_eq_true h1)<|P1 h2<|P1 (int_lt_of_at h2 hx3)<|P1 (at_map (sl 1 I) hx3)<|P1 (cw_szIntS hr4)<|P0) <|
  eIf H (fun h5 H =>
  eN H<|gE func47 [rg [hT 1], r0] (by kernel_rfl) (P2 ((decide (r4 < 0)) = true) (decide_eq_true h5)<|P0))
  (fun h5 H =>
  eN H fun r hn => gO [rg [hF 1], r0, .canon [] [0, 1, 5]] (by kernel_rfl) (P2 ((decide (r4 < 0)) = false) (decide_eq_false h5)<|P0) hn))
  (fun h1 H =>
  eN H<|gE func47 [rg [hF 3], r0] (by kernel_rfl) (P2 ((decide (i2 < ((va0.length : Nat) : Int))) = false) (decide_eq_false h1)<|P0))
theorem ww_szIntSS : ∀ s r, loop Bw_szIntSS s = some r → Wc X 47 0 (Kw_szIntSS s) (Zw_szIntSS s) (RI r) ((fun _ => []) r) := Nx.all (nw_szIntSS)
theorem cw_szIntSS {a0 : (List (List Int))} {a1 : Int} {r : Int} (H : Dw_szIntSS a0 a1 = some r) : Ct X.P X.gl 47 [sl 1 (sl 1 I) a0, I a1] [] (RI r) [] :=
 Ct.of func47 (c := bdy f47) (by kernel_rfl) (by kernel_rfl) <|
 gS [r0, r0] (by kernel_rfl) P0 <|
 eIf H (fun h1 H =>
 eW RI (fun _ => []) H<|gE func47 [rg [hT 1], r0] (by kernel_rfl) (P2 ((decide ((IntKind.wrap .i64 (a1 - ((a0.length : Nat) : Int))) < 0)) = true) (decide_eq_true h1)<|P0))
 (fun h1 H =>
 gO [rg [hF 1], r0, .canon [] [0, 1, 5]] (by kernel_rfl) (P2 ((decide ((IntKind.wrap .i64 (a1 - ((a0.length : Nat) : Int))) < 0)) = false) (decide_eq_false h1)<|P0) (ww_szIntSS _ _ H))
theorem cw_szCombatTable {a0 : Gw_CombatTable} {a1 : Int} {r : Int} (H : Dw_szCombatTable a0 a1 = some r) : Ct X.P X.gl 13 [gw_CombatTable a0, I a1] [] (RI r) [] :=
 Ct.of func13 (c := bdy f13) (by kernel_rfl) (by kernel_rfl) <|
 eBind H fun r1 hr1 H =>
 gS [r0, rg [hC 3 true [] (RI r1) []]] (by kernel_rfl) (P1 (cw_szOddsS hr1)<|P0) <|
 eIf H (fun h2 H =>
 eW RI (fun _ => []) H<|gE func13 [rg [hT 1], r0] (by kernel_rfl) (P2 ((decide (r1 < 0)) = true) (decide_eq_true h2)<|P0))
 (fun h2 H =>
 eBind H fun r3 hr3 H =>
 gS [rg [hF 1], rg [hC 3 true [] (RI r3) []]] (by kernel_rfl) (P2 ((decide (r1 < 0)) = false) (decide_eq_false h2)<|P1 (cw_szIntSS hr3)<|P0) <|
 eIf H (fun h4 H =>
 eW RI (fun _ => []) H<|gE func13 [rg [hT 1], r0] (by kernel_rfl) (P2 ((decide (r3 < 0)) = true) (decide_eq_true h4)<|P0))
 (fun h4 H =>
 eW RI (fun _ => []) H<|gE func13 [rg [hF 1], r0] (by kernel_rfl) (P2 ((decide (r3 < 0)) = false) (decide_eq_false h4)<|P0)))
theorem cw_szUnitS {a0 : (List Gw_Unit)} {a1 : Int} {r : Int} (H : Dw_szUnitS a0 a1 = some r) : Ct X.P X.gl 48 [sl 4 gw_Unit a0, I a1] [] (RI r) [] :=
 Ct.of func48 (c := bdy f48) (by kernel_rfl) (by kernel_rfl) <|
 gS [r0, r0] (by kernel_rfl) P0 <|
 eIf H (fun h1 H =>
 eW RI (fun _ => []) H<|gE func48 [rg [hT 1], r0] (by kernel_rfl) (P2 ((decide ((IntKind.wrap .i64 (a1 - ((a0.length : Nat) : Int))) < 0)) = true) (decide_eq_true h1)<|P0))
 (fun h1 H =>
 eW RI (fun _ => []) H<|gE func48 [rg [hF 1], r0] (by kernel_rfl) (P2 ((decide ((IntKind.wrap .i64 (a1 - ((a0.length : Nat) : Int))) < 0)) = false) (decide_eq_false h1)<|P0))
theorem cw_szState {a0 : Gw_State} {a1 : Int} {r : Int} (H : Dw_szState a0 a1 = some r) : Ct X.P X.gl 14 [gw_State a0, I a1] [] (RI r) [] :=
 Ct.of func14 (c := bdy f14) (by kernel_rfl) (by kernel_rfl) <|
 eBind H fun r1 hr1 H =>
 gS [r0, rg [hC 3 true [] (RI r1) []]] (by kernel_rfl) (P1 (cw_szUnitS hr1)<|P0) <|
 eIf H (fun h2 H =>
 eW RI (fun _ => []) H<|gE func14 [rg [hT 1], r0] (by kernel_rfl) (P2 ((decide (r1 < 0)) = true) (decide_eq_true h2)<|P0))
 (fun h2 H =>
 eW RI (fun _ => []) H<|gE func14 [rg [hF 1], r0] (by kernel_rfl) (P2 ((decide (r1 < 0)) = false) (decide_eq_false h2)<|P0))
theorem cw_szGoalS {a0 : (List Gw_Goal)} {a1 : Int} {r : Int} (H : Dw_szGoalS a0 a1 = some r) : Ct X.P X.gl 49 [sl 2 gw_Goal a0, I a1] [] (RI r) [] :=
 Ct.of func49 (c := bdy f49) (by kernel_rfl) (by kernel_rfl) <|
 gS [r0, r0] (by kernel_rfl) P0 <|
 eIf H (fun h1 H =>
 eW RI (fun _ => []) H<|gE func49 [rg [hT 1], r0] (by kernel_rfl) (P2 ((decide ((IntKind.wrap .i64 (a1 - ((a0.length : Nat) : Int))) < 0)) = true) (decide_eq_true h1)<|P0))
 (fun h1 H =>
 eW RI (fun _ => []) H<|gE func49 [rg [hF 1], r0] (by kernel_rfl) (P2 ((decide ((IntKind.wrap .i64 (a1 - ((a0.length : Nat) : Int))) < 0)) = false) (decide_eq_false h1)<|P0))
theorem cw_szConditions {a0 : Gw_Conditions} {a1 : Int} {r : Int} (H : Dw_szConditions a0 a1 = some r) : Ct X.P X.gl 15 [gw_Conditions a0, I a1] [] (RI r) [] :=
 Ct.of func15 (c := bdy f15) (by kernel_rfl) (by kernel_rfl) <|
 eBind H fun r1 hr1 H =>
 gS [r0, rg [hC 3 true [] (RI r1) []]] (by kernel_rfl) (P1 (cw_szGoalS hr1)<|P0) <|
 eIf H (fun h2 H =>
 eW RI (fun _ => []) H<|gE func15 [rg [hT 1], r0] (by kernel_rfl) (P2 ((decide (r1 < 0)) = true) (decide_eq_true h2)<|P0))
 (fun h2 H =>
 eW RI (fun _ => []) H<|gE func15 [rg [hF 1], r0] (by kernel_rfl) (P2 ((decide (r1 < 0)) = false) (decide_eq_false h2)<|P0))
theorem cw_szScenario {a0 : Gw_Scenario} {a1 : Int} {r : Int} (H : Dw_szScenario a0 a1 = some r) : Ct X.P X.gl 5 [gw_Scenario a0, I a1] [] (RI r) [] :=
 Ct.of func5 (c := bdy f5) (by kernel_rfl) (by kernel_rfl) <|
 gS [r0, r0] (by kernel_rfl) P0 <|
 eIf H (fun h1 H =>
 eW RI (fun _ => []) H<|gE func5 [rg [hT 1], r0] (by kernel_rfl) (P2 ((decide ((IntKind.wrap .i64 (a1 - ((ByteArray.size a0.Name : Nat) : Int))) < 0)) = true) (decide_eq_true h1)<|P0))
 (fun h1 H =>
 eBind H fun r2 hr2 H =>
 gS [rg [hF 1], rg [hC 3 true [] (RI r2) []]] (by kernel_rfl) (P2 ((decide ((IntKind.wrap .i64 (a1 - ((ByteArray.size a0.Name : Nat) : Int))) < 0)) = false) (decide_eq_false h1)<|P1 (cw_szBoard hr2)<|P0) <|
 eIf H (fun h3 H =>
 eW RI (fun _ => []) H<|gE func5 [rg [hT 1], r0] (by kernel_rfl) (P2 ((decide (r2 < 0)) = true) (decide_eq_true h3)<|P0))
 (fun h3 H =>
 eBind H fun r4 hr4 H =>
 gS [rg [hF 1], rg [hC 3 true [] (RI r4) []]] (by kernel_rfl) (P2 ((decide (r2 < 0)) = false) (decide_eq_false h3)<|P1 (cw_szCombatTable hr4)<|P0) <|
 eIf H (fun h5 H =>
 eW RI (fun _ => []) H<|gE func5 [rg [hT 1], r0] (by kernel_rfl) (P2 ((decide (r4 < 0)) = true) (decide_eq_true h5)<|P0))
 (fun h5 H =>
 eBind H fun r6 hr6 H =>
 gS [rg [hF 1], rg [hC 3 true [] (RI r6) []]] (by kernel_rfl) (P2 ((decide (r4 < 0)) = false) (decide_eq_false h5)<|P1 (cw_szState hr6)<|P0) <|
 eIf H (fun h7 H =>
 eW RI (fun _ => []) H<|gE func5 [rg [hT 1], r0] (by kernel_rfl) (P2 ((decide (r6 < 0)) = true) (decide_eq_true h7)<|P0))
 (fun h7 H =>
 eBind H fun r8 hr8 H =>
 gS [rg [hF 1], rg [hC 3 true [] (RI r8) []]] (by kernel_rfl) (P2 ((decide (r6 < 0)) = false) (decide_eq_false h7)<|P1 (cw_szConditions hr8)<|P0) <|
 eIf H (fun h9 H =>
 eW RI (fun _ => []) H<|gE func5 [rg [hT 1], r0] (by kernel_rfl) (P2 ((decide (r8 < 0)) = true) (decide_eq_true h9)<|P0))
 (fun h9 H =>
 eBind H fun r10 hr10 H =>
 gS [rg [hF 1], rg [hC 3 true [] (RI r10) []]] (by kernel_rfl) (P2 ((decide (r8 < 0)) = false) (decide_eq_false h9)<|P1 (cw_szIntS hr10)<|P0) <|
 eIf H (fun h11 H =>
 eW RI (fun _ => []) H<|gE func5 [rg [hT 1], r0] (by kernel_rfl) (P2 ((decide (r10 < 0)) = true) (decide_eq_true h11)<|P0))
 (fun h11 H =>
 eBind H fun r12 hr12 H =>
 gS [rg [hF 1], rg [hC 3 true [] (RI r12) []]] (by kernel_rfl) (P2 ((decide (r10 < 0)) = false) (decide_eq_false h11)<|P1 (cw_szIntS hr12)<|P0) <|
 eIf H (fun h13 H =>
 eW RI (fun _ => []) H<|gE func5 [rg [hT 1], r0] (by kernel_rfl) (P2 ((decide (r12 < 0)) = true) (decide_eq_true h13)<|P0))
 (fun h13 H =>
 eW RI (fun _ => []) H<|gE func5 [rg [hF 1], r0] (by kernel_rfl) (P2 ((decide (r12 < 0)) = false) (decide_eq_false h13)<|P0))))))))
def Rw_toIntS (r : (List Int)) : List D := [ow 1 I r]
noncomputable def Kw_toIntS : Sw_toIntS → List Item
 | .h1 .. => nav 300 3 [] [.code (bdy f23)]
def Zw_toIntS : Sw_toIntS → St
 | .h1 va0 i1 l2 => ⟨sts 22 [(0, sl 1 I va0), (3, .ref 0 1 none), (4, I i1)], [some ⟨false, false, 1, l2.length, List.map I l2⟩]⟩
abbrev Qw_toIntS := Nx X 23 0 Kw_toIntS Zw_toIntS Rw_toIntS (fun _ => [])
theorem nw_toIntS : ∀ s o, Bw_toIntS s = some o → Qw_toIntS (Kw_toIntS s) (Zw_toIntS s) o
 | .h1 va0 i1 l2, o, H =>
  eIf H (fun h1 H =>
  eCk H fun h2 H =>
  eBind H fun x3 hx3 H =>
  eCk H fun h4 H =>
  eBind H fun x5 hx5 H =>
  eN H fun r hn => gO [rg [hT 3], rg [hE 5 (I x3), hA 7 ((List.set l2 (Int.toNat i1) x3).length) (List.map I (List.set l2 (Int.toNat i1) x3))], r0, .canon [0] [0, 3, 4]] (by kernel_rfl) (P2 ((decide (i1 < ((va0.length : Nat) : Int))) = true) (decide_eq_true h1)<|P1 h2<|P1 (int_lt_of_at h2 hx3)<|P1 (at_map I hx3)<|P1 h4<|P1 (int_lt_of_at h4 hx5)<|P1 (lt_of_at hx5)<|P2 (setCells (List.map I l2) (Int.toNat i1) 0 [I x3] = List.map I (List.set l2 (Int.toNat i1) x3)) (setCells_map hx5 rfl)<|P1 (setLen l2 (Int.toNat i1) x3)<|P0) hn)
  (fun h1 H =>
  eN H<|gE func23 [rg [hF 3], r0] (by kernel_rfl) (P2 ((decide (i1 < ((va0.length : Nat) : Int))) = false) (decide_eq_false h1)<|P0))
theorem ww_toIntS : ∀ s r, loop Bw_toIntS s = some r → Wc X 23 0 (Kw_toIntS s) (Zw_toIntS s) (Rw_toIntS r) ((fun _ => []) r) := Nx.all (nw_toIntS)
theorem cw_toIntS {a0 : (List Int)} {r : (List Int)} (H : Dw_toIntS a0 = some r) : Ct X.P X.gl 23 [sl 1 I a0] [] (Rw_toIntS r) [] :=
 Ct.of func23 (c := bdy f23) (by kernel_rfl) (by kernel_rfl) <|
 eCk H fun h1 H =>
 gO [r0, rg [hA 2 ((List.replicate (Int.toNat ((a0.length : Nat) : Int)) (0 : Int)).length) (List.map I (List.replicate (Int.toNat ((a0.length : Nat) : Int)) (0 : Int)))], r0, .canon [0] [0, 3, 4]] (by kernel_rfl) (PI (((a0.length : Nat) : Int) : Int)<|P2 ((0 : Int) ≤ ((a0.length : Nat) : Int)) (by omega)<|P2 (Int.toNat ((a0.length : Nat) : Int) * 8 ≤ 140737488355328) h1<|P1 (repLen (Int.toNat ((a0.length : Nat) : Int)) (0 : Int))<|P1 (repMap I (Int.toNat ((a0.length : Nat) : Int)) (0 : Int))<|P0) (ww_toIntS _ _ H)
def Rw_toTerrain (r : Gi_Terrain) : List D := [.agg [.str r.Name, ow 1 I r.Cost, I r.Shift, I r.Height, .bool r.Blocks]]
theorem cw_toTerrain {a0 : Gw_Terrain} {r : Gi_Terrain} (H : Dw_toTerrain a0 = some r) : Ct X.P X.gl 150 [gw_Terrain a0] [] (Rw_toTerrain r) [] :=
 Ct.of func150 (c := bdy f150) (by kernel_rfl) (by kernel_rfl) <|
 eBind H fun r1 hr1 H =>
 eW Rw_toTerrain (fun _ => []) H<|gE func150 [r0, r0, r0, rg [hC 2 true [] (Rw_toIntS r1) []], r0, r0, r0, r0] (by kernel_rfl) (P1 (cw_toIntS hr1)<|P0)
def Rw_toTerrainS (r : (List Gi_Terrain)) : List D := [ow 5 goi_Terrain r]
noncomputable def Kw_toTerrainS : Sw_toTerrainS → List Item
 | .h1 .. => nav 300 3 [] [.code (bdy f99)]
def Zw_toTerrainS : Sw_toTerrainS → St
 | .h1 va0 i1 l2 => ⟨sts 23 [(0, sl 5 gw_Terrain va0), (3, .ref 0 5 none), (4, I i1)], [some ⟨false, false, 5, l2.length, List.map goi_Terrain l2⟩]⟩
abbrev Qw_toTerrainS := Nx X 99 0 Kw_toTerrainS Zw_toTerrainS Rw_toTerrainS (fun _ => [])
theorem nw_toTerrainS : ∀ s o, Bw_toTerrainS s = some o → Qw_toTerrainS (Kw_toTerrainS s) (Zw_toTerrainS s) o
 | .h1 va0 i1 l2, o, H =>
  eIf H (fun h1 H =>
  eCk H fun h2 H =>
  eBind H fun x3 hx3 H =>
  eBind H fun r4 hr4 H =>
  eCk H fun h5 H =>
  eBind H fun x6 hx6 H =>
  eN H fun r hn => gO [rg [hT 3], rg [hE 5 (gw_Terrain x3), hC 6 true [] (Rw_toTerrain r4) [], { i := 8, xs := List.set (List.map goi_Terrain l2) (Int.toNat i1) (.agg [.str r4.Name, .ref 2 1 none, I r4.Shift, I r4.Height, .bool r4.Blocks]), post := [.put 0 (Int.toNat i1) 1 2 (List.map goi_Terrain (List.set l2 (Int.toNat i1) r4)), .own 0 (List.set l2 (Int.toNat i1) r4).length] }], r0, .canon [0] [0, 3, 4]] (by kernel_rfl) (P2 ((decide (i1 < ((va0.length : Nat) : Int))) = true) (decide_eq_true h1)<|P1 h2<|P1 (int_lt_of_at h2 hx3)<|P1 (at_map gw_Terrain hx3)<|P1 (cw_toTerrain hr4)<|P1 h5<|P1 (int_lt_of_at h5 hx6)<|P1 (lt_of_at hx6)<|P2 (setCells (List.map goi_Terrain l2) (Int.toNat i1) 0 [.str r4.Name, .ref 2 1 none, I r4.Shift, I r4.Height, .bool r4.Blocks] = List.set (List.map goi_Terrain l2) (Int.toNat i1) (.agg [.str r4.Name, .ref 2 1 none, I r4.Shift, I r4.Height, .bool r4.Blocks])) (setCells_mapD hx6 rfl)<|P2 (getCells (List.set (List.map goi_Terrain l2) (Int.toNat i1) (.agg [.str r4.Name, .ref 2 1 none, I r4.Shift, I r4.Height, .bool r4.Blocks])) (Int.toNat i1) 1 1 = some [.ref 2 1 none]) (getCells_set hx6 rfl)<|P2 (setCells (List.set (List.map goi_Terrain l2) (Int.toNat i1) (.agg [.str r4.Name, .ref 2 1 none, I r4.Shift, I r4.Height, .bool r4.Blocks])) (Int.toNat i1) 1 [ow 1 I r4.Cost] = List.map goi_Terrain (List.set l2 (Int.toNat i1) r4)) (setCells_set hx6 rfl)<|P1 (allOw_186 (List.set l2 (Int.toNat i1) r4))<|P1 (setLen l2 (Int.toNat i1) r4)<|P0) hn)
  (fun h1 H =>
  eN H<|gE func99 [rg [hF 3], r0] (by kernel_rfl) (P2 ((decide (i1 < ((va0.length : Nat) : Int))) = false) (decide_eq_false h1)<|P0))
theorem ww_toTerrainS : ∀ s r, loop Bw_toTerrainS s = some r → Wc X 99 0 (Kw_toTerrainS s) (Zw_toTerrainS s) (Rw_toTerrainS r) ((fun _ => []) r) := Nx.all (nw_toTerrainS)
theorem cw_toTerrainS {a0 : (List Gw_Terrain)} {r : (List Gi_Terrain)} (H : Dw_toTerrainS a0 = some r) : Ct X.P X.gl 99 [sl 5 gw_Terrain a0] [] (Rw_toTerrainS r) [] :=
 Ct.of func99 (c := bdy f99) (by kernel_rfl) (by kernel_rfl) <|
 eCk H fun h1 H =>
 gO [r0, rg [{ i := 2, n := (List.replicate (Int.toNat ((a0.length : Nat) : Int)) (Gi_Terrain.mk ⟨#[]⟩ [] 0 0 false)).length, xs := List.replicate (Int.toNat ((a0.length : Nat) : Int)) (.agg [.str ⟨#[]⟩, .nil, I 0, I 0, .bool false] : D), post := [.nils 0 (List.map goi_Terrain (List.replicate (Int.toNat ((a0.length : Nat) : Int)) (Gi_Terrain.mk ⟨#[]⟩ [] 0 0 false)))] }], r0, .canon [0] [0, 3, 4]] (by kernel_rfl) (PI (((a0.length : Nat) : Int) : Int)<|P2 ((0 : Int) ≤ ((a0.length : Nat) : Int)) (by omega)<|P2 (Int.toNat ((a0.length : Nat) : Int) * 64 ≤ 140737488355328) h1<|P1 (repLen (Int.toNat ((a0.length : Nat) : Int)) (Gi_Terrain.mk ⟨#[]⟩ [] 0 0 false))<|P2 (List.replicate (Int.toNat ((a0.length : Nat) : Int)) (.agg [.str ⟨#[]⟩, .nil, I 0, I 0, .bool false] : D) = List.replicate (Int.toNat ((a0.length : Nat) : Int)) (.agg [.str ⟨#[]⟩, .nil, I 0, I 0, .bool false] : D)) rfl<|P2 (NilOk (List.replicate (Int.toNat ((a0.length : Nat) : Int)) (.agg [.str ⟨#[]⟩, .nil, I 0, I 0, .bool false] : D)) (List.map goi_Terrain (List.replicate (Int.toNat ((a0.length : Nat) : Int)) (Gi_Terrain.mk ⟨#[]⟩ [] 0 0 false)))) (nilOk_rep (f := goi_Terrain) (z := (.agg [.str ⟨#[]⟩, .nil, I 0, I 0, .bool false] : D)) (x := (Gi_Terrain.mk ⟨#[]⟩ [] 0 0 false)) (nilC_s (nilC_n (nilC_s (nilC_s (nilC_s nilC_0))))) (Int.toNat ((a0.length : Nat) : Int)))<|P0) (ww_toTerrainS _ _ H)
def Rw_toKind (r : Gi_Kind) : List D := [.agg [.str r.Name, I r.Strength, I r.Moves, I r.Steps, .bool r.Zone, I r.View]]
theorem cw_toKind {a0 : Gw_Kind} {r : Gi_Kind} (H : Dw_toKind a0 = some r) : Ct X.P X.gl 151 [gw_Kind a0] [] (Rw_toKind r) [] :=
 Ct.of func151 (c := bdy f151) (by kernel_rfl) (by kernel_rfl) <|
 eW Rw_toKind (fun _ => []) H<|gE func151 [r0, r0, r0, r0, r0, r0, r0, r0, r0] (by kernel_rfl) P0
def Rw_toKindS (r : (List Gi_Kind)) : List D := [ow 6 gi_Kind r]
noncomputable def Kw_toKindS : Sw_toKindS → List Item
 | .h1 .. => nav 300 3 [] [.code (bdy f100)]
def Zw_toKindS : Sw_toKindS → St
 | .h1 va0 i1 l2 => ⟨sts 23 [(0, sl 6 gw_Kind va0), (3, .ref 0 6 none), (4, I i1)], [some ⟨false, false, 6, l2.length, List.map gi_Kind l2⟩]⟩
abbrev Qw_toKindS := Nx X 100 0 Kw_toKindS Zw_toKindS Rw_toKindS (fun _ => [])
theorem nw_toKindS : ∀ s o, Bw_toKindS s = some o → Qw_toKindS (Kw_toKindS s) (Zw_toKindS s) o
 | .h1 va0 i1 l2, o, H =>
  eIf H (fun h1 H =>
  eCk H fun h2 H =>
  eBind H fun x3 hx3 H =>
  eBind H fun r4 hr4 H =>
  eCk H fun h5 H =>
  eBind H fun x6 hx6 H =>
  eN H fun r hn => gO [rg [hT 3], rg [hE 5 (gw_Kind x3), hC 6 true [] (Rw_toKind r4) [], hA 8 ((List.set l2 (Int.toNat i1) r4).length) (List.map gi_Kind (List.set l2 (Int.toNat i1) r4))], r0, .canon [0] [0, 3, 4]] (by kernel_rfl) (P2 ((decide (i1 < ((va0.length : Nat) : Int))) = true) (decide_eq_true h1)<|P1 h2<|P1 (int_lt_of_at h2 hx3)<|P1 (at_map gw_Kind hx3)<|P1 (cw_toKind hr4)<|P1 h5<|P1 (int_lt_of_at h5 hx6)<|P1 (lt_of_at hx6)<|P2 (setCells (List.map gi_Kind l2) (Int.toNat i1) 0 [.str r4.Name, I r4.Strength, I r4.Moves, I r4.Steps, .bool r4.Zone, I r4.View] = List.map gi_Kind (List.set l2 (Int.toNat i1) r4)) (setCells_map hx6 rfl)<|P1 (setLen l2 (Int.toNat i1) r4)<|P0) hn)
  (fun h1 H =>
  eN H<|gE func100 [rg [hF 3], r0] (by kernel_rfl) (P2 ((decide (i1 < ((va0.length : Nat) : Int))) = false) (decide_eq_false h1)<|P0))
theorem ww_toKindS : ∀ s r, loop Bw_toKindS s = some r → Wc X 100 0 (Kw_toKindS s) (Zw_toKindS s) (Rw_toKindS r) ((fun _ => []) r) := Nx.all (nw_toKindS)
theorem cw_toKindS {a0 : (List Gw_Kind)} {r : (List Gi_Kind)} (H : Dw_toKindS a0 = some r) : Ct X.P X.gl 100 [sl 6 gw_Kind a0] [] (Rw_toKindS r) [] :=
 Ct.of func100 (c := bdy f100) (by kernel_rfl) (by kernel_rfl) <|
 eCk H fun h1 H =>
 gO [r0, rg [hA 2 ((List.replicate (Int.toNat ((a0.length : Nat) : Int)) (Gi_Kind.mk ⟨#[]⟩ 0 0 0 false 0)).length) (List.map gi_Kind (List.replicate (Int.toNat ((a0.length : Nat) : Int)) (Gi_Kind.mk ⟨#[]⟩ 0 0 0 false 0)))], r0, .canon [0] [0, 3, 4]] (by kernel_rfl) (PI (((a0.length : Nat) : Int) : Int)<|P2 ((0 : Int) ≤ ((a0.length : Nat) : Int)) (by omega)<|P2 (Int.toNat ((a0.length : Nat) : Int) * 56 ≤ 140737488355328) h1<|P1 (repLen (Int.toNat ((a0.length : Nat) : Int)) (Gi_Kind.mk ⟨#[]⟩ 0 0 0 false 0))<|P1 (repMap gi_Kind (Int.toNat ((a0.length : Nat) : Int)) (Gi_Kind.mk ⟨#[]⟩ 0 0 0 false 0))<|P0) (ww_toKindS _ _ H)
def Rw_toRules (r : Gi_Rules) : List D := [.agg [ow 5 goi_Terrain r.Terrains, ow 6 gi_Kind r.Kinds, I r.Stack, I r.River, I r.Road, I r.Supply, I r.Turns]]
theorem cw_toRules {a0 : Gw_Rules} {r : Gi_Rules} (H : Dw_toRules a0 = some r) : Ct X.P X.gl 56 [gw_Rules a0] [] (Rw_toRules r) [] :=
 Ct.of func56 (c := bdy f56) (by kernel_rfl) (by kernel_rfl) <|
 eBind H fun r1 hr1 H =>
 eBind H fun r2 hr2 H =>
 eW Rw_toRules (fun _ => []) H<|gE func56 [r0, r0, rg [hC 2 true [] (Rw_toTerrainS r1) []], rg [hC 2 true [] (Rw_toKindS r2) []], r0, r0, r0, r0, r0, r0] (by kernel_rfl) (P1 (cw_toTerrainS hr1)<|P1 (cw_toKindS hr2)<|P0)
def Rw_toMap (r : Gi_Map) : List D := [.agg [I r.Width, I r.Height, ow 1 I r.Terrain, ow 1 I r.Rivers, ow 1 I r.Roads]]
theorem cw_toMap {a0 : Gw_Map} {r : Gi_Map} (H : Dw_toMap a0 = some r) : Ct X.P X.gl 57 [gw_Map a0] [] (Rw_toMap r) [] :=
 Ct.of func57 (c := bdy f57) (by kernel_rfl) (by kernel_rfl) <|
 eBind H fun r1 hr1 H =>
 eBind H fun r2 hr2 H =>
 eBind H fun r3 hr3 H =>
 eW Rw_toMap (fun _ => []) H<|gE func57 [r0, r0, r0, r0, rg [hC 2 true [] (Rw_toIntS r1) []], rg [hC 2 true [] (Rw_toIntS r2) []], rg [hC 2 true [] (Rw_toIntS r3) []], r0] (by kernel_rfl) (P1 (cw_toIntS hr1)<|P1 (cw_toIntS hr2)<|P1 (cw_toIntS hr3)<|P0)
def Rw_toBoard (r : Gi_Board) : List D := [.agg [ow 5 goi_Terrain r.Rules.Terrains, ow 6 gi_Kind r.Rules.Kinds, I r.Rules.Stack, I r.Rules.River, I r.Rules.Road, I r.Rules.Supply, I r.Rules.Turns, I r.Map.Width, I r.Map.Height, ow 1 I r.Map.Terrain, ow 1 I r.Map.Rivers, ow 1 I r.Map.Roads]]
theorem cw_toBoard {a0 : Gw_Board} {r : Gi_Board} (H : Dw_toBoard a0 = some r) : Ct X.P X.gl 19 [gw_Board a0] [] (Rw_toBoard r) [] :=
 Ct.of func19 (c := bdy f19) (by kernel_rfl) (by kernel_rfl) <|
 eBind H fun r1 hr1 H =>
 eBind H fun r2 hr2 H =>
 eW Rw_toBoard (fun _ => []) H<|gE func19 [r0, r0, rg [hC 2 true [] (Rw_toRules r1) []], rg [hC 2 true [] (Rw_toMap r2) []], r0] (by kernel_rfl) (P1 (cw_toRules hr1)<|P1 (cw_toMap hr2)<|P0)
def Rw_toOdds (r : Gi_Odds) : List D := [.agg [I r.Num, I r.Den]]
theorem cw_toOdds {a0 : Gw_Odds} {r : Gi_Odds} (H : Dw_toOdds a0 = some r) : Ct X.P X.gl 101 [gw_Odds a0] [] (Rw_toOdds r) [] :=
 Ct.of func101 (c := bdy f101) (by kernel_rfl) (by kernel_rfl) <|
 eW Rw_toOdds (fun _ => []) H<|gE func101 [r0, r0, r0, r0, r0] (by kernel_rfl) P0
def Rw_toOddsS (r : (List Gi_Odds)) : List D := [ow 2 gi_Odds r]
noncomputable def Kw_toOddsS : Sw_toOddsS → List Item
 | .h1 .. => nav 300 3 [] [.code (bdy f58)]
def Zw_toOddsS : Sw_toOddsS → St
 | .h1 va0 i1 l2 => ⟨sts 23 [(0, sl 2 gw_Odds va0), (3, .ref 0 2 none), (4, I i1)], [some ⟨false, false, 2, l2.length, List.map gi_Odds l2⟩]⟩
abbrev Qw_toOddsS := Nx X 58 0 Kw_toOddsS Zw_toOddsS Rw_toOddsS (fun _ => [])
theorem nw_toOddsS : ∀ s o, Bw_toOddsS s = some o → Qw_toOddsS (Kw_toOddsS s) (Zw_toOddsS s) o
 | .h1 va0 i1 l2, o, H =>
  eIf H (fun h1 H =>
  eCk H fun h2 H =>
  eBind H fun x3 hx3 H =>
  eBind H fun r4 hr4 H =>
  eCk H fun h5 H =>
  eBind H fun x6 hx6 H =>
  eN H fun r hn => gO [rg [hT 3], rg [hE 5 (gw_Odds x3), hC 6 true [] (Rw_toOdds r4) [], hA 8 ((List.set l2 (Int.toNat i1) r4).length) (List.map gi_Odds (List.set l2 (Int.toNat i1) r4))], r0, .canon [0] [0, 3, 4]] (by kernel_rfl) (P2 ((decide (i1 < ((va0.length : Nat) : Int))) = true) (decide_eq_true h1)<|P1 h2<|P1 (int_lt_of_at h2 hx3)<|P1 (at_map gw_Odds hx3)<|P1 (cw_toOdds hr4)<|P1 h5<|P1 (int_lt_of_at h5 hx6)<|P1 (lt_of_at hx6)<|P2 (setCells (List.map gi_Odds l2) (Int.toNat i1) 0 [I r4.Num, I r4.Den] = List.map gi_Odds (List.set l2 (Int.toNat i1) r4)) (setCells_map hx6 rfl)<|P1 (setLen l2 (Int.toNat i1) r4)<|P0) hn)
  (fun h1 H =>
  eN H<|gE func58 [rg [hF 3], r0] (by kernel_rfl) (P2 ((decide (i1 < ((va0.length : Nat) : Int))) = false) (decide_eq_false h1)<|P0))
theorem ww_toOddsS : ∀ s r, loop Bw_toOddsS s = some r → Wc X 58 0 (Kw_toOddsS s) (Zw_toOddsS s) (Rw_toOddsS r) ((fun _ => []) r) := Nx.all (nw_toOddsS)
theorem cw_toOddsS {a0 : (List Gw_Odds)} {r : (List Gi_Odds)} (H : Dw_toOddsS a0 = some r) : Ct X.P X.gl 58 [sl 2 gw_Odds a0] [] (Rw_toOddsS r) [] :=
 Ct.of func58 (c := bdy f58) (by kernel_rfl) (by kernel_rfl) <|
 eCk H fun h1 H =>
 gO [r0, rg [hA 2 ((List.replicate (Int.toNat ((a0.length : Nat) : Int)) (Gi_Odds.mk 0 0)).length) (List.map gi_Odds (List.replicate (Int.toNat ((a0.length : Nat) : Int)) (Gi_Odds.mk 0 0)))], r0, .canon [0] [0, 3, 4]] (by kernel_rfl) (PI (((a0.length : Nat) : Int) : Int)<|P2 ((0 : Int) ≤ ((a0.length : Nat) : Int)) (by omega)<|P2 (Int.toNat ((a0.length : Nat) : Int) * 16 ≤ 140737488355328) h1<|P1 (repLen (Int.toNat ((a0.length : Nat) : Int)) (Gi_Odds.mk 0 0))<|P1 (repMap gi_Odds (Int.toNat ((a0.length : Nat) : Int)) (Gi_Odds.mk 0 0))<|P0) (ww_toOddsS _ _ H)
def Rw_toIntSS (r : (List (List Int))) : List D := [ow 1 (ow 1 I) r]
noncomputable def Kw_toIntSS : Sw_toIntSS → List Item
 | .h1 .. => nav 300 3 [] [.code (bdy f59)]
def Zw_toIntSS : Sw_toIntSS → St
 | .h1 va0 i1 l2 => ⟨sts 23 [(0, sl 1 (sl 1 I) va0), (3, .ref 0 1 none), (4, I i1)], [some ⟨false, false, 1, l2.length, List.map (ow 1 I) l2⟩]⟩
abbrev Qw_toIntSS := Nx X 59 0 Kw_toIntSS Zw_toIntSS Rw_toIntSS (fun _ => [])
theorem nw_toIntSS : ∀ s o, Bw_toIntSS s = some o → Qw_toIntSS (Kw_toIntSS s) (Zw_toIntSS s) o
 | .h1 va0 i1 l2, o, H =>
  eIf H (fun h1 H =>
  eCk H fun h2 H =>
  eBind H fun x3 hx3 H =>
  eBind H fun r4 hr4 H =>
  eCk H fun h5 H =>
  eBind H fun x6 hx6 H =>
  eN H fun r hn => gO [rg [hT 3], rg [hE 5 ((sl 1 I) x3), hC 6 true [] (Rw_toIntS r4) [], { i := 8, xs := List.set (List.map (ow 1 I) l2) (Int.toNat i1) (.ref 1 1 none), post := [.put 0 (Int.toNat i1) 0 1 (List.map (ow 1 I) (List.set l2 (Int.toNat i1) r4)), .own 0 (List.set l2 (Int.toNat i1) r4).length] }], r0, .canon [0] [0, 3, 4]] (by kernel_rfl) (P2 ((decide (i1 < ((va0.length : Nat) : Int))) = true) (decide_eq_true h1)<|P1 h2<|P1 (int_lt_of_at h2 hx3)<|P1 (at_map (sl 1 I) hx3)<|P1 (cw_toIntS hr4)<|P1 h5<|P1 (int_lt_of_at h5 hx6)<|P1 (lt_of_at hx6)<|P2 (setCells (List.map (ow 1 I) l2) (Int.toNat i1) 0 [.ref 1 1 none] = List.set (List.map (ow 1 I) l2) (Int.toNat i1) (.ref 1 1 none)) (setCells_mapD hx6 rfl)<|P2 (getCells (List.set (List.map (ow 1 I) l2) (Int.toNat i1) (.ref 1 1 none)) (Int.toNat i1) 0 1 = some [.ref 1 1 none]) (getCells_set hx6 rfl)<|P2 (setCells (List.set (List.map (ow 1 I) l2) (Int.toNat i1) (.ref 1 1 none)) (Int.toNat i1) 0 [ow 1 I r4] = List.map (ow 1 I) (List.set l2 (Int.toNat i1) r4)) (setCells_set hx6 rfl)<|P1 (allOw_26 (List.set l2 (Int.toNat i1) r4))<|P1 (setLen l2 (Int.toNat i1) r4)<|P0) hn)
  (fun h1 H =>
  eN H<|gE func59 [rg [hF 3], r0] (by kernel_rfl) (P2 ((decide (i1 < ((va0.length : Nat) : Int))) = false) (decide_eq_false h1)<|P0))
theorem ww_toIntSS : ∀ s r, loop Bw_toIntSS s = some r → Wc X 59 0 (Kw_toIntSS s) (Zw_toIntSS s) (Rw_toIntSS r) ((fun _ => []) r) := Nx.all (nw_toIntSS)
theorem cw_toIntSS {a0 : (List (List Int))} {r : (List (List Int))} (H : Dw_toIntSS a0 = some r) : Ct X.P X.gl 59 [sl 1 (sl 1 I) a0] [] (Rw_toIntSS r) [] :=
 Ct.of func59 (c := bdy f59) (by kernel_rfl) (by kernel_rfl) <|
 eCk H fun h1 H =>
 gO [r0, rg [{ i := 2, n := (List.replicate (Int.toNat ((a0.length : Nat) : Int)) ([] : (List Int))).length, xs := List.replicate (Int.toNat ((a0.length : Nat) : Int)) (.nil : D), post := [.nils 0 (List.map (ow 1 I) (List.replicate (Int.toNat ((a0.length : Nat) : Int)) ([] : (List Int))))] }], r0, .canon [0] [0, 3, 4]] (by kernel_rfl) (PI (((a0.length : Nat) : Int) : Int)<|P2 ((0 : Int) ≤ ((a0.length : Nat) : Int)) (by omega)<|P2 (Int.toNat ((a0.length : Nat) : Int) * 24 ≤ 140737488355328) h1<|P1 (repLen (Int.toNat ((a0.length : Nat) : Int)) ([] : (List Int)))<|P2 (List.replicate (Int.toNat ((a0.length : Nat) : Int)) (.nil : D) = List.replicate (Int.toNat ((a0.length : Nat) : Int)) (.nil : D)) rfl<|P2 (NilOk (List.replicate (Int.toNat ((a0.length : Nat) : Int)) (.nil : D)) (List.map (ow 1 I) (List.replicate (Int.toNat ((a0.length : Nat) : Int)) ([] : (List Int))))) (nilOk_rep (f := (ow 1 I)) (z := (.nil : D)) (x := ([] : (List Int))) (nilC_n nilC_0) (Int.toNat ((a0.length : Nat) : Int)))<|P0) (ww_toIntSS _ _ H)
def Rw_toCombatTable (r : Gi_CombatTable) : List D := [.agg [ow 2 gi_Odds r.Columns, I r.Dice, ow 1 (ow 1 I) r.Results]]
theorem cw_toCombatTable {a0 : Gw_CombatTable} {r : Gi_CombatTable} (H : Dw_toCombatTable a0 = some r) : Ct X.P X.gl 20 [gw_CombatTable a0] [] (Rw_toCombatTable r) [] :=
 Ct.of func20 (c := bdy f20) (by kernel_rfl) (by kernel_rfl) <|
 eBind H fun r1 hr1 H =>
 eBind H fun r2 hr2 H =>
 eW Rw_toCombatTable (fun _ => []) H<|gE func20 [r0, r0, rg [hC 2 true [] (Rw_toOddsS r1) []], r0, rg [hC 2 true [] (Rw_toIntSS r2) []], r0] (by kernel_rfl) (P1 (cw_toOddsS hr1)<|P1 (cw_toIntSS hr2)<|P0)
def Rw_toUnit (r : Gi_Unit) : List D := [.agg [I r.Side, I r.Kind, I r.At, I r.Steps]]
theorem cw_toUnit {a0 : Gw_Unit} {r : Gi_Unit} (H : Dw_toUnit a0 = some r) : Ct X.P X.gl 102 [gw_Unit a0] [] (Rw_toUnit r) [] :=
 Ct.of func102 (c := bdy f102) (by kernel_rfl) (by kernel_rfl) <|
 eW Rw_toUnit (fun _ => []) H<|gE func102 [r0, r0, r0, r0, r0, r0, r0] (by kernel_rfl) P0
def Rw_toUnitS (r : (List Gi_Unit)) : List D := [ow 4 gi_Unit r]
noncomputable def Kw_toUnitS : Sw_toUnitS → List Item
 | .h1 .. => nav 300 3 [] [.code (bdy f60)]
def Zw_toUnitS : Sw_toUnitS → St
 | .h1 va0 i1 l2 => ⟨sts 23 [(0, sl 4 gw_Unit va0), (3, .ref 0 4 none), (4, I i1)], [some ⟨false, false, 4, l2.length, List.map gi_Unit l2⟩]⟩
abbrev Qw_toUnitS := Nx X 60 0 Kw_toUnitS Zw_toUnitS Rw_toUnitS (fun _ => [])
theorem nw_toUnitS : ∀ s o, Bw_toUnitS s = some o → Qw_toUnitS (Kw_toUnitS s) (Zw_toUnitS s) o
 | .h1 va0 i1 l2, o, H =>
  eIf H (fun h1 H =>
  eCk H fun h2 H =>
  eBind H fun x3 hx3 H =>
  eBind H fun r4 hr4 H =>
  eCk H fun h5 H =>
  eBind H fun x6 hx6 H =>
  eN H fun r hn => gO [rg [hT 3], rg [hE 5 (gw_Unit x3), hC 6 true [] (Rw_toUnit r4) [], hA 8 ((List.set l2 (Int.toNat i1) r4).length) (List.map gi_Unit (List.set l2 (Int.toNat i1) r4))], r0, .canon [0] [0, 3, 4]] (by kernel_rfl) (P2 ((decide (i1 < ((va0.length : Nat) : Int))) = true) (decide_eq_true h1)<|P1 h2<|P1 (int_lt_of_at h2 hx3)<|P1 (at_map gw_Unit hx3)<|P1 (cw_toUnit hr4)<|P1 h5<|P1 (int_lt_of_at h5 hx6)<|P1 (lt_of_at hx6)<|P2 (setCells (List.map gi_Unit l2) (Int.toNat i1) 0 [I r4.Side, I r4.Kind, I r4.At, I r4.Steps] = List.map gi_Unit (List.set l2 (Int.toNat i1) r4)) (setCells_map hx6 rfl)<|P1 (setLen l2 (Int.toNat i1) r4)<|P0) hn)
  (fun h1 H =>
  eN H<|gE func60 [rg [hF 3], r0] (by kernel_rfl) (P2 ((decide (i1 < ((va0.length : Nat) : Int))) = false) (decide_eq_false h1)<|P0))
theorem ww_toUnitS : ∀ s r, loop Bw_toUnitS s = some r → Wc X 60 0 (Kw_toUnitS s) (Zw_toUnitS s) (Rw_toUnitS r) ((fun _ => []) r) := Nx.all (nw_toUnitS)
theorem cw_toUnitS {a0 : (List Gw_Unit)} {r : (List Gi_Unit)} (H : Dw_toUnitS a0 = some r) : Ct X.P X.gl 60 [sl 4 gw_Unit a0] [] (Rw_toUnitS r) [] :=
 Ct.of func60 (c := bdy f60) (by kernel_rfl) (by kernel_rfl) <|
 eCk H fun h1 H =>
 gO [r0, rg [hA 2 ((List.replicate (Int.toNat ((a0.length : Nat) : Int)) (Gi_Unit.mk 0 0 0 0)).length) (List.map gi_Unit (List.replicate (Int.toNat ((a0.length : Nat) : Int)) (Gi_Unit.mk 0 0 0 0)))], r0, .canon [0] [0, 3, 4]] (by kernel_rfl) (PI (((a0.length : Nat) : Int) : Int)<|P2 ((0 : Int) ≤ ((a0.length : Nat) : Int)) (by omega)<|P2 (Int.toNat ((a0.length : Nat) : Int) * 32 ≤ 140737488355328) h1<|P1 (repLen (Int.toNat ((a0.length : Nat) : Int)) (Gi_Unit.mk 0 0 0 0))<|P1 (repMap gi_Unit (Int.toNat ((a0.length : Nat) : Int)) (Gi_Unit.mk 0 0 0 0))<|P0) (ww_toUnitS _ _ H)
def Rw_toState (r : Gi_State) : List D := [.agg [I r.Turn, I r.Weather, ow 4 gi_Unit r.Units]]
theorem cw_toState {a0 : Gw_State} {r : Gi_State} (H : Dw_toState a0 = some r) : Ct X.P X.gl 21 [gw_State a0] [] (Rw_toState r) [] :=
 Ct.of func21 (c := bdy f21) (by kernel_rfl) (by kernel_rfl) <|
 eBind H fun r1 hr1 H =>
 eW Rw_toState (fun _ => []) H<|gE func21 [r0, r0, r0, r0, rg [hC 2 true [] (Rw_toUnitS r1) []], r0] (by kernel_rfl) (P1 (cw_toUnitS hr1)<|P0)
def Rw_toGoal (r : Gi_Goal) : List D := [.agg [I r.At, I r.Points]]
theorem cw_toGoal {a0 : Gw_Goal} {r : Gi_Goal} (H : Dw_toGoal a0 = some r) : Ct X.P X.gl 103 [gw_Goal a0] [] (Rw_toGoal r) [] :=
 Ct.of func103 (c := bdy f103) (by kernel_rfl) (by kernel_rfl) <|
 eW Rw_toGoal (fun _ => []) H<|gE func103 [r0, r0, r0, r0, r0] (by kernel_rfl) P0
def Rw_toGoalS (r : (List Gi_Goal)) : List D := [ow 2 gi_Goal r]
noncomputable def Kw_toGoalS : Sw_toGoalS → List Item
 | .h1 .. => nav 300 3 [] [.code (bdy f61)]
def Zw_toGoalS : Sw_toGoalS → St
 | .h1 va0 i1 l2 => ⟨sts 23 [(0, sl 2 gw_Goal va0), (3, .ref 0 2 none), (4, I i1)], [some ⟨false, false, 2, l2.length, List.map gi_Goal l2⟩]⟩
abbrev Qw_toGoalS := Nx X 61 0 Kw_toGoalS Zw_toGoalS Rw_toGoalS (fun _ => [])
theorem nw_toGoalS : ∀ s o, Bw_toGoalS s = some o → Qw_toGoalS (Kw_toGoalS s) (Zw_toGoalS s) o
 | .h1 va0 i1 l2, o, H =>
  eIf H (fun h1 H =>
  eCk H fun h2 H =>
  eBind H fun x3 hx3 H =>
  eBind H fun r4 hr4 H =>
  eCk H fun h5 H =>
  eBind H fun x6 hx6 H =>
  eN H fun r hn => gO [rg [hT 3], rg [hE 5 (gw_Goal x3), hC 6 true [] (Rw_toGoal r4) [], hA 8 ((List.set l2 (Int.toNat i1) r4).length) (List.map gi_Goal (List.set l2 (Int.toNat i1) r4))], r0, .canon [0] [0, 3, 4]] (by kernel_rfl) (P2 ((decide (i1 < ((va0.length : Nat) : Int))) = true) (decide_eq_true h1)<|P1 h2<|P1 (int_lt_of_at h2 hx3)<|P1 (at_map gw_Goal hx3)<|P1 (cw_toGoal hr4)<|P1 h5<|P1 (int_lt_of_at h5 hx6)<|P1 (lt_of_at hx6)<|P2 (setCells (List.map gi_Goal l2) (Int.toNat i1) 0 [I r4.At, I r4.Points] = List.map gi_Goal (List.set l2 (Int.toNat i1) r4)) (setCells_map hx6 rfl)<|P1 (setLen l2 (Int.toNat i1) r4)<|P0) hn)
  (fun h1 H =>
  eN H<|gE func61 [rg [hF 3], r0] (by kernel_rfl) (P2 ((decide (i1 < ((va0.length : Nat) : Int))) = false) (decide_eq_false h1)<|P0))
theorem ww_toGoalS : ∀ s r, loop Bw_toGoalS s = some r → Wc X 61 0 (Kw_toGoalS s) (Zw_toGoalS s) (Rw_toGoalS r) ((fun _ => []) r) := Nx.all (nw_toGoalS)
theorem cw_toGoalS {a0 : (List Gw_Goal)} {r : (List Gi_Goal)} (H : Dw_toGoalS a0 = some r) : Ct X.P X.gl 61 [sl 2 gw_Goal a0] [] (Rw_toGoalS r) [] :=
 Ct.of func61 (c := bdy f61) (by kernel_rfl) (by kernel_rfl) <|
 eCk H fun h1 H =>
 gO [r0, rg [hA 2 ((List.replicate (Int.toNat ((a0.length : Nat) : Int)) (Gi_Goal.mk 0 0)).length) (List.map gi_Goal (List.replicate (Int.toNat ((a0.length : Nat) : Int)) (Gi_Goal.mk 0 0)))], r0, .canon [0] [0, 3, 4]] (by kernel_rfl) (PI (((a0.length : Nat) : Int) : Int)<|P2 ((0 : Int) ≤ ((a0.length : Nat) : Int)) (by omega)<|P2 (Int.toNat ((a0.length : Nat) : Int) * 16 ≤ 140737488355328) h1<|P1 (repLen (Int.toNat ((a0.length : Nat) : Int)) (Gi_Goal.mk 0 0))<|P1 (repMap gi_Goal (Int.toNat ((a0.length : Nat) : Int)) (Gi_Goal.mk 0 0))<|P0) (ww_toGoalS _ _ H)
def Rw_toConditions (r : Gi_Conditions) : List D := [.agg [ow 2 gi_Goal r.Goals, I r.Step, I r.Margin]]
theorem cw_toConditions {a0 : Gw_Conditions} {r : Gi_Conditions} (H : Dw_toConditions a0 = some r) : Ct X.P X.gl 22 [gw_Conditions a0] [] (Rw_toConditions r) [] :=
 Ct.of func22 (c := bdy f22) (by kernel_rfl) (by kernel_rfl) <|
 eBind H fun r1 hr1 H =>
 eW Rw_toConditions (fun _ => []) H<|gE func22 [r0, r0, rg [hC 2 true [] (Rw_toGoalS r1) []], r0, r0, r0] (by kernel_rfl) (P1 (cw_toGoalS hr1)<|P0)
def Rw_toScenario (r : Gi_Scenario) : List D := [.agg [.str r.Name, ow 5 goi_Terrain r.Board.Rules.Terrains, ow 6 gi_Kind r.Board.Rules.Kinds, I r.Board.Rules.Stack, I r.Board.Rules.River, I r.Board.Rules.Road, I r.Board.Rules.Supply, I r.Board.Rules.Turns, I r.Board.Map.Width, I r.Board.Map.Height, ow 1 I r.Board.Map.Terrain, ow 1 I r.Board.Map.Rivers, ow 1 I r.Board.Map.Roads, ow 2 gi_Odds r.Table.Columns, I r.Table.Dice, ow 1 (ow 1 I) r.Table.Results, I r.Start.Turn, I r.Start.Weather, ow 4 gi_Unit r.Start.Units, ow 2 gi_Goal r.Conditions.Goals, I r.Conditions.Step, I r.Conditions.Margin, ow 1 I r.First, ow 1 I r.Other]]
theorem cw_toScenario {a0 : Gw_Scenario} {r : Gi_Scenario} (H : Dw_toScenario a0 = some r) : Ct X.P X.gl 7 [gw_Scenario a0] [] (Rw_toScenario r) [] :=
 Ct.of func7 (c := bdy f7) (by kernel_rfl) (by kernel_rfl) <|
 eBind H fun r1 hr1 H =>
 eBind H fun r2 hr2 H =>
 eBind H fun r3 hr3 H =>
 eBind H fun r4 hr4 H =>
 eBind H fun r5 hr5 H =>
 eBind H fun r6 hr6 H =>
 eW Rw_toScenario (fun _ => []) H<|gE func7 [r0, r0, r0, rg [hC 2 true [] (Rw_toBoard r1) []], rg [hC 2 true [] (Rw_toCombatTable r2) []], rg [hC 2 true [] (Rw_toState r3) []], rg [hC 2 true [] (Rw_toConditions r4) []], rg [hC 2 true [] (Rw_toIntS r5) []], rg [hC 2 true [] (Rw_toIntS r6) []], r0] (by kernel_rfl) (P1 (cw_toBoard hr1)<|P1 (cw_toCombatTable hr2)<|P1 (cw_toState hr3)<|P1 (cw_toConditions hr4)<|P1 (cw_toIntS hr5)<|P1 (cw_toIntS hr6)<|P0)
theorem cs_l1In {a0 : Int} {a1 : Int} {a2 : Int} {r : Bool} (H : Ds_l1In a0 a1 a2 = some r) : Ct X.P X.gl 141 [I a0, I a1, I a2] [] (RB r) [] :=
 Ct.of func141 (c := bdy f141) (by kernel_rfl) (by kernel_rfl) <|
 gS [r0] (by kernel_rfl) P0 <|
 eIf H (fun h1 H =>
 eW RB (fun _ => []) H<|gE func141 [rg [hT 2]] (by kernel_rfl) (P2 ((decide (a0 ≥ a1)) = true) (decide_eq_true h1)<|P0))
 (fun h1 H =>
 eW RB (fun _ => []) H<|gE func141 [rg [hF 2]] (by kernel_rfl) (P2 ((decide (a0 ≥ a1)) = false) (decide_eq_false h1)<|P0))
noncomputable def Ks_rName : Ss_rName → List Item
 | .h1 .. => nav 300 2 [] [.code (bdy f92)]
def Zs_rName : Ss_rName → St
 | .h1 s0 i1 => ⟨sts 23 [(0, .str s0), (3, I i1)], []⟩
abbrev Qs_rName := Nx X 92 0 Ks_rName Zs_rName RB (fun _ => [])
theorem ns_rName : ∀ s o, Bs_rName s = some o → Qs_rName (Ks_rName s) (Zs_rName s) o
 | .h1 s0 i1, o, H =>
  eIf H (fun h1 H =>
  eCk H fun h2 H =>
  eCk H fun h3 H =>
  gN [rg [hT 3]] (by kernel_rfl) (P2 ((decide (i1 < ((ByteArray.size s0 : Nat) : Int))) = true) (decide_eq_true h1)<|P0) <|
  eIf H (fun h4 H =>
  eN H<|gE func92 [rg [{ i := 2, n := byteAt s0 (Int.toNat i1) }, hT 3], r0] (by kernel_rfl) (P2 ((0 : Int) ≤ i1) h2<|P2 (i1 < (ByteArray.size s0 : Int)) h3<|P2 ((s0.data.toList[(Int.toNat i1)]?.map fun b => (b.toNat : Int)) = some ((byteAt s0 (Int.toNat i1) : Nat) : Int)) (byteAt_ok (by omega))<|P2 ((decide (((byteAt s0 (Int.toNat i1) : Nat) : Int) < 97)) = true) (decide_eq_true h4)<|P0))
  (fun h4 H =>
  eCk H fun h5 H =>
  eCk H fun h6 H =>
  eIf H (fun h7 H =>
  eN H<|gE func92 [rg [{ i := 2, n := byteAt s0 (Int.toNat i1) }, hF 3, { i := 7, n := byteAt s0 (Int.toNat i1) }, hT 8], r0] (by kernel_rfl) (P2 ((0 : Int) ≤ i1) h2<|P2 (i1 < (ByteArray.size s0 : Int)) h3<|P2 ((s0.data.toList[(Int.toNat i1)]?.map fun b => (b.toNat : Int)) = some ((byteAt s0 (Int.toNat i1) : Nat) : Int)) (byteAt_ok (by omega))<|P2 ((decide (((byteAt s0 (Int.toNat i1) : Nat) : Int) < 97)) = false) (decide_eq_false h4)<|P2 ((0 : Int) ≤ i1) h5<|P2 (i1 < (ByteArray.size s0 : Int)) h6<|P2 ((s0.data.toList[(Int.toNat i1)]?.map fun b => (b.toNat : Int)) = some ((byteAt s0 (Int.toNat i1) : Nat) : Int)) (byteAt_ok (by omega))<|P2 ((decide (((byteAt s0 (Int.toNat i1) : Nat) : Int) > 122)) = true) (decide_eq_true h7)<|P0))
  (fun h7 H =>
  eN H fun r hn => gO [rg [{ i := 2, n := byteAt s0 (Int.toNat i1) }, hF 3, { i := 7, n := byteAt s0 (Int.toNat i1) }, hF 8], r0, .canon [] [0, 3]] (by kernel_rfl) (P2 ((0 : Int) ≤ i1) h2<|P2 (i1 < (ByteArray.size s0 : Int)) h3<|P2 ((s0.data.toList[(Int.toNat i1)]?.map fun b => (b.toNat : Int)) = some ((byteAt s0 (Int.toNat i1) : Nat) : Int)) (byteAt_ok (by omega))<|P2 ((decide (((byteAt s0 (Int.toNat i1) : Nat) : Int) < 97)) = false) (decide_eq_false h4)<|P2 ((0 : Int) ≤ i1) h5<|P2 (i1 < (ByteArray.size s0 : Int)) h6<|P2 ((s0.data.toList[(Int.toNat i1)]?.map fun b => (b.toNat : Int)) = some ((byteAt s0 (Int.toNat i1) : Nat) : Int)) (byteAt_ok (by omega))<|P2 ((decide (((byteAt s0 (Int.toNat i1) : Nat) : Int) > 122)) = false) (decide_eq_false h7)<|P0) hn)))
  (fun h1 H =>
  eBind H fun r2 hr2 H =>
  eN H<|gE func92 [rg [hF 3], rg [hC 2 true [] (RB r2) []]] (by kernel_rfl) (P2 ((decide (i1 < ((ByteArray.size s0 : Nat) : Int))) = false) (decide_eq_false h1)<|P1 (cs_l1In hr2)<|P0))
theorem ws_rName : ∀ s r, loop Bs_rName s = some r → Wc X 92 0 (Ks_rName s) (Zs_rName s) (RB r) ((fun _ => []) r) := Nx.all (ns_rName)
theorem cs_rName {a0 : ByteArray} {r : Bool} (H : Ds_rName a0 = some r) : Ct X.P X.gl 92 [.str a0] [] (RB r) [] :=
 Ct.of func92 (c := bdy f92) (by kernel_rfl) (by kernel_rfl) <|
 gO [r0, r0, .canon [] [0, 3]] (by kernel_rfl) P0 (ws_rName _ _ H)
noncomputable def Ks_rTerrain : Ss_rTerrain → List Item
 | .h1 .. => nav 300 2 [] [.code (bdy f197)]
def Zs_rTerrain : Ss_rTerrain → St
 | .h1 name0 t1 t2 t3 => ⟨sts 20 [(1, .str name0), (7, sl 5 gi_Terrain t1), (8, I t2), (9, I t3)], []⟩
abbrev Qs_rTerrain := Nx X 197 0 Ks_rTerrain Zs_rTerrain RI (fun _ => [])
theorem ns_rTerrain : ∀ s o, Bs_rTerrain s = some o → Qs_rTerrain (Ks_rTerrain s) (Zs_rTerrain s) o
 | .h1 name0 t1 t2 t3, o, H =>
  eIf H (fun h1 H =>
  eCk H fun h2 H =>
  eBind H fun x3 hx3 H =>
  gN [rg [hT 0], rg [hE 2 (gi_Terrain x3)]] (by kernel_rfl) (P2 ((decide (t3 < t2)) = true) (decide_eq_true h1)<|P1 h2<|P1 (int_lt_of_at h2 hx3)<|P1 (at_map gi_Terrain hx3)<|P0) <|
  eIf H (fun h4 H =>
  eN H<|gE func197 [rg [hT 3], r0] (by kernel_rfl) (P2 ((x3.Name == name0) = true) (beqT h4)<|P0))
  (fun h4 H =>
  eN H fun r hn => gO [rg [hF 3], r0, .canon [] [1, 7, 8, 9]] (by kernel_rfl) (P2 ((x3.Name == name0) = false) (beqF h4)<|P0) hn))
  (fun h1 H =>
  eN H<|gE func197 [rg [hF 0], r0] (by kernel_rfl) (P2 ((decide (t3 < t2)) = false) (decide_eq_false h1)<|P0))
theorem ws_rTerrain : ∀ s r, loop Bs_rTerrain s = some r → Wc X 197 0 (Ks_rTerrain s) (Zs_rTerrain s) (RI r) ((fun _ => []) r) := Nx.all (ns_rTerrain)
theorem cs_rTerrain {a0 : (List Gi_Terrain)} {a1 : ByteArray} {r : Int} (H : Ds_rTerrain a0 a1 = some r) : Ct X.P X.gl 197 [sl 5 gi_Terrain a0, .str a1] [] (RI r) [] :=
 Ct.of func197 (c := bdy f197) (by kernel_rfl) (by kernel_rfl) <|
 gO [r0, r0, .canon [] [1, 7, 8, 9]] (by kernel_rfl) P0 (ws_rTerrain _ _ H)
noncomputable def Ks_l1All : Ss_l1All → List Item
 | .h1 .. => nav 300 2 [] [.code (bdy f144)]
def Zs_l1All : Ss_l1All → St
 | .h1 lo0 vhi1 t2 t3 t4 => ⟨sts 21 [(1, I lo0), (2, I vhi1), (9, sl 1 I t2), (10, I t3), (11, I t4)], []⟩
abbrev Qs_l1All := Nx X 144 0 Ks_l1All Zs_l1All RB (fun _ => [])
theorem ns_l1All : ∀ s o, Bs_l1All s = some o → Qs_l1All (Ks_l1All s) (Zs_l1All s) o
 | .h1 lo0 vhi1 t2 t3 t4, o, H =>
  eIf H (fun h1 H =>
  eCk H fun h2 H =>
  eBind H fun x3 hx3 H =>
  eBind H fun r4 hr4 H =>
  gN [rg [hT 0], rg [hE 1 (I x3)]] (by kernel_rfl) (P2 ((decide (t4 < t3)) = true) (decide_eq_true h1)<|P1 h2<|P1 (int_lt_of_at h2 hx3)<|P1 (at_map I hx3)<|P0) <|
  eIf H (fun h5 H =>
  eN H fun r hn => gO [rg [{ i := 3, call := some { cl := true, auto := true, ins := [], res := (RB r4), G' := [] }, dec := some true }], r0, .canon [] [1, 2, 9, 10, 11]] (by kernel_rfl) (P1 (cs_l1In hr4)<|P2 (r4 = true) (h5)<|P0) hn)
  (fun h5 H =>
  eN H<|gE func144 [rg [{ i := 3, call := some { cl := true, auto := true, ins := [], res := (RB r4), G' := [] }, dec := some false }], r0] (by kernel_rfl) (P1 (cs_l1In hr4)<|P2 (r4 = false) (eqF h5)<|P0)))
  (fun h1 H =>
  eN H<|gE func144 [rg [hF 0], r0] (by kernel_rfl) (P2 ((decide (t4 < t3)) = false) (decide_eq_false h1)<|P0))
theorem ws_l1All : ∀ s r, loop Bs_l1All s = some r → Wc X 144 0 (Ks_l1All s) (Zs_l1All s) (RB r) ((fun _ => []) r) := Nx.all (ns_l1All)
theorem cs_l1All {a0 : (List Int)} {a1 : Int} {a2 : Int} {r : Bool} (H : Ds_l1All a0 a1 a2 = some r) : Ct X.P X.gl 144 [sl 1 I a0, I a1, I a2] [] (RB r) [] :=
 Ct.of func144 (c := bdy f144) (by kernel_rfl) (by kernel_rfl) <|
 gO [r0, r0, .canon [] [1, 2, 9, 10, 11]] (by kernel_rfl) P0 (ws_l1All _ _ H)
noncomputable def Ks_rKind : Ss_rKind → List Item
 | .h1 .. => nav 300 2 [] [.code (bdy f198)]
def Zs_rKind : Ss_rKind → St
 | .h1 name0 t1 t2 t3 => ⟨sts 20 [(1, .str name0), (7, sl 6 gi_Kind t1), (8, I t2), (9, I t3)], []⟩
abbrev Qs_rKind := Nx X 198 0 Ks_rKind Zs_rKind RI (fun _ => [])
theorem ns_rKind : ∀ s o, Bs_rKind s = some o → Qs_rKind (Ks_rKind s) (Zs_rKind s) o
 | .h1 name0 t1 t2 t3, o, H =>
  eIf H (fun h1 H =>
  eCk H fun h2 H =>
  eBind H fun x3 hx3 H =>
  gN [rg [hT 0], rg [hE 2 (gi_Kind x3)]] (by kernel_rfl) (P2 ((decide (t3 < t2)) = true) (decide_eq_true h1)<|P1 h2<|P1 (int_lt_of_at h2 hx3)<|P1 (at_map gi_Kind hx3)<|P0) <|
  eIf H (fun h4 H =>
  eN H<|gE func198 [rg [hT 3], r0] (by kernel_rfl) (P2 ((x3.Name == name0) = true) (beqT h4)<|P0))
  (fun h4 H =>
  eN H fun r hn => gO [rg [hF 3], r0, .canon [] [1, 7, 8, 9]] (by kernel_rfl) (P2 ((x3.Name == name0) = false) (beqF h4)<|P0) hn))
  (fun h1 H =>
  eN H<|gE func198 [rg [hF 0], r0] (by kernel_rfl) (P2 ((decide (t3 < t2)) = false) (decide_eq_false h1)<|P0))
theorem ws_rKind : ∀ s r, loop Bs_rKind s = some r → Wc X 198 0 (Ks_rKind s) (Zs_rKind s) (RI r) ((fun _ => []) r) := Nx.all (ns_rKind)
theorem cs_rKind {a0 : (List Gi_Kind)} {a1 : ByteArray} {r : Int} (H : Ds_rKind a0 a1 = some r) : Ct X.P X.gl 198 [sl 6 gi_Kind a0, .str a1] [] (RI r) [] :=
 Ct.of func198 (c := bdy f198) (by kernel_rfl) (by kernel_rfl) <|
 gO [r0, r0, .canon [] [1, 7, 8, 9]] (by kernel_rfl) P0 (ws_rKind _ _ H)
noncomputable def Ks_rGood : Ss_rGood → List Item
 | .h1 .. => nav 300 3 [false] [.code (bdy f142)]
 | .h2 .. => nav 300 5 [false, false] [.code (bdy f142)]
def Zs_rGood : Ss_rGood → St
 | .h1 t0 t1 t2 b3 => ⟨sts 137 [(1, .ptr 0 7 0 0), (20, sl 5 gi_Terrain t0), (21, I t1), (22, I t2)], [some ⟨false, true, 7, 1, [gi_Rules b3]⟩]⟩
 | .h2 t0 t1 t2 b3 => ⟨sts 137 [(1, .ptr 0 7 0 0), (69, sl 6 gi_Kind t0), (70, I t1), (71, I t2)], [some ⟨false, true, 7, 1, [gi_Rules b3]⟩]⟩
abbrev Qs_rGood := Nx X 142 0 Ks_rGood Zs_rGood RB (fun _ => [])
theorem ns_rGood : ∀ s o, Bs_rGood s = some o → Qs_rGood (Ks_rGood s) (Zs_rGood s) o
 | .h1 t0 t1 t2 b3, o, H =>
  eIf H (fun h1 H =>
  eCk H fun h2 H =>
  eBind H fun x3 hx3 H =>
  eBind H fun r4 hr4 H =>
  gN [rg [hT 0], rg [hE 2 (gi_Terrain x3)]] (by kernel_rfl) (P2 ((decide (t2 < t1)) = true) (decide_eq_true h1)<|P1 h2<|P1 (int_lt_of_at h2 hx3)<|P1 (at_map gi_Terrain hx3)<|P0) <|
  eIf H (fun h5 H =>
  eBind H fun r6 hr6 H =>
  eIf H (fun h7 H =>
  eIf H (fun h8 H =>
  eBind H fun r9 hr9 H =>
  eIf H (fun h10 H =>
  eBind H fun r11 hr11 H =>
  eIf H (fun h12 H =>
  eBind H fun r13 hr13 H =>
  eIf H (fun h14 H =>
  eN H fun r hn => gO [rg [{ i := 2, call := some { cl := true, auto := true, ins := [], res := (RB r4), G' := [] }, dec := some true }, hC 9 true [] (RI r6) [], hF 11, hF 20, { i := 25, call := some { cl := true, auto := true, ins := [], res := (RB r9), G' := [] }, dec := some true }, { i := 31, call := some { cl := true, auto := true, ins := [], res := (RB r11), G' := [] }, dec := some true }, { i := 37, call := some { cl := true, auto := true, ins := [], res := (RB r13), G' := [] }, dec := some true }], r0, .canon [0] [1, 20, 21, 22]] (by kernel_rfl) (P1 (cs_rName hr4)<|P2 (r4 = true) (h5)<|P1 (cs_rTerrain hr6)<|P2 (((r6 : Int) != t2) = false) (bneF h7)<|P2 (((((x3.Cost.length : Nat) : Int) : Int) != ((b3.Kinds.length : Nat) : Int)) = false) (bneF h8)<|P1 (cs_l1All hr9)<|P2 (r9 = true) (h10)<|P1 (cs_l1In hr11)<|P2 (r11 = true) (h12)<|P1 (cs_l1In hr13)<|P2 (r13 = true) (h14)<|P0) hn)
  (fun h14 H =>
  eN H<|gE func142 [rg [{ i := 2, call := some { cl := true, auto := true, ins := [], res := (RB r4), G' := [] }, dec := some true }, hC 9 true [] (RI r6) [], hF 11, hF 20, { i := 25, call := some { cl := true, auto := true, ins := [], res := (RB r9), G' := [] }, dec := some true }, { i := 31, call := some { cl := true, auto := true, ins := [], res := (RB r11), G' := [] }, dec := some true }, { i := 37, call := some { cl := true, auto := true, ins := [], res := (RB r13), G' := [] }, dec := some false }], r0] (by kernel_rfl) (P1 (cs_rName hr4)<|P2 (r4 = true) (h5)<|P1 (cs_rTerrain hr6)<|P2 (((r6 : Int) != t2) = false) (bneF h7)<|P2 (((((x3.Cost.length : Nat) : Int) : Int) != ((b3.Kinds.length : Nat) : Int)) = false) (bneF h8)<|P1 (cs_l1All hr9)<|P2 (r9 = true) (h10)<|P1 (cs_l1In hr11)<|P2 (r11 = true) (h12)<|P1 (cs_l1In hr13)<|P2 (r13 = false) (eqF h14)<|P0)))
  (fun h12 H =>
  eN H<|gE func142 [rg [{ i := 2, call := some { cl := true, auto := true, ins := [], res := (RB r4), G' := [] }, dec := some true }, hC 9 true [] (RI r6) [], hF 11, hF 20, { i := 25, call := some { cl := true, auto := true, ins := [], res := (RB r9), G' := [] }, dec := some true }, { i := 31, call := some { cl := true, auto := true, ins := [], res := (RB r11), G' := [] }, dec := some false }], r0] (by kernel_rfl) (P1 (cs_rName hr4)<|P2 (r4 = true) (h5)<|P1 (cs_rTerrain hr6)<|P2 (((r6 : Int) != t2) = false) (bneF h7)<|P2 (((((x3.Cost.length : Nat) : Int) : Int) != ((b3.Kinds.length : Nat) : Int)) = false) (bneF h8)<|P1 (cs_l1All hr9)<|P2 (r9 = true) (h10)<|P1 (cs_l1In hr11)<|P2 (r11 = false) (eqF h12)<|P0)))
  (fun h10 H =>
  eN H<|gE func142 [rg [{ i := 2, call := some { cl := true, auto := true, ins := [], res := (RB r4), G' := [] }, dec := some true }, hC 9 true [] (RI r6) [], hF 11, hF 20, { i := 25, call := some { cl := true, auto := true, ins := [], res := (RB r9), G' := [] }, dec := some false }], r0] (by kernel_rfl) (P1 (cs_rName hr4)<|P2 (r4 = true) (h5)<|P1 (cs_rTerrain hr6)<|P2 (((r6 : Int) != t2) = false) (bneF h7)<|P2 (((((x3.Cost.length : Nat) : Int) : Int) != ((b3.Kinds.length : Nat) : Int)) = false) (bneF h8)<|P1 (cs_l1All hr9)<|P2 (r9 = false) (eqF h10)<|P0)))
  (fun h8 H =>
  eN H<|gE func142 [rg [{ i := 2, call := some { cl := true, auto := true, ins := [], res := (RB r4), G' := [] }, dec := some true }, hC 9 true [] (RI r6) [], hF 11, hT 20], r0] (by kernel_rfl) (P1 (cs_rName hr4)<|P2 (r4 = true) (h5)<|P1 (cs_rTerrain hr6)<|P2 (((r6 : Int) != t2) = false) (bneF h7)<|P2 (((((x3.Cost.length : Nat) : Int) : Int) != ((b3.Kinds.length : Nat) : Int)) = true) (bneT h8)<|P0)))
  (fun h7 H =>
  eN H<|gE func142 [rg [{ i := 2, call := some { cl := true, auto := true, ins := [], res := (RB r4), G' := [] }, dec := some true }, hC 9 true [] (RI r6) [], hT 11], r0] (by kernel_rfl) (P1 (cs_rName hr4)<|P2 (r4 = true) (h5)<|P1 (cs_rTerrain hr6)<|P2 (((r6 : Int) != t2) = true) (bneT h7)<|P0)))
  (fun h5 H =>
  eN H<|gE func142 [rg [{ i := 2, call := some { cl := true, auto := true, ins := [], res := (RB r4), G' := [] }, dec := some false }], r0] (by kernel_rfl) (P1 (cs_rName hr4)<|P2 (r4 = false) (eqF h5)<|P0)))
  (fun h1 H =>
  eN H fun r hn => gO [rg [hF 0], r0, .canon [0] [1, 69, 70, 71]] (by kernel_rfl) (P2 ((decide (t2 < t1)) = false) (decide_eq_false h1)<|P0) hn)
 | .h2 t0 t1 t2 b3, o, H =>
  eIf H (fun h1 H =>
  eCk H fun h2 H =>
  eBind H fun x3 hx3 H =>
  eBind H fun r4 hr4 H =>
  gN [rg [hT 0], rg [hE 2 (gi_Kind x3)]] (by kernel_rfl) (P2 ((decide (t2 < t1)) = true) (decide_eq_true h1)<|P1 h2<|P1 (int_lt_of_at h2 hx3)<|P1 (at_map gi_Kind hx3)<|P0) <|
  eIf H (fun h5 H =>
  eBind H fun r6 hr6 H =>
  eIf H (fun h7 H =>
  eBind H fun r8 hr8 H =>
  eIf H (fun h9 H =>
  eBind H fun r10 hr10 H =>
  eIf H (fun h11 H =>
  eBind H fun r12 hr12 H =>
  eIf H (fun h13 H =>
  eBind H fun r14 hr14 H =>
  eIf H (fun h15 H =>
  eN H fun r hn => gO [rg [{ i := 2, call := some { cl := true, auto := true, ins := [], res := (RB r4), G' := [] }, dec := some true }, hC 9 true [] (RI r6) [], hF 11, { i := 16, call := some { cl := true, auto := true, ins := [], res := (RB r8), G' := [] }, dec := some true }, { i := 22, call := some { cl := true, auto := true, ins := [], res := (RB r10), G' := [] }, dec := some true }, { i := 28, call := some { cl := true, auto := true, ins := [], res := (RB r12), G' := [] }, dec := some true }, { i := 34, call := some { cl := true, auto := true, ins := [], res := (RB r14), G' := [] }, dec := some true }], r0, .canon [0] [1, 69, 70, 71]] (by kernel_rfl) (P1 (cs_rName hr4)<|P2 (r4 = true) (h5)<|P1 (cs_rKind hr6)<|P2 (((r6 : Int) != t2) = false) (bneF h7)<|P1 (cs_l1In hr8)<|P2 (r8 = true) (h9)<|P1 (cs_l1In hr10)<|P2 (r10 = true) (h11)<|P1 (cs_l1In hr12)<|P2 (r12 = true) (h13)<|P1 (cs_l1In hr14)<|P2 (r14 = true) (h15)<|P0) hn)
  (fun h15 H =>
  eN H<|gE func142 [rg [{ i := 2, call := some { cl := true, auto := true, ins := [], res := (RB r4), G' := [] }, dec := some true }, hC 9 true [] (RI r6) [], hF 11, { i := 16, call := some { cl := true, auto := true, ins := [], res := (RB r8), G' := [] }, dec := some true }, { i := 22, call := some { cl := true, auto := true, ins := [], res := (RB r10), G' := [] }, dec := some true }, { i := 28, call := some { cl := true, auto := true, ins := [], res := (RB r12), G' := [] }, dec := some true }, { i := 34, call := some { cl := true, auto := true, ins := [], res := (RB r14), G' := [] }, dec := some false }], r0] (by kernel_rfl) (P1 (cs_rName hr4)<|P2 (r4 = true) (h5)<|P1 (cs_rKind hr6)<|P2 (((r6 : Int) != t2) = false) (bneF h7)<|P1 (cs_l1In hr8)<|P2 (r8 = true) (h9)<|P1 (cs_l1In hr10)<|P2 (r10 = true) (h11)<|P1 (cs_l1In hr12)<|P2 (r12 = true) (h13)<|P1 (cs_l1In hr14)<|P2 (r14 = false) (eqF h15)<|P0)))
  (fun h13 H =>
  eN H<|gE func142 [rg [{ i := 2, call := some { cl := true, auto := true, ins := [], res := (RB r4), G' := [] }, dec := some true }, hC 9 true [] (RI r6) [], hF 11, { i := 16, call := some { cl := true, auto := true, ins := [], res := (RB r8), G' := [] }, dec := some true }, { i := 22, call := some { cl := true, auto := true, ins := [], res := (RB r10), G' := [] }, dec := some true }, { i := 28, call := some { cl := true, auto := true, ins := [], res := (RB r12), G' := [] }, dec := some false }], r0] (by kernel_rfl) (P1 (cs_rName hr4)<|P2 (r4 = true) (h5)<|P1 (cs_rKind hr6)<|P2 (((r6 : Int) != t2) = false) (bneF h7)<|P1 (cs_l1In hr8)<|P2 (r8 = true) (h9)<|P1 (cs_l1In hr10)<|P2 (r10 = true) (h11)<|P1 (cs_l1In hr12)<|P2 (r12 = false) (eqF h13)<|P0)))
  (fun h11 H =>
  eN H<|gE func142 [rg [{ i := 2, call := some { cl := true, auto := true, ins := [], res := (RB r4), G' := [] }, dec := some true }, hC 9 true [] (RI r6) [], hF 11, { i := 16, call := some { cl := true, auto := true, ins := [], res := (RB r8), G' := [] }, dec := some true }, { i := 22, call := some { cl := true, auto := true, ins := [], res := (RB r10), G' := [] }, dec := some false }], r0] (by kernel_rfl) (P1 (cs_rName hr4)<|P2 (r4 = true) (h5)<|P1 (cs_rKind hr6)<|P2 (((r6 : Int) != t2) = false) (bneF h7)<|P1 (cs_l1In hr8)<|P2 (r8 = true) (h9)<|P1 (cs_l1In hr10)<|P2 (r10 = false) (eqF h11)<|P0)))
  (fun h9 H =>
  eN H<|gE func142 [rg [{ i := 2, call := some { cl := true, auto := true, ins := [], res := (RB r4), G' := [] }, dec := some true }, hC 9 true [] (RI r6) [], hF 11, { i := 16, call := some { cl := true, auto := true, ins := [], res := (RB r8), G' := [] }, dec := some false }], r0] (by kernel_rfl) (P1 (cs_rName hr4)<|P2 (r4 = true) (h5)<|P1 (cs_rKind hr6)<|P2 (((r6 : Int) != t2) = false) (bneF h7)<|P1 (cs_l1In hr8)<|P2 (r8 = false) (eqF h9)<|P0)))
  (fun h7 H =>
  eN H<|gE func142 [rg [{ i := 2, call := some { cl := true, auto := true, ins := [], res := (RB r4), G' := [] }, dec := some true }, hC 9 true [] (RI r6) [], hT 11], r0] (by kernel_rfl) (P1 (cs_rName hr4)<|P2 (r4 = true) (h5)<|P1 (cs_rKind hr6)<|P2 (((r6 : Int) != t2) = true) (bneT h7)<|P0)))
  (fun h5 H =>
  eN H<|gE func142 [rg [{ i := 2, call := some { cl := true, auto := true, ins := [], res := (RB r4), G' := [] }, dec := some false }], r0] (by kernel_rfl) (P1 (cs_rName hr4)<|P2 (r4 = false) (eqF h5)<|P0)))
  (fun h1 H =>
  eBind H fun r2 hr2 H =>
  gN [rg [hF 0]] (by kernel_rfl) (P2 ((decide (t2 < t1)) = false) (decide_eq_false h1)<|P0) <|
  eIf H (fun h3 H =>
  eBind H fun r4 hr4 H =>
  eIf H (fun h5 H =>
  eBind H fun r6 hr6 H =>
  eIf H (fun h7 H =>
  eBind H fun r8 hr8 H =>
  eIf H (fun h9 H =>
  eBind H fun r10 hr10 H =>
  eN H<|gE func142 [rg [{ i := 2, call := some { cl := true, auto := true, ins := [], res := (RB r2), G' := [] }, dec := some true }, { i := 6, call := some { cl := true, auto := true, ins := [], res := (RB r4), G' := [] }, dec := some true }, { i := 11, call := some { cl := true, auto := true, ins := [], res := (RB r6), G' := [] }, dec := some true }, { i := 16, call := some { cl := true, auto := true, ins := [], res := (RB r8), G' := [] }, dec := some true }, hC 21 true [] (RB r10) []]] (by kernel_rfl) (P1 (cs_l1In hr2)<|P2 (r2 = true) (h3)<|P1 (cs_l1In hr4)<|P2 (r4 = true) (h5)<|P1 (cs_l1In hr6)<|P2 (r6 = true) (h7)<|P1 (cs_l1In hr8)<|P2 (r8 = true) (h9)<|P1 (cs_l1In hr10)<|P0))
  (fun h9 H =>
  eN H<|gE func142 [rg [{ i := 2, call := some { cl := true, auto := true, ins := [], res := (RB r2), G' := [] }, dec := some true }, { i := 6, call := some { cl := true, auto := true, ins := [], res := (RB r4), G' := [] }, dec := some true }, { i := 11, call := some { cl := true, auto := true, ins := [], res := (RB r6), G' := [] }, dec := some true }, { i := 16, call := some { cl := true, auto := true, ins := [], res := (RB r8), G' := [] }, dec := some false }]] (by kernel_rfl) (P1 (cs_l1In hr2)<|P2 (r2 = true) (h3)<|P1 (cs_l1In hr4)<|P2 (r4 = true) (h5)<|P1 (cs_l1In hr6)<|P2 (r6 = true) (h7)<|P1 (cs_l1In hr8)<|P2 (r8 = false) (eqF h9)<|P0)))
  (fun h7 H =>
  eN H<|gE func142 [rg [{ i := 2, call := some { cl := true, auto := true, ins := [], res := (RB r2), G' := [] }, dec := some true }, { i := 6, call := some { cl := true, auto := true, ins := [], res := (RB r4), G' := [] }, dec := some true }, { i := 11, call := some { cl := true, auto := true, ins := [], res := (RB r6), G' := [] }, dec := some false }]] (by kernel_rfl) (P1 (cs_l1In hr2)<|P2 (r2 = true) (h3)<|P1 (cs_l1In hr4)<|P2 (r4 = true) (h5)<|P1 (cs_l1In hr6)<|P2 (r6 = false) (eqF h7)<|P0)))
  (fun h5 H =>
  eN H<|gE func142 [rg [{ i := 2, call := some { cl := true, auto := true, ins := [], res := (RB r2), G' := [] }, dec := some true }, { i := 6, call := some { cl := true, auto := true, ins := [], res := (RB r4), G' := [] }, dec := some false }]] (by kernel_rfl) (P1 (cs_l1In hr2)<|P2 (r2 = true) (h3)<|P1 (cs_l1In hr4)<|P2 (r4 = false) (eqF h5)<|P0)))
  (fun h3 H =>
  eN H<|gE func142 [rg [{ i := 2, call := some { cl := true, auto := true, ins := [], res := (RB r2), G' := [] }, dec := some false }]] (by kernel_rfl) (P1 (cs_l1In hr2)<|P2 (r2 = false) (eqF h3)<|P0)))
theorem ws_rGood : ∀ s r, loop Bs_rGood s = some r → Wc X 142 0 (Ks_rGood s) (Zs_rGood s) (RB r) ((fun _ => []) r) := Nx.all (ns_rGood)
theorem cs_rGood {a0 : Gi_Rules} {r : Bool} (H : Ds_rGood a0 = some r) : Ct X.P X.gl 142 [gi_Rules a0] [] (RB r) [] :=
 Ct.of func142 (c := bdy f142) (by kernel_rfl) (by kernel_rfl) <|
 eBind H fun r1 hr1 H =>
 gS [r0] (by kernel_rfl) P0 <|
 eIf H (fun h2 H =>
 eBind H fun r3 hr3 H =>
 eIf H (fun h4 H =>
 gO [rg [{ i := 3, call := some { cl := true, auto := true, ins := [], res := (RB r1), G' := [] }, dec := some true }, { i := 9, call := some { cl := true, auto := true, ins := [], res := (RB r3), G' := [] }, dec := some true }], r0, .canon [0] [1, 20, 21, 22]] (by kernel_rfl) (P1 (cs_l1In hr1)<|P2 (r1 = true) (h2)<|P1 (cs_l1In hr3)<|P2 (r3 = true) (h4)<|P0) (ws_rGood _ _ H))
 (fun h4 H =>
 eW RB (fun _ => []) H<|gE func142 [rg [{ i := 3, call := some { cl := true, auto := true, ins := [], res := (RB r1), G' := [] }, dec := some true }, { i := 9, call := some { cl := true, auto := true, ins := [], res := (RB r3), G' := [] }, dec := some false }], r0] (by kernel_rfl) (P1 (cs_l1In hr1)<|P2 (r1 = true) (h2)<|P1 (cs_l1In hr3)<|P2 (r3 = false) (eqF h4)<|P0)))
 (fun h2 H =>
 eW RB (fun _ => []) H<|gE func142 [rg [{ i := 3, call := some { cl := true, auto := true, ins := [], res := (RB r1), G' := [] }, dec := some false }], r0] (by kernel_rfl) (P1 (cs_l1In hr1)<|P2 (r1 = false) (eqF h2)<|P0))
theorem cs_mSize {a0 : Gi_Map} {r : Int} (H : Ds_mSize a0 = some r) : Ct X.P X.gl 123 [gi_Map a0] [] (RI r) [] :=
 Ct.of func123 (c := bdy f123) (by kernel_rfl) (by kernel_rfl) <|
 eW RI (fun _ => []) H<|gE func123 [r0, r0] (by kernel_rfl) P0
def Rs_mHex (r : Gi_Hex) : List D := [.agg [I r.Q, I r.R]]
theorem cs_mHex {a0 : Gi_Map} {a1 : Int} {r : Gi_Hex} (H : Ds_mHex a0 a1 = some r) : Ct X.P X.gl 125 [gi_Map a0, I a1] [] (Rs_mHex r) [] :=
 Ct.of func125 (c := bdy f125) (by kernel_rfl) (by kernel_rfl) <|
 eCk H fun h1 H =>
 eCk H fun h2 H =>
 eW Rs_mHex (fun _ => []) H<|gE func125 [r0, r0] (by kernel_rfl) (P2 (¬ (a0.Width : Int) = 0) h1<|P2 (¬ (a0.Width : Int) = 0) h2<|P0)
def Rs_hStep (r : Gi_Hex) : List D := [.agg [I r.Q, I r.R]]
theorem cs_hStep {a0 : Gi_Hex} {a1 : Int} {r : Gi_Hex} (H : Ds_hStep a0 a1 = some r) : Ct X.P X.gl 252 [gi_Hex a0, I a1] [] (Rs_hStep r) [] :=
 Ct.of func252 (c := bdy f252) (by kernel_rfl) (by kernel_rfl) <|
 eCk H fun h1 H =>
 eBind H fun x2 hx2 H =>
 eCk H fun h3 H =>
 eBind H fun x4 hx4 H =>
 eW Rs_hStep (fun _ => []) H<|gE func252 [r0, rg [hE 5 (I x2), hE 12 (I x4)]] (by kernel_rfl) (P1 h1<|P1 (int_lt_of_at h1 hx2)<|P1 (at_map I hx2)<|P1 h3<|P1 (int_lt_of_at h3 hx4)<|P1 (at_map I hx4)<|P0)
theorem cs_mIndex {a0 : Gi_Map} {a1 : Gi_Hex} {r : Int} (H : Ds_mIndex a0 a1 = some r) : Ct X.P X.gl 251 [gi_Map a0, gi_Hex a1] [] (RI r) [] :=
 Ct.of func251 (c := bdy f251) (by kernel_rfl) (by kernel_rfl) <|
 eBind H fun r1 hr1 H =>
 gS [r0] (by kernel_rfl) P0 <|
 eIf H (fun h2 H =>
 eBind H fun r3 hr3 H =>
 eIf H (fun h4 H =>
 eW RI (fun _ => []) H<|gE func251 [rg [{ i := 5, call := some { cl := true, auto := true, ins := [], res := (RB r1), G' := [] }, dec := some true }, { i := 13, call := some { cl := true, auto := true, ins := [], res := (RB r3), G' := [] }, dec := some true }], r0] (by kernel_rfl) (P1 (cs_l1In hr1)<|P2 (r1 = true) (h2)<|P1 (cs_l1In hr3)<|P2 (r3 = true) (h4)<|P0))
 (fun h4 H =>
 eW RI (fun _ => []) H<|gE func251 [rg [{ i := 5, call := some { cl := true, auto := true, ins := [], res := (RB r1), G' := [] }, dec := some true }, { i := 13, call := some { cl := true, auto := true, ins := [], res := (RB r3), G' := [] }, dec := some false }], r0] (by kernel_rfl) (P1 (cs_l1In hr1)<|P2 (r1 = true) (h2)<|P1 (cs_l1In hr3)<|P2 (r3 = false) (eqF h4)<|P0)))
 (fun h2 H =>
 eW RI (fun _ => []) H<|gE func251 [rg [{ i := 5, call := some { cl := true, auto := true, ins := [], res := (RB r1), G' := [] }, dec := some false }], r0] (by kernel_rfl) (P1 (cs_l1In hr1)<|P2 (r1 = false) (eqF h2)<|P0))
theorem cs_mNext {a0 : Gi_Map} {a1 : Int} {a2 : Int} {r : Int} (H : Ds_mNext a0 a1 a2 = some r) : Ct X.P X.gl 215 [gi_Map a0, I a1, I a2] [] (RI r) [] :=
 Ct.of func215 (c := bdy f215) (by kernel_rfl) (by kernel_rfl) <|
 eBind H fun r1 hr1 H =>
 eBind H fun r2 hr2 H =>
 eBind H fun r3 hr3 H =>
 eW RI (fun _ => []) H<|gE func215 [r0, rg [hC 3 true [] (Rs_mHex r1) [], hC 5 true [] (Rs_hStep r2) [], hC 6 true [] (RI r3) []]] (by kernel_rfl) (P1 (cs_mHex hr1)<|P1 (cs_hStep hr2)<|P1 (cs_mIndex hr3)<|P0)
noncomputable def Ks_l1Rising : Ss_l1Rising → List Item
 | .h1 .. => nav 300 2 [] [.code (bdy f148)]
def Zs_l1Rising : Ss_l1Rising → St
 | .h1 l0 lo1 vhi2 t3 t4 t5 => ⟨sts 35 [(0, sl 1 I l0), (1, I lo1), (2, I vhi2), (9, sl 1 I t3), (10, I t4), (11, I t5)], []⟩
abbrev Qs_l1Rising := Nx X 148 0 Ks_l1Rising Zs_l1Rising RB (fun _ => [])
theorem ns_l1Rising : ∀ s o, Bs_l1Rising s = some o → Qs_l1Rising (Ks_l1Rising s) (Zs_l1Rising s) o
 | .h1 l0 lo1 vhi2 t3 t4 t5, o, H =>
  eIf H (fun h1 H =>
  eCk H fun h2 H =>
  eBind H fun x3 hx3 H =>
  eBind H fun r4 hr4 H =>
  gN [rg [hT 0], rg [hE 2 (I x3)]] (by kernel_rfl) (P2 ((decide (t5 < t4)) = true) (decide_eq_true h1)<|P1 h2<|P1 (int_lt_of_at h2 hx3)<|P1 (at_map I hx3)<|P0) <|
  eIf H (fun h5 H =>
  eIf H (fun h6 H =>
  eCk H fun h7 H =>
  eBind H fun x8 hx8 H =>
  eIf H (fun h9 H =>
  eN H<|gE func148 [rg [{ i := 3, call := some { cl := true, auto := true, ins := [], res := (RB r4), G' := [] }, dec := some true }, hT 7, hE 13 (I x8), hT 15], r0] (by kernel_rfl) (P1 (cs_l1In hr4)<|P2 (r4 = true) (h5)<|P2 ((decide (t5 > 0)) = true) (decide_eq_true h6)<|P1 h7<|P1 (int_lt_of_at h7 hx8)<|P1 (at_map I hx8)<|P2 ((decide (x8 ≥ x3)) = true) (decide_eq_true h9)<|P0))
  (fun h9 H =>
  eN H fun r hn => gO [rg [{ i := 3, call := some { cl := true, auto := true, ins := [], res := (RB r4), G' := [] }, dec := some true }, hT 7, hE 13 (I x8), hF 15], r0, .canon [] [0, 1, 2, 9, 10, 11]] (by kernel_rfl) (P1 (cs_l1In hr4)<|P2 (r4 = true) (h5)<|P2 ((decide (t5 > 0)) = true) (decide_eq_true h6)<|P1 h7<|P1 (int_lt_of_at h7 hx8)<|P1 (at_map I hx8)<|P2 ((decide (x8 ≥ x3)) = false) (decide_eq_false h9)<|P0) hn))
  (fun h6 H =>
  eN H fun r hn => gO [rg [{ i := 3, call := some { cl := true, auto := true, ins := [], res := (RB r4), G' := [] }, dec := some true }, hF 7], r0, .canon [] [0, 1, 2, 9, 10, 11]] (by kernel_rfl) (P1 (cs_l1In hr4)<|P2 (r4 = true) (h5)<|P2 ((decide (t5 > 0)) = false) (decide_eq_false h6)<|P0) hn))
  (fun h5 H =>
  eN H<|gE func148 [rg [{ i := 3, call := some { cl := true, auto := true, ins := [], res := (RB r4), G' := [] }, dec := some false }], r0] (by kernel_rfl) (P1 (cs_l1In hr4)<|P2 (r4 = false) (eqF h5)<|P0)))
  (fun h1 H =>
  eN H<|gE func148 [rg [hF 0], r0] (by kernel_rfl) (P2 ((decide (t5 < t4)) = false) (decide_eq_false h1)<|P0))
theorem ws_l1Rising : ∀ s r, loop Bs_l1Rising s = some r → Wc X 148 0 (Ks_l1Rising s) (Zs_l1Rising s) (RB r) ((fun _ => []) r) := Nx.all (ns_l1Rising)
theorem cs_l1Rising {a0 : (List Int)} {a1 : Int} {a2 : Int} {r : Bool} (H : Ds_l1Rising a0 a1 a2 = some r) : Ct X.P X.gl 148 [sl 1 I a0, I a1, I a2] [] (RB r) [] :=
 Ct.of func148 (c := bdy f148) (by kernel_rfl) (by kernel_rfl) <|
 gO [r0, r0, .canon [] [0, 1, 2, 9, 10, 11]] (by kernel_rfl) P0 (ws_l1Rising _ _ H)
noncomputable def Ks_mEdges : Ss_mEdges → List Item
 | .h1 .. => nav 300 2 [] [.code (bdy f199)]
def Zs_mEdges : Ss_mEdges → St
 | .h1 l0 t1 t2 t3 b4 => ⟨sts 36 [(1, sl 1 I l0), (2, .ptr 0 5 0 0), (7, sl 1 I t1), (8, I t2), (9, I t3)], [some ⟨false, true, 5, 1, [gi_Map b4]⟩]⟩
abbrev Qs_mEdges := Nx X 199 0 Ks_mEdges Zs_mEdges RB (fun _ => [])
theorem ns_mEdges : ∀ s o, Bs_mEdges s = some o → Qs_mEdges (Ks_mEdges s) (Zs_mEdges s) o
 | .h1 l0 t1 t2 t3 b4, o, H =>
  eIf H (fun h1 H =>
  eCk H fun h2 H =>
  eBind H fun x3 hx3 H =>
  eBind H fun r4 hr4 H =>
  eBind H fun r5 hr5 H =>
  gN [rg [hT 0], rg [hE 1 (I x3)]] (by kernel_rfl) (P2 ((decide (t3 < t2)) = true) (decide_eq_true h1)<|P1 h2<|P1 (int_lt_of_at h2 hx3)<|P1 (at_map I hx3)<|P0) <|
  eIf H (fun h6 H =>
  eBind H fun r7 hr7 H =>
  eIf H (fun h8 H =>
  eN H<|gE func199 [rg [hC 2 true [] (RI r4) [], { i := 5, call := some { cl := true, auto := true, ins := [], res := (RB r5), G' := [] }, dec := some true }, hC 13 true [] (RI r7) [], hT 14], r0] (by kernel_rfl) (P1 (cs_mSize hr4)<|P1 (cs_l1In hr5)<|P2 (r5 = true) (h6)<|P2 (¬ (3 : Int) = 0) (by decide)<|P2 (¬ (3 : Int) = 0) (by decide)<|P1 (cs_mNext hr7)<|P2 ((decide (r7 < 0)) = true) (decide_eq_true h8)<|P0))
  (fun h8 H =>
  eN H fun r hn => gO [rg [hC 2 true [] (RI r4) [], { i := 5, call := some { cl := true, auto := true, ins := [], res := (RB r5), G' := [] }, dec := some true }, hC 13 true [] (RI r7) [], hF 14], r0, .canon [0] [1, 2, 7, 8, 9]] (by kernel_rfl) (P1 (cs_mSize hr4)<|P1 (cs_l1In hr5)<|P2 (r5 = true) (h6)<|P2 (¬ (3 : Int) = 0) (by decide)<|P2 (¬ (3 : Int) = 0) (by decide)<|P1 (cs_mNext hr7)<|P2 ((decide (r7 < 0)) = false) (decide_eq_false h8)<|P0) hn))
  (fun h6 H =>
  eN H<|gE func199 [rg [hC 2 true [] (RI r4) [], { i := 5, call := some { cl := true, auto := true, ins := [], res := (RB r5), G' := [] }, dec := some false }], r0] (by kernel_rfl) (P1 (cs_mSize hr4)<|P1 (cs_l1In hr5)<|P2 (r5 = false) (eqF h6)<|P0)))
  (fun h1 H =>
  eBind H fun r2 hr2 H =>
  eBind H fun r3 hr3 H =>
  eN H<|gE func199 [rg [hF 0], rg [hC 2 true [] (RI r2) [], hC 5 true [] (RB r3) []]] (by kernel_rfl) (P2 ((decide (t3 < t2)) = false) (decide_eq_false h1)<|P1 (cs_mSize hr2)<|P1 (cs_l1Rising hr3)<|P0))
theorem ws_mEdges : ∀ s r, loop Bs_mEdges s = some r → Wc X 199 0 (Ks_mEdges s) (Zs_mEdges s) (RB r) ((fun _ => []) r) := Nx.all (ns_mEdges)
theorem cs_mEdges {a0 : Gi_Map} {a1 : (List Int)} {r : Bool} (H : Ds_mEdges a0 a1 = some r) : Ct X.P X.gl 199 [gi_Map a0, sl 1 I a1] [] (RB r) [] :=
 Ct.of func199 (c := bdy f199) (by kernel_rfl) (by kernel_rfl) <|
 gO [r0, r0, .canon [0] [1, 2, 7, 8, 9]] (by kernel_rfl) P0 (ws_mEdges _ _ H)
theorem cs_mGood {a0 : Gi_Map} {r : Bool} (H : Ds_mGood a0 = some r) : Ct X.P X.gl 143 [gi_Map a0] [] (RB r) [] :=
 Ct.of func143 (c := bdy f143) (by kernel_rfl) (by kernel_rfl) <|
 eBind H fun r1 hr1 H =>
 gS [r0] (by kernel_rfl) P0 <|
 eIf H (fun h2 H =>
 eBind H fun r3 hr3 H =>
 eIf H (fun h4 H =>
 eBind H fun r5 hr5 H =>
 eIf H (fun h6 H =>
 eBind H fun r7 hr7 H =>
 eIf H (fun h8 H =>
 eBind H fun r9 hr9 H =>
 eIf H (fun h10 H =>
 eBind H fun r11 hr11 H =>
 eW RB (fun _ => []) H<|gE func143 [rg [{ i := 2, call := some { cl := true, auto := true, ins := [], res := (RB r1), G' := [] }, dec := some true }, { i := 6, call := some { cl := true, auto := true, ins := [], res := (RB r3), G' := [] }, dec := some true }, hC 13 true [] (RI r5) [], hT 14, { i := 19, call := some { cl := true, auto := true, ins := [], res := (RB r7), G' := [] }, dec := some true }, { i := 25, call := some { cl := true, auto := true, ins := [], res := (RB r9), G' := [] }, dec := some true }, hC 31 true [] (RB r11) []]] (by kernel_rfl) (P1 (cs_l1In hr1)<|P2 (r1 = true) (h2)<|P1 (cs_l1In hr3)<|P2 (r3 = true) (h4)<|P1 (cs_mSize hr5)<|P2 (((((a0.Terrain.length : Nat) : Int) : Int) == r5) = true) (beqT h6)<|P1 (cs_l1All hr7)<|P2 (r7 = true) (h8)<|P1 (cs_mEdges hr9)<|P2 (r9 = true) (h10)<|P1 (cs_mEdges hr11)<|P0))
 (fun h10 H =>
 eW RB (fun _ => []) H<|gE func143 [rg [{ i := 2, call := some { cl := true, auto := true, ins := [], res := (RB r1), G' := [] }, dec := some true }, { i := 6, call := some { cl := true, auto := true, ins := [], res := (RB r3), G' := [] }, dec := some true }, hC 13 true [] (RI r5) [], hT 14, { i := 19, call := some { cl := true, auto := true, ins := [], res := (RB r7), G' := [] }, dec := some true }, { i := 25, call := some { cl := true, auto := true, ins := [], res := (RB r9), G' := [] }, dec := some false }]] (by kernel_rfl) (P1 (cs_l1In hr1)<|P2 (r1 = true) (h2)<|P1 (cs_l1In hr3)<|P2 (r3 = true) (h4)<|P1 (cs_mSize hr5)<|P2 (((((a0.Terrain.length : Nat) : Int) : Int) == r5) = true) (beqT h6)<|P1 (cs_l1All hr7)<|P2 (r7 = true) (h8)<|P1 (cs_mEdges hr9)<|P2 (r9 = false) (eqF h10)<|P0)))
 (fun h8 H =>
 eW RB (fun _ => []) H<|gE func143 [rg [{ i := 2, call := some { cl := true, auto := true, ins := [], res := (RB r1), G' := [] }, dec := some true }, { i := 6, call := some { cl := true, auto := true, ins := [], res := (RB r3), G' := [] }, dec := some true }, hC 13 true [] (RI r5) [], hT 14, { i := 19, call := some { cl := true, auto := true, ins := [], res := (RB r7), G' := [] }, dec := some false }]] (by kernel_rfl) (P1 (cs_l1In hr1)<|P2 (r1 = true) (h2)<|P1 (cs_l1In hr3)<|P2 (r3 = true) (h4)<|P1 (cs_mSize hr5)<|P2 (((((a0.Terrain.length : Nat) : Int) : Int) == r5) = true) (beqT h6)<|P1 (cs_l1All hr7)<|P2 (r7 = false) (eqF h8)<|P0)))
 (fun h6 H =>
 eW RB (fun _ => []) H<|gE func143 [rg [{ i := 2, call := some { cl := true, auto := true, ins := [], res := (RB r1), G' := [] }, dec := some true }, { i := 6, call := some { cl := true, auto := true, ins := [], res := (RB r3), G' := [] }, dec := some true }, hC 13 true [] (RI r5) [], hF 14]] (by kernel_rfl) (P1 (cs_l1In hr1)<|P2 (r1 = true) (h2)<|P1 (cs_l1In hr3)<|P2 (r3 = true) (h4)<|P1 (cs_mSize hr5)<|P2 (((((a0.Terrain.length : Nat) : Int) : Int) == r5) = false) (beqF h6)<|P0)))
 (fun h4 H =>
 eW RB (fun _ => []) H<|gE func143 [rg [{ i := 2, call := some { cl := true, auto := true, ins := [], res := (RB r1), G' := [] }, dec := some true }, { i := 6, call := some { cl := true, auto := true, ins := [], res := (RB r3), G' := [] }, dec := some false }]] (by kernel_rfl) (P1 (cs_l1In hr1)<|P2 (r1 = true) (h2)<|P1 (cs_l1In hr3)<|P2 (r3 = false) (eqF h4)<|P0)))
 (fun h2 H =>
 eW RB (fun _ => []) H<|gE func143 [rg [{ i := 2, call := some { cl := true, auto := true, ins := [], res := (RB r1), G' := [] }, dec := some false }]] (by kernel_rfl) (P1 (cs_l1In hr1)<|P2 (r1 = false) (eqF h2)<|P0))
theorem cs_bGood {a0 : Gi_Board} {r : Bool} (H : Ds_bGood a0 = some r) : Ct X.P X.gl 93 [gi_Board a0] [] (RB r) [] :=
 Ct.of func93 (c := bdy f93) (by kernel_rfl) (by kernel_rfl) <|
 eBind H fun r1 hr1 H =>
 gS [r0] (by kernel_rfl) P0 <|
 eIf H (fun h2 H =>
 eBind H fun r3 hr3 H =>
 eIf H (fun h4 H =>
 eBind H fun r5 hr5 H =>
 eW RB (fun _ => []) H<|gE func93 [rg [{ i := 2, call := some { cl := true, auto := true, ins := [], res := (RB r1), G' := [] }, dec := some true }, { i := 6, call := some { cl := true, auto := true, ins := [], res := (RB r3), G' := [] }, dec := some true }, hC 17 true [] (RB r5) []]] (by kernel_rfl) (P1 (cs_rGood hr1)<|P2 (r1 = true) (h2)<|P1 (cs_mGood hr3)<|P2 (r3 = true) (h4)<|P1 (cs_l1All hr5)<|P0))
 (fun h4 H =>
 eW RB (fun _ => []) H<|gE func93 [rg [{ i := 2, call := some { cl := true, auto := true, ins := [], res := (RB r1), G' := [] }, dec := some true }, { i := 6, call := some { cl := true, auto := true, ins := [], res := (RB r3), G' := [] }, dec := some false }]] (by kernel_rfl) (P1 (cs_rGood hr1)<|P2 (r1 = true) (h2)<|P1 (cs_mGood hr3)<|P2 (r3 = false) (eqF h4)<|P0)))
 (fun h2 H =>
 eW RB (fun _ => []) H<|gE func93 [rg [{ i := 2, call := some { cl := true, auto := true, ins := [], res := (RB r1), G' := [] }, dec := some false }]] (by kernel_rfl) (P1 (cs_rGood hr1)<|P2 (r1 = false) (eqF h2)<|P0))
theorem cs_kRows {a0 : Int} {r : Int} (H : Ds_kRows a0 = some r) : Ct X.P X.gl 145 [I a0] [] (RI r) [] :=
 Ct.of func145 (c := bdy f145) (by kernel_rfl) (by kernel_rfl) <|
 eW RI (fun _ => []) H<|gE func145 [r0, r0] (by kernel_rfl) P0
noncomputable def Ks_kGood : Ss_kGood → List Item
 | .h1 .. => nav 300 3 [false] [.code (bdy f94)]
 | .h2 .. => nav 300 5 [false, false] [.code (bdy f94)]
def Zs_kGood : Ss_kGood → St
 | .h1 t0 t1 t2 b3 => ⟨sts 90 [(1, .ptr 0 3 0 0), (28, sl 2 gi_Odds t0), (29, I t1), (30, I t2)], [some ⟨false, true, 3, 1, [gi_CombatTable b3]⟩]⟩
 | .h2 t0 t1 t2 b3 => ⟨sts 90 [(1, .ptr 0 3 0 0), (72, sl 1 (sl 1 I) t0), (73, I t1), (74, I t2)], [some ⟨false, true, 3, 1, [gi_CombatTable b3]⟩]⟩
abbrev Qs_kGood := Nx X 94 0 Ks_kGood Zs_kGood RB (fun _ => [])
theorem ns_kGood : ∀ s o, Bs_kGood s = some o → Qs_kGood (Ks_kGood s) (Zs_kGood s) o
 | .h1 t0 t1 t2 b3, o, H =>
  eIf H (fun h1 H =>
  eCk H fun h2 H =>
  eBind H fun x3 hx3 H =>
  eBind H fun r4 hr4 H =>
  gN [rg [hT 0], rg [hE 2 (gi_Odds x3)]] (by kernel_rfl) (P2 ((decide (t2 < t1)) = true) (decide_eq_true h1)<|P1 h2<|P1 (int_lt_of_at h2 hx3)<|P1 (at_map gi_Odds hx3)<|P0) <|
  eIf H (fun h5 H =>
  eBind H fun r6 hr6 H =>
  eIf H (fun h7 H =>
  gN [rg [{ i := 2, call := some { cl := true, auto := true, ins := [], res := (RB r4), G' := [] }, dec := some true }, { i := 7, call := some { cl := true, auto := true, ins := [], res := (RB r6), G' := [] }, dec := some true }]] (by kernel_rfl) (P1 (cs_l1In hr4)<|P2 (r4 = true) (h5)<|P1 (cs_l1In hr6)<|P2 (r6 = true) (h7)<|P0) <|
  eIf H (fun h8 H =>
  eCk H fun h9 H =>
  eBind H fun x10 hx10 H =>
  eCk H fun h11 H =>
  eBind H fun x12 hx12 H =>
  eIf H (fun h13 H =>
  eN H<|gE func94 [rg [hT 1, hE 9 (gi_Odds x10), hE 21 (gi_Odds x12), hT 23], r0] (by kernel_rfl) (P2 ((decide (t2 > 0)) = true) (decide_eq_true h8)<|P1 h9<|P1 (int_lt_of_at h9 hx10)<|P1 (at_map gi_Odds hx10)<|P1 h11<|P1 (int_lt_of_at h11 hx12)<|P1 (at_map gi_Odds hx12)<|P2 ((decide ((IntKind.wrap .i64 (x10.Num * x3.Den)) ≥ (IntKind.wrap .i64 (x3.Num * x12.Den)))) = true) (decide_eq_true h13)<|P0))
  (fun h13 H =>
  eN H fun r hn => gO [rg [hT 1, hE 9 (gi_Odds x10), hE 21 (gi_Odds x12), hF 23], r0, .canon [0] [1, 28, 29, 30]] (by kernel_rfl) (P2 ((decide (t2 > 0)) = true) (decide_eq_true h8)<|P1 h9<|P1 (int_lt_of_at h9 hx10)<|P1 (at_map gi_Odds hx10)<|P1 h11<|P1 (int_lt_of_at h11 hx12)<|P1 (at_map gi_Odds hx12)<|P2 ((decide ((IntKind.wrap .i64 (x10.Num * x3.Den)) ≥ (IntKind.wrap .i64 (x3.Num * x12.Den)))) = false) (decide_eq_false h13)<|P0) hn))
  (fun h8 H =>
  eN H fun r hn => gO [rg [hF 1], r0, .canon [0] [1, 28, 29, 30]] (by kernel_rfl) (P2 ((decide (t2 > 0)) = false) (decide_eq_false h8)<|P0) hn))
  (fun h7 H =>
  eN H<|gE func94 [rg [{ i := 2, call := some { cl := true, auto := true, ins := [], res := (RB r4), G' := [] }, dec := some true }, { i := 7, call := some { cl := true, auto := true, ins := [], res := (RB r6), G' := [] }, dec := some false }], r0] (by kernel_rfl) (P1 (cs_l1In hr4)<|P2 (r4 = true) (h5)<|P1 (cs_l1In hr6)<|P2 (r6 = false) (eqF h7)<|P0)))
  (fun h5 H =>
  eN H<|gE func94 [rg [{ i := 2, call := some { cl := true, auto := true, ins := [], res := (RB r4), G' := [] }, dec := some false }], r0] (by kernel_rfl) (P1 (cs_l1In hr4)<|P2 (r4 = false) (eqF h5)<|P0)))
  (fun h1 H =>
  eN H fun r hn => gO [rg [hF 0], r0, .canon [0] [1, 72, 73, 74]] (by kernel_rfl) (P2 ((decide (t2 < t1)) = false) (decide_eq_false h1)<|P0) hn)
 | .h2 t0 t1 t2 b3, o, H =>
  eIf H (fun h1 H =>
  eCk H fun h2 H =>
  eBind H fun x3 hx3 H =>
  gN [rg [hT 0], rg [hE 1 ((sl 1 I) x3)]] (by kernel_rfl) (P2 ((decide (t2 < t1)) = true) (decide_eq_true h1)<|P1 h2<|P1 (int_lt_of_at h2 hx3)<|P1 (at_map (sl 1 I) hx3)<|P0) <|
  eIf H (fun h4 H =>
  eBind H fun r5 hr5 H =>
  eIf H (fun h6 H =>
  eN H fun r hn => gO [rg [hF 5, { i := 8, call := some { cl := true, auto := true, ins := [], res := (RB r5), G' := [] }, dec := some true }], r0, .canon [0] [1, 72, 73, 74]] (by kernel_rfl) (P2 (((((x3.length : Nat) : Int) : Int) != ((b3.Columns.length : Nat) : Int)) = false) (bneF h4)<|P1 (cs_l1All hr5)<|P2 (r5 = true) (h6)<|P0) hn)
  (fun h6 H =>
  eN H<|gE func94 [rg [hF 5, { i := 8, call := some { cl := true, auto := true, ins := [], res := (RB r5), G' := [] }, dec := some false }], r0] (by kernel_rfl) (P2 (((((x3.length : Nat) : Int) : Int) != ((b3.Columns.length : Nat) : Int)) = false) (bneF h4)<|P1 (cs_l1All hr5)<|P2 (r5 = false) (eqF h6)<|P0)))
  (fun h4 H =>
  eN H<|gE func94 [rg [hT 5], r0] (by kernel_rfl) (P2 (((((x3.length : Nat) : Int) : Int) != ((b3.Columns.length : Nat) : Int)) = true) (bneT h4)<|P0)))
  (fun h1 H =>
  eN H<|gE func94 [rg [hF 0], r0] (by kernel_rfl) (P2 ((decide (t2 < t1)) = false) (decide_eq_false h1)<|P0))
theorem ws_kGood : ∀ s r, loop Bs_kGood s = some r → Wc X 94 0 (Ks_kGood s) (Zs_kGood s) (RB r) ((fun _ => []) r) := Nx.all (ns_kGood)
theorem cs_kGood {a0 : Gi_CombatTable} {r : Bool} (H : Ds_kGood a0 = some r) : Ct X.P X.gl 94 [gi_CombatTable a0] [] (RB r) [] :=
 Ct.of func94 (c := bdy f94) (by kernel_rfl) (by kernel_rfl) <|
 eBind H fun r1 hr1 H =>
 gS [r0] (by kernel_rfl) P0 <|
 eIf H (fun h2 H =>
 eBind H fun r3 hr3 H =>
 eIf H (fun h4 H =>
 eBind H fun r5 hr5 H =>
 eIf H (fun h6 H =>
 gO [rg [{ i := 3, call := some { cl := true, auto := true, ins := [], res := (RB r1), G' := [] }, dec := some true }, { i := 8, call := some { cl := true, auto := true, ins := [], res := (RB r3), G' := [] }, dec := some true }, hC 17 true [] (RI r5) [], hF 18], r0, .canon [0] [1, 28, 29, 30]] (by kernel_rfl) (P1 (cs_l1In hr1)<|P2 (r1 = true) (h2)<|P1 (cs_l1In hr3)<|P2 (r3 = true) (h4)<|P1 (cs_kRows hr5)<|P2 (((((a0.Results.length : Nat) : Int) : Int) != r5) = false) (bneF h6)<|P0) (ws_kGood _ _ H))
 (fun h6 H =>
 eW RB (fun _ => []) H<|gE func94 [rg [{ i := 3, call := some { cl := true, auto := true, ins := [], res := (RB r1), G' := [] }, dec := some true }, { i := 8, call := some { cl := true, auto := true, ins := [], res := (RB r3), G' := [] }, dec := some true }, hC 17 true [] (RI r5) [], hT 18], r0] (by kernel_rfl) (P1 (cs_l1In hr1)<|P2 (r1 = true) (h2)<|P1 (cs_l1In hr3)<|P2 (r3 = true) (h4)<|P1 (cs_kRows hr5)<|P2 (((((a0.Results.length : Nat) : Int) : Int) != r5) = true) (bneT h6)<|P0)))
 (fun h4 H =>
 eW RB (fun _ => []) H<|gE func94 [rg [{ i := 3, call := some { cl := true, auto := true, ins := [], res := (RB r1), G' := [] }, dec := some true }, { i := 8, call := some { cl := true, auto := true, ins := [], res := (RB r3), G' := [] }, dec := some false }], r0] (by kernel_rfl) (P1 (cs_l1In hr1)<|P2 (r1 = true) (h2)<|P1 (cs_l1In hr3)<|P2 (r3 = false) (eqF h4)<|P0)))
 (fun h2 H =>
 eW RB (fun _ => []) H<|gE func94 [rg [{ i := 3, call := some { cl := true, auto := true, ins := [], res := (RB r1), G' := [] }, dec := some false }], r0] (by kernel_rfl) (P1 (cs_l1In hr1)<|P2 (r1 = false) (eqF h2)<|P0))
def Rs_bTerrain (r : Gi_Terrain) : List D := [.agg [.str r.Name, sl 1 I r.Cost, I r.Shift, I r.Height, .bool r.Blocks]]
theorem cs_bTerrain {a0 : Gi_Board} {a1 : Int} {r : Gi_Terrain} (H : Ds_bTerrain a0 a1 = some r) : Ct X.P X.gl 241 [gi_Board a0, I a1] [] (Rs_bTerrain r) [] :=
 Ct.of func241 (c := bdy f241) (by kernel_rfl) (by kernel_rfl) <|
 eCk H fun h1 H =>
 eBind H fun x2 hx2 H =>
 eCk H fun h3 H =>
 eBind H fun x4 hx4 H =>
 eW Rs_bTerrain (fun _ => []) H<|gE func241 [r0, rg [hE 8 (I x2), hE 10 (gi_Terrain x4)]] (by kernel_rfl) (P1 h1<|P1 (int_lt_of_at h1 hx2)<|P1 (at_map I hx2)<|P1 h3<|P1 (int_lt_of_at h3 hx4)<|P1 (at_map gi_Terrain hx4)<|P0)
theorem cs_bCost {a0 : Gi_Board} {a1 : Int} {a2 : Int} {r : Int} (H : Ds_bCost a0 a1 a2 = some r) : Ct X.P X.gl 200 [gi_Board a0, I a1, I a2] [] (RI r) [] :=
 Ct.of func200 (c := bdy f200) (by kernel_rfl) (by kernel_rfl) <|
 eBind H fun r1 hr1 H =>
 eCk H fun h2 H =>
 eBind H fun x3 hx3 H =>
 eW RI (fun _ => []) H<|gE func200 [r0, rg [hC 2 true [] (Rs_bTerrain r1) [], hE 6 (I x3)]] (by kernel_rfl) (P1 (cs_bTerrain hr1)<|P1 h2<|P1 (int_lt_of_at h2 hx3)<|P1 (at_map I hx3)<|P0)
theorem cs_sUnit {a0 : Gi_Board} {a1 : Gi_Unit} {r : Bool} (H : Ds_sUnit a0 a1 = some r) : Ct X.P X.gl 146 [gi_Board a0, gi_Unit a1] [] (RB r) [] :=
 Ct.of func146 (c := bdy f146) (by kernel_rfl) (by kernel_rfl) <|
 eBind H fun r1 hr1 H =>
 gS [r0] (by kernel_rfl) P0 <|
 eIf H (fun h2 H =>
 eBind H fun r3 hr3 H =>
 eIf H (fun h4 H =>
 eCk H fun h5 H =>
 eBind H fun x6 hx6 H =>
 eBind H fun r7 hr7 H =>
 eIf H (fun h8 H =>
 gS [rg [{ i := 2, call := some { cl := true, auto := true, ins := [], res := (RB r1), G' := [] }, dec := some true }, { i := 12, call := some { cl := true, auto := true, ins := [], res := (RB r3), G' := [] }, dec := some true }, hE 25 (gi_Kind x6), { i := 26, call := some { cl := true, auto := true, ins := [], res := (RB r7), G' := [] }, dec := some true }]] (by kernel_rfl) (P1 (cs_l1In hr1)<|P2 (r1 = true) (h2)<|P1 (cs_l1In hr3)<|P2 (r3 = true) (h4)<|P1 h5<|P1 (int_lt_of_at h5 hx6)<|P1 (at_map gi_Kind hx6)<|P1 (cs_l1In hr7)<|P2 (r7 = true) (h8)<|P0) <|
 eIf H (fun h9 H =>
 eW RB (fun _ => []) H<|gE func146 [rg [hT 2]] (by kernel_rfl) (P2 (((a1.At : Int) == (-1)) = true) (beqT h9)<|P0))
 (fun h9 H =>
 eIf H (fun h10 H =>
 eBind H fun r11 hr11 H =>
 eBind H fun r12 hr12 H =>
 eIf H (fun h13 H =>
 eBind H fun r14 hr14 H =>
 eW RB (fun _ => []) H<|gE func146 [rg [hF 2, hT 6, hC 12 true [] (RI r11) [], { i := 14, call := some { cl := true, auto := true, ins := [], res := (RB r12), G' := [] }, dec := some true }, hC 22 true [] (RI r14) []]] (by kernel_rfl) (P2 (((a1.At : Int) == (-1)) = false) (beqF h9)<|P2 ((decide (a1.Steps > 0)) = true) (decide_eq_true h10)<|P1 (cs_mSize hr11)<|P1 (cs_l1In hr12)<|P2 (r12 = true) (h13)<|P1 (cs_bCost hr14)<|P0))
 (fun h13 H =>
 eW RB (fun _ => []) H<|gE func146 [rg [hF 2, hT 6, hC 12 true [] (RI r11) [], { i := 14, call := some { cl := true, auto := true, ins := [], res := (RB r12), G' := [] }, dec := some false }]] (by kernel_rfl) (P2 (((a1.At : Int) == (-1)) = false) (beqF h9)<|P2 ((decide (a1.Steps > 0)) = true) (decide_eq_true h10)<|P1 (cs_mSize hr11)<|P1 (cs_l1In hr12)<|P2 (r12 = false) (eqF h13)<|P0)))
 (fun h10 H =>
 eW RB (fun _ => []) H<|gE func146 [rg [hF 2, hF 6]] (by kernel_rfl) (P2 (((a1.At : Int) == (-1)) = false) (beqF h9)<|P2 ((decide (a1.Steps > 0)) = false) (decide_eq_false h10)<|P0))))
 (fun h8 H =>
 eW RB (fun _ => []) H<|gE func146 [rg [{ i := 2, call := some { cl := true, auto := true, ins := [], res := (RB r1), G' := [] }, dec := some true }, { i := 12, call := some { cl := true, auto := true, ins := [], res := (RB r3), G' := [] }, dec := some true }, hE 25 (gi_Kind x6), { i := 26, call := some { cl := true, auto := true, ins := [], res := (RB r7), G' := [] }, dec := some false }], r0] (by kernel_rfl) (P1 (cs_l1In hr1)<|P2 (r1 = true) (h2)<|P1 (cs_l1In hr3)<|P2 (r3 = true) (h4)<|P1 h5<|P1 (int_lt_of_at h5 hx6)<|P1 (at_map gi_Kind hx6)<|P1 (cs_l1In hr7)<|P2 (r7 = false) (eqF h8)<|P0)))
 (fun h4 H =>
 eW RB (fun _ => []) H<|gE func146 [rg [{ i := 2, call := some { cl := true, auto := true, ins := [], res := (RB r1), G' := [] }, dec := some true }, { i := 12, call := some { cl := true, auto := true, ins := [], res := (RB r3), G' := [] }, dec := some false }], r0] (by kernel_rfl) (P1 (cs_l1In hr1)<|P2 (r1 = true) (h2)<|P1 (cs_l1In hr3)<|P2 (r3 = false) (eqF h4)<|P0)))
 (fun h2 H =>
 eW RB (fun _ => []) H<|gE func146 [rg [{ i := 2, call := some { cl := true, auto := true, ins := [], res := (RB r1), G' := [] }, dec := some false }], r0] (by kernel_rfl) (P1 (cs_l1In hr1)<|P2 (r1 = false) (eqF h2)<|P0))
def Rs_sAt (r : (List Int)) : List D := [ow 1 I r]
noncomputable def Ks_sAt : Ss_sAt → List Item
 | .h1 .. => nav 300 3 [] [.code (bdy f147)]
def Zs_sAt : Ss_sAt → St
 | .h1 i0 side1 t2 t3 t4 l5 => ⟨sts 34 [(1, I i0), (2, I side1), (7, .ref 0 1 none), (11, sl 4 gi_Unit t2), (12, I t3), (13, I t4)], [some ⟨false, false, 1, l5.length, List.map I l5⟩]⟩
abbrev Qs_sAt := Nx X 147 0 Ks_sAt Zs_sAt Rs_sAt (fun _ => [])
theorem ns_sAt : ∀ s o, Bs_sAt s = some o → Qs_sAt (Ks_sAt s) (Zs_sAt s) o
 | .h1 i0 side1 t2 t3 t4 l5, o, H =>
  eIf H (fun h1 H =>
  eCk H fun h2 H =>
  eBind H fun x3 hx3 H =>
  gN [rg [hT 0], rg [hE 2 (gi_Unit x3)]] (by kernel_rfl) (P2 ((decide (t4 < t3)) = true) (decide_eq_true h1)<|P1 h2<|P1 (int_lt_of_at h2 hx3)<|P1 (at_map gi_Unit hx3)<|P0) <|
  eIf H (fun h4 H =>
  eIf H (fun h5 H =>
  eCk H fun h6 H =>
  eN H fun r hn => gO [rg [hT 3, hT 8], rg [hA 3 ((l5 ++ [t4]).length) (List.map I (l5 ++ [t4]))], r0, .canon [3] [1, 2, 7, 11, 12, 13]] (by kernel_rfl) (P2 (((x3.At : Int) == i0) = true) (beqT h4)<|P2 (((x3.Side : Int) == side1) = true) (beqT h5)<|P1 (apL l5 [t4])<|P1 (apB h6)<|P1 (apM I l5 [t4])<|P0) hn)
  (fun h5 H =>
  eN H fun r hn => gO [rg [hT 3, hF 8], r0, .canon [0] [1, 2, 7, 11, 12, 13]] (by kernel_rfl) (P2 (((x3.At : Int) == i0) = true) (beqT h4)<|P2 (((x3.Side : Int) == side1) = false) (beqF h5)<|P0) hn))
  (fun h4 H =>
  eN H fun r hn => gO [rg [hF 3], r0, .canon [0] [1, 2, 7, 11, 12, 13]] (by kernel_rfl) (P2 (((x3.At : Int) == i0) = false) (beqF h4)<|P0) hn))
  (fun h1 H =>
  eN H<|gE func147 [rg [hF 0], r0] (by kernel_rfl) (P2 ((decide (t4 < t3)) = false) (decide_eq_false h1)<|P0))
theorem ws_sAt : ∀ s r, loop Bs_sAt s = some r → Wc X 147 0 (Ks_sAt s) (Zs_sAt s) (Rs_sAt r) ((fun _ => []) r) := Nx.all (ns_sAt)
theorem cs_sAt {a0 : Gi_State} {a1 : Int} {a2 : Int} {r : (List Int)} (H : Ds_sAt a0 a1 a2 = some r) : Ct X.P X.gl 147 [gi_State a0, I a1, I a2] [] (Rs_sAt r) [] :=
 Ct.of func147 (c := bdy f147) (by kernel_rfl) (by kernel_rfl) <|
 gO [r0, r0, r0, .own 7 1, .canon [1] [1, 2, 7, 11, 12, 13]] (by kernel_rfl) P0 (ws_sAt _ _ H)
noncomputable def Ks_sGood : Ss_sGood → List Item
 | .h1 .. => nav 300 3 [false] [.code (bdy f95)]
 | .h2 .. => nav 300 5 [false, false] [.code (bdy f95)]
def Zs_sGood : Ss_sGood → St
 | .h1 t0 t1 t2 b3 b4 => ⟨sts 80 [(2, .ptr 0 12 0 0), (3, .ptr 1 3 0 0), (34, sl 4 gi_Unit t0), (35, I t1), (36, I t2)], [some ⟨false, true, 12, 1, [gi_Board b3]⟩, some ⟨false, true, 3, 1, [gi_State b4]⟩]⟩
 | .h2 t0 t1 t2 b3 b4 => ⟨sts 80 [(2, .ptr 0 12 0 0), (3, .ptr 1 3 0 0), (46, sl 4 gi_Unit t0), (47, I t1), (48, I t2)], [some ⟨false, true, 12, 1, [gi_Board b3]⟩, some ⟨false, true, 3, 1, [gi_State b4]⟩]⟩
abbrev Qs_sGood := Nx X 95 0 Ks_sGood Zs_sGood RB (fun _ => [])
theorem ns_sGood : ∀ s o, Bs_sGood s = some o → Qs_sGood (Ks_sGood s) (Zs_sGood s) o
 | .h1 t0 t1 t2 b3 b4, o, H =>
  eIf H (fun h1 H =>
  eCk H fun h2 H =>
  eBind H fun x3 hx3 H =>
  eBind H fun r4 hr4 H =>
  gN [rg [hT 0], rg [hE 1 (gi_Unit x3)]] (by kernel_rfl) (P2 ((decide (t2 < t1)) = true) (decide_eq_true h1)<|P1 h2<|P1 (int_lt_of_at h2 hx3)<|P1 (at_map gi_Unit hx3)<|P0) <|
  eIf H (fun h5 H =>
  eN H fun r hn => gO [rg [{ i := 2, call := some { cl := true, auto := true, ins := [], res := (RB r4), G' := [] }, dec := some true }], r0, .canon [0, 1] [2, 3, 34, 35, 36]] (by kernel_rfl) (P1 (cs_sUnit hr4)<|P2 (r4 = true) (h5)<|P0) hn)
  (fun h5 H =>
  eN H<|gE func95 [rg [{ i := 2, call := some { cl := true, auto := true, ins := [], res := (RB r4), G' := [] }, dec := some false }], r0] (by kernel_rfl) (P1 (cs_sUnit hr4)<|P2 (r4 = false) (eqF h5)<|P0)))
  (fun h1 H =>
  eN H fun r hn => gO [rg [hF 0], r0, .canon [0, 1] [2, 3, 46, 47, 48]] (by kernel_rfl) (P2 ((decide (t2 < t1)) = false) (decide_eq_false h1)<|P0) hn)
 | .h2 t0 t1 t2 b3 b4, o, H =>
  eIf H (fun h1 H =>
  eCk H fun h2 H =>
  eBind H fun x3 hx3 H =>
  gN [rg [hT 0], rg [hE 1 (gi_Unit x3)]] (by kernel_rfl) (P2 ((decide (t2 < t1)) = true) (decide_eq_true h1)<|P1 h2<|P1 (int_lt_of_at h2 hx3)<|P1 (at_map gi_Unit hx3)<|P0) <|
  eIf H (fun h4 H =>
  eBind H fun r5 hr5 H =>
  eIf H (fun h6 H =>
  eN H<|gE func95 [rg [hT 2, hC 10 true [] (Rs_sAt r5) [], hT 12], r0] (by kernel_rfl) (P2 ((decide (x3.At ≥ 0)) = true) (decide_eq_true h4)<|P1 (cs_sAt hr5)<|P2 ((decide (((r5.length : Nat) : Int) > 0)) = true) (decide_eq_true h6)<|P0))
  (fun h6 H =>
  eBind H fun r7 hr7 H =>
  eIf H (fun h8 H =>
  eN H<|gE func95 [rg [hT 2, hC 10 true [] (Rs_sAt r5) [], hF 12, hC 19 true [] (Rs_sAt r7) [], hT 24], r0] (by kernel_rfl) (P2 ((decide (x3.At ≥ 0)) = true) (decide_eq_true h4)<|P1 (cs_sAt hr5)<|P2 ((decide (((r5.length : Nat) : Int) > 0)) = false) (decide_eq_false h6)<|P1 (cs_sAt hr7)<|P2 ((decide (((r7.length : Nat) : Int) > b3.Rules.Stack)) = true) (decide_eq_true h8)<|P0))
  (fun h8 H =>
  eN H fun r hn => gO [rg [hT 2, hC 10 true [] (Rs_sAt r5) [], hF 12, hC 19 true [] (Rs_sAt r7) [], hF 24], r0, .canon [0, 1] [2, 3, 46, 47, 48]] (by kernel_rfl) (P2 ((decide (x3.At ≥ 0)) = true) (decide_eq_true h4)<|P1 (cs_sAt hr5)<|P2 ((decide (((r5.length : Nat) : Int) > 0)) = false) (decide_eq_false h6)<|P1 (cs_sAt hr7)<|P2 ((decide (((r7.length : Nat) : Int) > b3.Rules.Stack)) = false) (decide_eq_false h8)<|P0) hn)))
  (fun h4 H =>
  eN H fun r hn => gO [rg [hF 2], r0, .canon [0, 1] [2, 3, 46, 47, 48]] (by kernel_rfl) (P2 ((decide (x3.At ≥ 0)) = false) (decide_eq_false h4)<|P0) hn))
  (fun h1 H =>
  eN H<|gE func95 [rg [hF 0], r0] (by kernel_rfl) (P2 ((decide (t2 < t1)) = false) (decide_eq_false h1)<|P0))
theorem ws_sGood : ∀ s r, loop Bs_sGood s = some r → Wc X 95 0 (Ks_sGood s) (Zs_sGood s) (RB r) ((fun _ => []) r) := Nx.all (ns_sGood)
theorem cs_sGood {a0 : Gi_Board} {a1 : Gi_State} {r : Bool} (H : Ds_sGood a0 a1 = some r) : Ct X.P X.gl 95 [gi_Board a0, gi_State a1] [] (RB r) [] :=
 Ct.of func95 (c := bdy f95) (by kernel_rfl) (by kernel_rfl) <|
 eBind H fun r1 hr1 H =>
 gS [r0] (by kernel_rfl) P0 <|
 eIf H (fun h2 H =>
 eBind H fun r3 hr3 H =>
 eIf H (fun h4 H =>
 eBind H fun r5 hr5 H =>
 eIf H (fun h6 H =>
 eIf H (fun h7 H =>
 eW RB (fun _ => []) H<|gE func95 [rg [{ i := 1, call := some { cl := true, auto := true, ins := [], res := (RB r1), G' := [] }, dec := some true }, { i := 9, call := some { cl := true, auto := true, ins := [], res := (RB r3), G' := [] }, dec := some true }, { i := 15, call := some { cl := true, auto := true, ins := [], res := (RB r5), G' := [] }, dec := some true }, hT 22], r0] (by kernel_rfl) (P1 (cs_bGood hr1)<|P2 (r1 = true) (h2)<|P1 (cs_l1In hr3)<|P2 (r3 = true) (h4)<|P1 (cs_l1In hr5)<|P2 (r5 = true) (h6)<|P2 ((decide (((a1.Units.length : Nat) : Int) > 12)) = true) (decide_eq_true h7)<|P0))
 (fun h7 H =>
 gO [rg [{ i := 1, call := some { cl := true, auto := true, ins := [], res := (RB r1), G' := [] }, dec := some true }, { i := 9, call := some { cl := true, auto := true, ins := [], res := (RB r3), G' := [] }, dec := some true }, { i := 15, call := some { cl := true, auto := true, ins := [], res := (RB r5), G' := [] }, dec := some true }, hF 22], r0, .canon [0, 1] [2, 3, 34, 35, 36]] (by kernel_rfl) (P1 (cs_bGood hr1)<|P2 (r1 = true) (h2)<|P1 (cs_l1In hr3)<|P2 (r3 = true) (h4)<|P1 (cs_l1In hr5)<|P2 (r5 = true) (h6)<|P2 ((decide (((a1.Units.length : Nat) : Int) > 12)) = false) (decide_eq_false h7)<|P0) (ws_sGood _ _ H)))
 (fun h6 H =>
 eW RB (fun _ => []) H<|gE func95 [rg [{ i := 1, call := some { cl := true, auto := true, ins := [], res := (RB r1), G' := [] }, dec := some true }, { i := 9, call := some { cl := true, auto := true, ins := [], res := (RB r3), G' := [] }, dec := some true }, { i := 15, call := some { cl := true, auto := true, ins := [], res := (RB r5), G' := [] }, dec := some false }], r0] (by kernel_rfl) (P1 (cs_bGood hr1)<|P2 (r1 = true) (h2)<|P1 (cs_l1In hr3)<|P2 (r3 = true) (h4)<|P1 (cs_l1In hr5)<|P2 (r5 = false) (eqF h6)<|P0)))
 (fun h4 H =>
 eW RB (fun _ => []) H<|gE func95 [rg [{ i := 1, call := some { cl := true, auto := true, ins := [], res := (RB r1), G' := [] }, dec := some true }, { i := 9, call := some { cl := true, auto := true, ins := [], res := (RB r3), G' := [] }, dec := some false }], r0] (by kernel_rfl) (P1 (cs_bGood hr1)<|P2 (r1 = true) (h2)<|P1 (cs_l1In hr3)<|P2 (r3 = false) (eqF h4)<|P0)))
 (fun h2 H =>
 eW RB (fun _ => []) H<|gE func95 [rg [{ i := 1, call := some { cl := true, auto := true, ins := [], res := (RB r1), G' := [] }, dec := some false }], r0] (by kernel_rfl) (P1 (cs_bGood hr1)<|P2 (r1 = false) (eqF h2)<|P0))
noncomputable def Ks_vcGood : Ss_vcGood → List Item
 | .h1 .. => nav 300 3 [false] [.code (bdy f96)]
def Zs_vcGood : Ss_vcGood → St
 | .h1 t0 t1 t2 b3 b4 => ⟨sts 67 [(2, .ptr 0 12 0 0), (3, .ptr 1 3 0 0), (29, sl 2 gi_Goal t0), (30, I t1), (31, I t2)], [some ⟨false, true, 12, 1, [gi_Board b3]⟩, some ⟨false, true, 3, 1, [gi_Conditions b4]⟩]⟩
abbrev Qs_vcGood := Nx X 96 0 Ks_vcGood Zs_vcGood RB (fun _ => [])
theorem ns_vcGood : ∀ s o, Bs_vcGood s = some o → Qs_vcGood (Ks_vcGood s) (Zs_vcGood s) o
 | .h1 t0 t1 t2 b3 b4, o, H =>
  eIf H (fun h1 H =>
  eCk H fun h2 H =>
  eBind H fun x3 hx3 H =>
  eBind H fun r4 hr4 H =>
  eBind H fun r5 hr5 H =>
  gN [rg [hT 0], rg [hE 2 (gi_Goal x3)]] (by kernel_rfl) (P2 ((decide (t2 < t1)) = true) (decide_eq_true h1)<|P1 h2<|P1 (int_lt_of_at h2 hx3)<|P1 (at_map gi_Goal hx3)<|P0) <|
  eIf H (fun h6 H =>
  eBind H fun r7 hr7 H =>
  eIf H (fun h8 H =>
  eIf H (fun h9 H =>
  eCk H fun h10 H =>
  eBind H fun x11 hx11 H =>
  eIf H (fun h12 H =>
  eN H<|gE func96 [rg [hC 4 true [] (RI r4) [], { i := 6, call := some { cl := true, auto := true, ins := [], res := (RB r5), G' := [] }, dec := some true }, { i := 11, call := some { cl := true, auto := true, ins := [], res := (RB r7), G' := [] }, dec := some true }, hT 16, hE 24 (gi_Goal x11), hT 27], r0] (by kernel_rfl) (P1 (cs_mSize hr4)<|P1 (cs_l1In hr5)<|P2 (r5 = true) (h6)<|P1 (cs_l1In hr7)<|P2 (r7 = true) (h8)<|P2 ((decide (t2 > 0)) = true) (decide_eq_true h9)<|P1 h10<|P1 (int_lt_of_at h10 hx11)<|P1 (at_map gi_Goal hx11)<|P2 ((decide (x11.At ≥ x3.At)) = true) (decide_eq_true h12)<|P0))
  (fun h12 H =>
  eN H fun r hn => gO [rg [hC 4 true [] (RI r4) [], { i := 6, call := some { cl := true, auto := true, ins := [], res := (RB r5), G' := [] }, dec := some true }, { i := 11, call := some { cl := true, auto := true, ins := [], res := (RB r7), G' := [] }, dec := some true }, hT 16, hE 24 (gi_Goal x11), hF 27], r0, .canon [0, 1] [2, 3, 29, 30, 31]] (by kernel_rfl) (P1 (cs_mSize hr4)<|P1 (cs_l1In hr5)<|P2 (r5 = true) (h6)<|P1 (cs_l1In hr7)<|P2 (r7 = true) (h8)<|P2 ((decide (t2 > 0)) = true) (decide_eq_true h9)<|P1 h10<|P1 (int_lt_of_at h10 hx11)<|P1 (at_map gi_Goal hx11)<|P2 ((decide (x11.At ≥ x3.At)) = false) (decide_eq_false h12)<|P0) hn))
  (fun h9 H =>
  eN H fun r hn => gO [rg [hC 4 true [] (RI r4) [], { i := 6, call := some { cl := true, auto := true, ins := [], res := (RB r5), G' := [] }, dec := some true }, { i := 11, call := some { cl := true, auto := true, ins := [], res := (RB r7), G' := [] }, dec := some true }, hF 16], r0, .canon [0, 1] [2, 3, 29, 30, 31]] (by kernel_rfl) (P1 (cs_mSize hr4)<|P1 (cs_l1In hr5)<|P2 (r5 = true) (h6)<|P1 (cs_l1In hr7)<|P2 (r7 = true) (h8)<|P2 ((decide (t2 > 0)) = false) (decide_eq_false h9)<|P0) hn))
  (fun h8 H =>
  eN H<|gE func96 [rg [hC 4 true [] (RI r4) [], { i := 6, call := some { cl := true, auto := true, ins := [], res := (RB r5), G' := [] }, dec := some true }, { i := 11, call := some { cl := true, auto := true, ins := [], res := (RB r7), G' := [] }, dec := some false }], r0] (by kernel_rfl) (P1 (cs_mSize hr4)<|P1 (cs_l1In hr5)<|P2 (r5 = true) (h6)<|P1 (cs_l1In hr7)<|P2 (r7 = false) (eqF h8)<|P0)))
  (fun h6 H =>
  eN H<|gE func96 [rg [hC 4 true [] (RI r4) [], { i := 6, call := some { cl := true, auto := true, ins := [], res := (RB r5), G' := [] }, dec := some false }], r0] (by kernel_rfl) (P1 (cs_mSize hr4)<|P1 (cs_l1In hr5)<|P2 (r5 = false) (eqF h6)<|P0)))
  (fun h1 H =>
  eN H<|gE func96 [rg [hF 0], r0] (by kernel_rfl) (P2 ((decide (t2 < t1)) = false) (decide_eq_false h1)<|P0))
theorem ws_vcGood : ∀ s r, loop Bs_vcGood s = some r → Wc X 96 0 (Ks_vcGood s) (Zs_vcGood s) (RB r) ((fun _ => []) r) := Nx.all (ns_vcGood)
theorem cs_vcGood {a0 : Gi_Board} {a1 : Gi_Conditions} {r : Bool} (H : Ds_vcGood a0 a1 = some r) : Ct X.P X.gl 96 [gi_Board a0, gi_Conditions a1] [] (RB r) [] :=
 Ct.of func96 (c := bdy f96) (by kernel_rfl) (by kernel_rfl) <|
 eBind H fun r1 hr1 H =>
 gS [r0] (by kernel_rfl) P0 <|
 eIf H (fun h2 H =>
 eIf H (fun h3 H =>
 eW RB (fun _ => []) H<|gE func96 [rg [{ i := 1, call := some { cl := true, auto := true, ins := [], res := (RB r1), G' := [] }, dec := some true }, hT 7], r0] (by kernel_rfl) (P1 (cs_bGood hr1)<|P2 (r1 = true) (h2)<|P2 ((decide (((a1.Goals.length : Nat) : Int) > 12)) = true) (decide_eq_true h3)<|P0))
 (fun h3 H =>
 eBind H fun r4 hr4 H =>
 eIf H (fun h5 H =>
 eBind H fun r6 hr6 H =>
 eIf H (fun h7 H =>
 gO [rg [{ i := 1, call := some { cl := true, auto := true, ins := [], res := (RB r1), G' := [] }, dec := some true }, hF 7, { i := 12, call := some { cl := true, auto := true, ins := [], res := (RB r4), G' := [] }, dec := some true }, { i := 18, call := some { cl := true, auto := true, ins := [], res := (RB r6), G' := [] }, dec := some true }], r0, .canon [0, 1] [2, 3, 29, 30, 31]] (by kernel_rfl) (P1 (cs_bGood hr1)<|P2 (r1 = true) (h2)<|P2 ((decide (((a1.Goals.length : Nat) : Int) > 12)) = false) (decide_eq_false h3)<|P1 (cs_l1In hr4)<|P2 (r4 = true) (h5)<|P1 (cs_l1In hr6)<|P2 (r6 = true) (h7)<|P0) (ws_vcGood _ _ H))
 (fun h7 H =>
 eW RB (fun _ => []) H<|gE func96 [rg [{ i := 1, call := some { cl := true, auto := true, ins := [], res := (RB r1), G' := [] }, dec := some true }, hF 7, { i := 12, call := some { cl := true, auto := true, ins := [], res := (RB r4), G' := [] }, dec := some true }, { i := 18, call := some { cl := true, auto := true, ins := [], res := (RB r6), G' := [] }, dec := some false }], r0] (by kernel_rfl) (P1 (cs_bGood hr1)<|P2 (r1 = true) (h2)<|P2 ((decide (((a1.Goals.length : Nat) : Int) > 12)) = false) (decide_eq_false h3)<|P1 (cs_l1In hr4)<|P2 (r4 = true) (h5)<|P1 (cs_l1In hr6)<|P2 (r6 = false) (eqF h7)<|P0)))
 (fun h5 H =>
 eW RB (fun _ => []) H<|gE func96 [rg [{ i := 1, call := some { cl := true, auto := true, ins := [], res := (RB r1), G' := [] }, dec := some true }, hF 7, { i := 12, call := some { cl := true, auto := true, ins := [], res := (RB r4), G' := [] }, dec := some false }], r0] (by kernel_rfl) (P1 (cs_bGood hr1)<|P2 (r1 = true) (h2)<|P2 ((decide (((a1.Goals.length : Nat) : Int) > 12)) = false) (decide_eq_false h3)<|P1 (cs_l1In hr4)<|P2 (r4 = false) (eqF h5)<|P0))))
 (fun h2 H =>
 eW RB (fun _ => []) H<|gE func96 [rg [{ i := 1, call := some { cl := true, auto := true, ins := [], res := (RB r1), G' := [] }, dec := some false }], r0] (by kernel_rfl) (P1 (cs_bGood hr1)<|P2 (r1 = false) (eqF h2)<|P0))
theorem cs_jSources {a0 : Gi_Board} {a1 : (List Int)} {r : Bool} (H : Ds_jSources a0 a1 = some r) : Ct X.P X.gl 97 [gi_Board a0, sl 1 I a1] [] (RB r) [] :=
 Ct.of func97 (c := bdy f97) (by kernel_rfl) (by kernel_rfl) <|
 gS [r0] (by kernel_rfl) P0 <|
 eIf H (fun h1 H =>
 eBind H fun r2 hr2 H =>
 eBind H fun r3 hr3 H =>
 eW RB (fun _ => []) H<|gE func97 [rg [hT 2, hC 7 true [] (RI r2) [], hC 9 true [] (RB r3) []]] (by kernel_rfl) (P2 ((decide (((a1.length : Nat) : Int) ≤ 6)) = true) (decide_eq_true h1)<|P1 (cs_mSize hr2)<|P1 (cs_l1Rising hr3)<|P0))
 (fun h1 H =>
 eW RB (fun _ => []) H<|gE func97 [rg [hF 2]] (by kernel_rfl) (P2 ((decide (((a1.length : Nat) : Int) ≤ 6)) = false) (decide_eq_false h1)<|P0))
theorem cs_snCode {a0 : Gi_Scenario} {r : Int} (H : Ds_snCode a0 = some r) : Ct X.P X.gl 50 [gi_Scenario a0] [] (RI r) [] :=
 Ct.of func50 (c := bdy f50) (by kernel_rfl) (by kernel_rfl) <|
 eBind H fun r1 hr1 H =>
 gS [r0] (by kernel_rfl) P0 <|
 eIf H (fun h2 H =>
 eBind H fun r3 hr3 H =>
 gS [rg [{ i := 2, call := some { cl := true, auto := true, ins := [], res := (RB r1), G' := [] }, dec := some true }]] (by kernel_rfl) (P1 (cs_rName hr1)<|P2 (r1 = true) (h2)<|P0) <|
 eIf H (fun h4 H =>
 eBind H fun r5 hr5 H =>
 gS [rg [{ i := 2, call := some { cl := true, auto := true, ins := [], res := (RB r3), G' := [] }, dec := some true }]] (by kernel_rfl) (P1 (cs_bGood hr3)<|P2 (r3 = true) (h4)<|P0) <|
 eIf H (fun h6 H =>
 eBind H fun r7 hr7 H =>
 gS [rg [{ i := 2, call := some { cl := true, auto := true, ins := [], res := (RB r5), G' := [] }, dec := some true }]] (by kernel_rfl) (P1 (cs_kGood hr5)<|P2 (r5 = true) (h6)<|P0) <|
 eIf H (fun h8 H =>
 eBind H fun r9 hr9 H =>
 gS [rg [{ i := 4, call := some { cl := true, auto := true, ins := [], res := (RB r7), G' := [] }, dec := some true }]] (by kernel_rfl) (P1 (cs_sGood hr7)<|P2 (r7 = true) (h8)<|P0) <|
 eIf H (fun h10 H =>
 eBind H fun r11 hr11 H =>
 gS [rg [{ i := 4, call := some { cl := true, auto := true, ins := [], res := (RB r9), G' := [] }, dec := some true }]] (by kernel_rfl) (P1 (cs_vcGood hr9)<|P2 (r9 = true) (h10)<|P0) <|
 eIf H (fun h12 H =>
 eBind H fun r13 hr13 H =>
 eIf H (fun h14 H =>
 eW RI (fun _ => []) H<|gE func50 [rg [{ i := 4, call := some { cl := true, auto := true, ins := [], res := (RB r11), G' := [] }, dec := some true }, { i := 11, call := some { cl := true, auto := true, ins := [], res := (RB r13), G' := [] }, dec := some true }], r0] (by kernel_rfl) (P1 (cs_jSources hr11)<|P2 (r11 = true) (h12)<|P1 (cs_jSources hr13)<|P2 (r13 = true) (h14)<|P0))
 (fun h14 H =>
 eW RI (fun _ => []) H<|gE func50 [rg [{ i := 4, call := some { cl := true, auto := true, ins := [], res := (RB r11), G' := [] }, dec := some true }, { i := 11, call := some { cl := true, auto := true, ins := [], res := (RB r13), G' := [] }, dec := some false }], r0] (by kernel_rfl) (P1 (cs_jSources hr11)<|P2 (r11 = true) (h12)<|P1 (cs_jSources hr13)<|P2 (r13 = false) (eqF h14)<|P0)))
 (fun h12 H =>
 eW RI (fun _ => []) H<|gE func50 [rg [{ i := 4, call := some { cl := true, auto := true, ins := [], res := (RB r11), G' := [] }, dec := some false }], r0] (by kernel_rfl) (P1 (cs_jSources hr11)<|P2 (r11 = false) (eqF h12)<|P0)))
 (fun h10 H =>
 eW RI (fun _ => []) H<|gE func50 [rg [{ i := 4, call := some { cl := true, auto := true, ins := [], res := (RB r9), G' := [] }, dec := some false }], r0] (by kernel_rfl) (P1 (cs_vcGood hr9)<|P2 (r9 = false) (eqF h10)<|P0)))
 (fun h8 H =>
 eW RI (fun _ => []) H<|gE func50 [rg [{ i := 4, call := some { cl := true, auto := true, ins := [], res := (RB r7), G' := [] }, dec := some false }], r0] (by kernel_rfl) (P1 (cs_sGood hr7)<|P2 (r7 = false) (eqF h8)<|P0)))
 (fun h6 H =>
 eW RI (fun _ => []) H<|gE func50 [rg [{ i := 2, call := some { cl := true, auto := true, ins := [], res := (RB r5), G' := [] }, dec := some false }], r0] (by kernel_rfl) (P1 (cs_kGood hr5)<|P2 (r5 = false) (eqF h6)<|P0)))
 (fun h4 H =>
 eW RI (fun _ => []) H<|gE func50 [rg [{ i := 2, call := some { cl := true, auto := true, ins := [], res := (RB r3), G' := [] }, dec := some false }], r0] (by kernel_rfl) (P1 (cs_bGood hr3)<|P2 (r3 = false) (eqF h4)<|P0)))
 (fun h2 H =>
 eW RI (fun _ => []) H<|gE func50 [rg [{ i := 2, call := some { cl := true, auto := true, ins := [], res := (RB r1), G' := [] }, dec := some false }], r0] (by kernel_rfl) (P1 (cs_rName hr1)<|P2 (r1 = false) (eqF h2)<|P0))
theorem cs_snGood {a0 : Gi_Scenario} {r : Bool} (H : Ds_snGood a0 = some r) : Ct X.P X.gl 17 [gi_Scenario a0] [] (RB r) [] :=
 Ct.of func17 (c := bdy f17) (by kernel_rfl) (by kernel_rfl) <|
 eBind H fun r1 hr1 H =>
 eW RB (fun _ => []) H<|gE func17 [r0, rg [hC 1 true [] (RI r1) []]] (by kernel_rfl) (P1 (cs_snCode hr1)<|P0)
def Rs_bfLimits (r : (List ByteArray)) : List D := [ow 1 D.str r]
theorem cs_bfLimits  {r : (List ByteArray)} (H : Ds_bfLimits = some r) : Ct X.P X.gl 201 [] [] (Rs_bfLimits r) [] :=
 Ct.of func201 (c := bdy f201) (by kernel_rfl) (by kernel_rfl) <|
 eW Rs_bfLimits (fun _ => []) H<|gE func201 [r0, r0] (by kernel_rfl) P0
def Rs_bfValues (r : (List Int)) : List D := [ow 1 I r]
theorem cs_bfValues {a0 : Gi_Rules} {r : (List Int)} (H : Ds_bfValues a0 = some r) : Ct X.P X.gl 202 [gi_Rules a0] [] (Rs_bfValues r) [] :=
 Ct.of func202 (c := bdy f202) (by kernel_rfl) (by kernel_rfl) <|
 eW Rs_bfValues (fun _ => []) H<|gE func202 [r0, r0] (by kernel_rfl) P0
def Rs_l1Num (r : ByteArray) : List D := [.str r]
theorem ks_l1Num {rec_ : Int → Option (ByteArray)} (ih : ∀ (a0 : Int) (r : ByteArray), rec_ a0 = some r → Ct X.P X.gl 54 [I a0] [] (Rs_l1Num r) []) {a0 : Int} {r : ByteArray} (H : Fs_l1Num rec_ a0 = some r) : Ct X.P X.gl 54 [I a0] [] (Rs_l1Num r) [] :=
 Ct.of func54 (c := bdy f54) (by kernel_rfl) (by kernel_rfl) <|
 gS [r0] (by kernel_rfl) P0 <|
 eIf H (fun h1 H =>
 eCk H fun h2 H =>
 eW Rs_l1Num (fun _ => []) H<|gE func54 [rg [hT 1], rg [{ i := 4, s := (bytesOf [(IntKind.wrap .u8 (IntKind.wrap .i64 (48 + a0)))]) }]] (by kernel_rfl) (P2 ((decide (a0 < 10)) = true) (decide_eq_true h1)<|P1 (bytesD_of h2)<|P0))
 (fun h1 H =>
 eBind H fun r2 hr2 H =>
 eCk H fun h3 H =>
 eCk H fun h4 H =>
 eW Rs_l1Num (fun _ => []) H<|gE func54 [rg [hF 1], rg [hC 2 true [] (Rs_l1Num r2) [], { i := 8, s := (bytesOf [(IntKind.wrap .u8 (IntKind.wrap .i64 (48 + (Int.tmod a0 10))))]) }]] (by kernel_rfl) (P2 ((decide (a0 < 10)) = false) (decide_eq_false h1)<|P2 (¬ (10 : Int) = 0) (by decide)<|P1 (ih _ _ hr2)<|P2 (¬ (10 : Int) = 0) (by decide)<|P1 (bytesD_of h3)<|P1 h4<|P0))
theorem crs_l1Num : ∀ (n_ : Nat) (a0 : Int) (r : ByteArray), Ds_l1Num n_ a0 = some r → Ct X.P X.gl 54 [I a0] [] (Rs_l1Num r) []
 | 0, a0, r, H => nomatch (show (none : Option (ByteArray)) = some r from H)
 | n_ + 1, a0, r, H => ks_l1Num (crs_l1Num n_) H
theorem cs_l1Num {n_ : Nat} {a0 : Int} {r : ByteArray} (H : Ds_l1Num n_ a0 = some r) : Ct X.P X.gl 54 [I a0] [] (Rs_l1Num r) [] := crs_l1Num n_ a0 r H
def Rs_bfKind (r : ByteArray) : List D := [.str r]
theorem cs_bfKind {a0 : Gi_Kind} {r : ByteArray} (H : Ds_bfKind a0 = some r) : Ct X.P X.gl 203 [gi_Kind a0] [] (Rs_bfKind r) [] :=
 Ct.of func203 (c := bdy f203) (by kernel_rfl) (by kernel_rfl) <|
 eCk H fun h1 H =>
 eCk H fun h2 H =>
 eBind H fun r3 hr3 H =>
 eCk H fun h4 H =>
 eCk H fun h5 H =>
 eBind H fun r6 hr6 H =>
 eCk H fun h7 H =>
 eCk H fun h8 H =>
 eBind H fun r9 hr9 H =>
 eCk H fun h10 H =>
 eCk H fun h11 H =>
 eBind H fun r12 hr12 H =>
 eCk H fun h13 H =>
 gS [r0, rg [hC 6 true [] (Rs_l1Num r3) [], hC 11 true [] (Rs_l1Num r6) [], hC 16 true [] (Rs_l1Num r9) [], hC 21 true [] (Rs_l1Num r12) []]] (by kernel_rfl) (P1 h1<|P1 h2<|P1 (cs_l1Num hr3)<|P1 h4<|P1 h5<|P1 (cs_l1Num hr6)<|P1 h7<|P1 h8<|P1 (cs_l1Num hr9)<|P1 h10<|P1 h11<|P1 (cs_l1Num hr12)<|P1 h13<|P0) <|
 eIf H (fun h14 H =>
 eCk H fun h15 H =>
 eW Rs_bfKind (fun _ => []) H<|gE func203 [rg [hT 1], r0, r0] (by kernel_rfl) (P2 (a0.Zone = true) (h14)<|P1 h15<|P0))
 (fun h14 H =>
 eW Rs_bfKind (fun _ => []) H<|gE func203 [rg [hF 1], r0] (by kernel_rfl) (P2 (a0.Zone = false) (eqF h14)<|P0))
def Rs_l1Int (r : ByteArray) : List D := [.str r]
theorem cs_l1Int {a0 : Int} {r : ByteArray} (H : Ds_l1Int a0 = some r) : Ct X.P X.gl 242 [I a0] [] (Rs_l1Int r) [] :=
 Ct.of func242 (c := bdy f242) (by kernel_rfl) (by kernel_rfl) <|
 gS [r0] (by kernel_rfl) P0 <|
 eIf H (fun h1 H =>
 eBind H fun r2 hr2 H =>
 eCk H fun h3 H =>
 eW Rs_l1Int (fun _ => []) H<|gE func242 [rg [hT 1], rg [hC 2 true [] (Rs_l1Num r2) []]] (by kernel_rfl) (P2 ((decide (a0 < 0)) = true) (decide_eq_true h1)<|P1 (cs_l1Num hr2)<|P1 h3<|P0))
 (fun h1 H =>
 eBind H fun r2 hr2 H =>
 eW Rs_l1Int (fun _ => []) H<|gE func242 [rg [hF 1], rg [hC 1 true [] (Rs_l1Num r2) []]] (by kernel_rfl) (P2 ((decide (a0 < 0)) = false) (decide_eq_false h1)<|P1 (cs_l1Num hr2)<|P0))
def Rs_bfTerrain (r : ByteArray) : List D := [.str r]
noncomputable def Ks_bfTerrain : Ss_bfTerrain → List Item
 | .h1 .. => nav 300 3 [] [.code (bdy f204)]
def Zs_bfTerrain : Ss_bfTerrain → St
 | .h1 s0 t1 t2 t3 b4 => ⟨sts 38 [(1, .ptr 0 5 0 0), (3, .str s0), (21, sl 1 I t1), (22, I t2), (23, I t3)], [some ⟨false, true, 5, 1, [gi_Terrain b4]⟩]⟩
abbrev Qs_bfTerrain := Nx X 204 0 Ks_bfTerrain Zs_bfTerrain Rs_bfTerrain (fun _ => [])
theorem ns_bfTerrain : ∀ s o, Bs_bfTerrain s = some o → Qs_bfTerrain (Ks_bfTerrain s) (Zs_bfTerrain s) o
 | .h1 s0 t1 t2 t3 b4, o, H =>
  eIf H (fun h1 H =>
  eCk H fun h2 H =>
  eBind H fun x3 hx3 H =>
  eBind H fun r4 hr4 H =>
  eCk H fun h5 H =>
  eCk H fun h6 H =>
  eN H fun r hn => gO [rg [hT 0], rg [hE 1 (I x3)], rg [hC 2 true [] (Rs_l1Num r4) []], r0, .canon [0] [1, 3, 21, 22, 23]] (by kernel_rfl) (P2 ((decide (t3 < t2)) = true) (decide_eq_true h1)<|P1 h2<|P1 (int_lt_of_at h2 hx3)<|P1 (at_map I hx3)<|P1 (cs_l1Num hr4)<|P1 h5<|P1 h6<|P0) hn)
  (fun h1 H =>
  gN [rg [hF 0]] (by kernel_rfl) (P2 ((decide (t3 < t2)) = false) (decide_eq_false h1)<|P0) <|
  eIf H (fun h2 H =>
  eCk H fun h3 H =>
  eN H<|gE func204 [rg [hT 1], r0, r0] (by kernel_rfl) (P2 (b4.Blocks = true) (h2)<|P1 h3<|P0))
  (fun h2 H =>
  eN H<|gE func204 [rg [hF 1], r0] (by kernel_rfl) (P2 (b4.Blocks = false) (eqF h2)<|P0)))
theorem ws_bfTerrain : ∀ s r, loop Bs_bfTerrain s = some r → Wc X 204 0 (Ks_bfTerrain s) (Zs_bfTerrain s) (Rs_bfTerrain r) ((fun _ => []) r) := Nx.all (ns_bfTerrain)
theorem cs_bfTerrain {a0 : Gi_Terrain} {r : ByteArray} (H : Ds_bfTerrain a0 = some r) : Ct X.P X.gl 204 [gi_Terrain a0] [] (Rs_bfTerrain r) [] :=
 Ct.of func204 (c := bdy f204) (by kernel_rfl) (by kernel_rfl) <|
 eCk H fun h1 H =>
 eCk H fun h2 H =>
 eBind H fun r3 hr3 H =>
 eCk H fun h4 H =>
 eCk H fun h5 H =>
 eBind H fun r6 hr6 H =>
 eCk H fun h7 H =>
 eCk H fun h8 H =>
 gO [r0, rg [hC 6 true [] (Rs_l1Int r3) [], hC 11 true [] (Rs_l1Num r6) []], r0, .canon [0] [1, 3, 21, 22, 23]] (by kernel_rfl) (P1 h1<|P1 h2<|P1 (cs_l1Int hr3)<|P1 h4<|P1 h5<|P1 (cs_l1Num hr6)<|P1 h7<|P1 h8<|P0) (ws_bfTerrain _ _ H)
def Rs_bfText (r : ByteArray) : List D := [.str r]
noncomputable def Ks_bfText : Ss_bfText → List Item
 | .h1 .. => nav 300 3 [] [.code (bdy f149)]
 | .h2 .. => nav 300 5 [false] [.code (bdy f149)]
 | .h3 .. => nav 300 7 [false, false] [.code (bdy f149)]
def Zs_bfText : Ss_bfText → St
 | .h1 s0 t1 t2 b3 l4 => ⟨sts 57 [(1, .ptr 0 7 0 0), (3, .str s0), (10, .ref 1 1 none), (11, I t1), (12, I t2)], [some ⟨false, true, 7, 1, [gi_Rules b3]⟩, some ⟨false, false, 1, l4.length, List.map D.str l4⟩]⟩
 | .h2 s0 t1 t2 t3 b4 => ⟨sts 57 [(1, .ptr 0 7 0 0), (3, .str s0), (31, sl 6 gi_Kind t1), (32, I t2), (33, I t3)], [some ⟨false, true, 7, 1, [gi_Rules b4]⟩]⟩
 | .h3 s0 t1 t2 t3 => ⟨sts 57 [(3, .str s0), (44, sl 5 gi_Terrain t1), (45, I t2), (46, I t3)], []⟩
abbrev Qs_bfText := Nx X 149 0 Ks_bfText Zs_bfText Rs_bfText (fun _ => [])
theorem ns_bfText : ∀ s o, Bs_bfText s = some o → Qs_bfText (Ks_bfText s) (Zs_bfText s) o
 | .h1 s0 t1 t2 b3 l4, o, H =>
  eIf H (fun h1 H =>
  eCk H fun h2 H =>
  eBind H fun x3 hx3 H =>
  eCk H fun h4 H =>
  eBind H fun r5 hr5 H =>
  eCk H fun h6 H =>
  eBind H fun x7 hx7 H =>
  eBind H fun r8 hr8 H =>
  eCk H fun h9 H =>
  eCk H fun h10 H =>
  eCk H fun h11 H =>
  eN H fun r hn => gO [rg [hT 0], rg [hE 2 (D.str x3)], rg [hC 4 true [] (Rs_bfValues r5) [], hE 7 (I x7), hC 8 true [] (Rs_l1Num r8) []], r0, .canon [0, 1] [1, 3, 10, 11, 12]] (by kernel_rfl) (P2 ((decide (t2 < t1)) = true) (decide_eq_true h1)<|P1 h2<|P1 (int_lt_of_at h2 hx3)<|P1 (at_map D.str hx3)<|P1 h4<|P1 (cs_bfValues hr5)<|P1 h6<|P1 (int_lt_of_at h6 hx7)<|P1 (at_map I hx7)<|P1 (cs_l1Num hr8)<|P1 h9<|P1 h10<|P1 h11<|P0) hn)
  (fun h1 H =>
  eN H fun r hn => gO [rg [hF 0], r0, .canon [0] [1, 3, 31, 32, 33]] (by kernel_rfl) (P2 ((decide (t2 < t1)) = false) (decide_eq_false h1)<|P0) hn)
 | .h2 s0 t1 t2 t3 b4, o, H =>
  eIf H (fun h1 H =>
  eCk H fun h2 H =>
  eBind H fun x3 hx3 H =>
  eBind H fun r4 hr4 H =>
  eCk H fun h5 H =>
  eCk H fun h6 H =>
  eN H fun r hn => gO [rg [hT 0], rg [hE 1 (gi_Kind x3)], rg [hC 2 true [] (Rs_bfKind r4) []], r0, .canon [0] [1, 3, 31, 32, 33]] (by kernel_rfl) (P2 ((decide (t3 < t2)) = true) (decide_eq_true h1)<|P1 h2<|P1 (int_lt_of_at h2 hx3)<|P1 (at_map gi_Kind hx3)<|P1 (cs_bfKind hr4)<|P1 h5<|P1 h6<|P0) hn)
  (fun h1 H =>
  eN H fun r hn => gO [rg [hF 0], r0, .canon [] [3, 44, 45, 46]] (by kernel_rfl) (P2 ((decide (t3 < t2)) = false) (decide_eq_false h1)<|P0) hn)
 | .h3 s0 t1 t2 t3, o, H =>
  eIf H (fun h1 H =>
  eCk H fun h2 H =>
  eBind H fun x3 hx3 H =>
  eBind H fun r4 hr4 H =>
  eCk H fun h5 H =>
  eCk H fun h6 H =>
  eN H fun r hn => gO [rg [hT 0], rg [hE 1 (gi_Terrain x3)], rg [hC 2 true [] (Rs_bfTerrain r4) []], r0, .canon [] [3, 44, 45, 46]] (by kernel_rfl) (P2 ((decide (t3 < t2)) = true) (decide_eq_true h1)<|P1 h2<|P1 (int_lt_of_at h2 hx3)<|P1 (at_map gi_Terrain hx3)<|P1 (cs_bfTerrain hr4)<|P1 h5<|P1 h6<|P0) hn)
  (fun h1 H =>
  eN H<|gE func149 [rg [hF 0], r0] (by kernel_rfl) (P2 ((decide (t3 < t2)) = false) (decide_eq_false h1)<|P0))
theorem ws_bfText : ∀ s r, loop Bs_bfText s = some r → Wc X 149 0 (Ks_bfText s) (Zs_bfText s) (Rs_bfText r) ((fun _ => []) r) := Nx.all (ns_bfText)
theorem cs_bfText {a0 : Gi_Rules} {r : ByteArray} (H : Ds_bfText a0 = some r) : Ct X.P X.gl 149 [gi_Rules a0] [] (Rs_bfText r) [] :=
 have H := (Ds_bfText.eq_1 ..).symm.trans H
 Ct.of func149 (c := bdy f149) (by kernel_rfl) (by kernel_rfl) <|
 eBind H fun r1 hr1 H =>
 gO [r0, r0, rg [hC 0 true [] (Rs_bfLimits r1) []], .canon [0, 1] [1, 3, 10, 11, 12]] (by kernel_rfl) (P1 (cs_bfLimits hr1)<|P0) (ws_bfText _ _ H)
def Rs_mList (r : ByteArray) : List D := [.str r]
noncomputable def Ks_mList : Ss_mList → List Item
 | .h1 .. => nav 300 2 [] [.code (bdy f55)]
def Zs_mList : Ss_mList → St
 | .h1 word0 t1 t2 t3 => ⟨sts 21 [(0, .str word0), (7, sl 1 I t1), (8, I t2), (9, I t3)], []⟩
abbrev Qs_mList := Nx X 55 0 Ks_mList Zs_mList Rs_mList (fun _ => [])
theorem ns_mList : ∀ s o, Bs_mList s = some o → Qs_mList (Ks_mList s) (Zs_mList s) o
 | .h1 word0 t1 t2 t3, o, H =>
  eIf H (fun h1 H =>
  eCk H fun h2 H =>
  eBind H fun x3 hx3 H =>
  eBind H fun r4 hr4 H =>
  eCk H fun h5 H =>
  eCk H fun h6 H =>
  eN H fun r hn => gO [rg [hT 0], rg [hE 1 (I x3)], rg [hC 2 true [] (Rs_l1Num r4) []], r0, .canon [] [0, 7, 8, 9]] (by kernel_rfl) (P2 ((decide (t3 < t2)) = true) (decide_eq_true h1)<|P1 h2<|P1 (int_lt_of_at h2 hx3)<|P1 (at_map I hx3)<|P1 (cs_l1Num hr4)<|P1 h5<|P1 h6<|P0) hn)
  (fun h1 H =>
  eCk H fun h2 H =>
  eN H<|gE func55 [rg [hF 0], r0] (by kernel_rfl) (P2 ((decide (t3 < t2)) = false) (decide_eq_false h1)<|P1 h2<|P0))
theorem ws_mList : ∀ s r, loop Bs_mList s = some r → Wc X 55 0 (Ks_mList s) (Zs_mList s) (Rs_mList r) ((fun _ => []) r) := Nx.all (ns_mList)
theorem cs_mList {a0 : ByteArray} {a1 : (List Int)} {r : ByteArray} (H : Ds_mList a0 a1 = some r) : Ct X.P X.gl 55 [.str a0, sl 1 I a1] [] (Rs_mList r) [] :=
 Ct.of func55 (c := bdy f55) (by kernel_rfl) (by kernel_rfl) <|
 gO [r0, r0, .canon [] [0, 7, 8, 9]] (by kernel_rfl) P0 (ws_mList _ _ H)
def Rs_mText (r : ByteArray) : List D := [.str r]
noncomputable def Ks_mText : Ss_mText → List Item
 | .h1 .. => nav 300 3 [] [.code (bdy f34)]
def Zs_mText : Ss_mText → St
 | .h1 s0 t1 t2 t3 b4 => ⟨sts 48 [(1, .ptr 0 5 0 0), (3, .str s0), (17, sl 1 I t1), (18, I t2), (19, I t3)], [some ⟨false, true, 5, 1, [gi_Map b4]⟩]⟩
abbrev Qs_mText := Nx X 34 0 Ks_mText Zs_mText Rs_mText (fun _ => [])
theorem ns_mText : ∀ s o, Bs_mText s = some o → Qs_mText (Ks_mText s) (Zs_mText s) o
 | .h1 s0 t1 t2 t3 b4, o, H =>
  eIf H (fun h1 H =>
  eCk H fun h2 H =>
  eBind H fun x3 hx3 H =>
  eBind H fun r4 hr4 H =>
  eCk H fun h5 H =>
  eCk H fun h6 H =>
  gN [rg [hT 0], rg [hE 2 (I x3)], rg [hC 2 true [] (Rs_l1Num r4) []]] (by kernel_rfl) (P2 ((decide (t3 < t2)) = true) (decide_eq_true h1)<|P1 h2<|P1 (int_lt_of_at h2 hx3)<|P1 (at_map I hx3)<|P1 (cs_l1Num hr4)<|P1 h5<|P0) <|
  eIf H (fun h7 H =>
  eCk H fun h8 H =>
  eN H fun r hn => gO [rg [hT 7], r0, r0, .canon [0] [1, 3, 17, 18, 19]] (by kernel_rfl) (P2 (¬ (b4.Width : Int) = 0) h6<|P2 ((((Int.tmod t3 b4.Width) : Int) == (IntKind.wrap .i64 (b4.Width - 1))) = true) (beqT h7)<|P1 h8<|P0) hn)
  (fun h7 H =>
  eN H fun r hn => gO [rg [hF 7], r0, .canon [0] [1, 3, 17, 18, 19]] (by kernel_rfl) (P2 (¬ (b4.Width : Int) = 0) h6<|P2 ((((Int.tmod t3 b4.Width) : Int) == (IntKind.wrap .i64 (b4.Width - 1))) = false) (beqF h7)<|P0) hn))
  (fun h1 H =>
  eBind H fun r2 hr2 H =>
  eCk H fun h3 H =>
  eBind H fun r4 hr4 H =>
  eCk H fun h5 H =>
  eN H<|gE func34 [rg [hF 0], rg [hC 3 true [] (Rs_mList r2) [], hC 7 true [] (Rs_mList r4) []]] (by kernel_rfl) (P2 ((decide (t3 < t2)) = false) (decide_eq_false h1)<|P1 (cs_mList hr2)<|P1 h3<|P1 (cs_mList hr4)<|P1 h5<|P0))
theorem ws_mText : ∀ s r, loop Bs_mText s = some r → Wc X 34 0 (Ks_mText s) (Zs_mText s) (Rs_mText r) ((fun _ => []) r) := Nx.all (ns_mText)
theorem cs_mText {a0 : Gi_Map} {r : ByteArray} (H : Ds_mText a0 = some r) : Ct X.P X.gl 34 [gi_Map a0] [] (Rs_mText r) [] :=
 Ct.of func34 (c := bdy f34) (by kernel_rfl) (by kernel_rfl) <|
 eBind H fun r1 hr1 H =>
 eCk H fun h2 H =>
 eCk H fun h3 H =>
 eBind H fun r4 hr4 H =>
 eCk H fun h5 H =>
 eCk H fun h6 H =>
 gO [r0, rg [hC 2 true [] (Rs_l1Num r1) [], hC 7 true [] (Rs_l1Num r4) []], r0, .canon [0] [1, 3, 17, 18, 19]] (by kernel_rfl) (P1 (cs_l1Num hr1)<|P1 h2<|P1 h3<|P1 (cs_l1Num hr4)<|P1 h5<|P1 h6<|P0) (ws_mText _ _ H)
def Rs_bfBoard (r : ByteArray) : List D := [.str r]
theorem cs_bfBoard {a0 : Gi_Board} {r : ByteArray} (H : Ds_bfBoard a0 = some r) : Ct X.P X.gl 98 [gi_Board a0] [] (Rs_bfBoard r) [] :=
 Ct.of func98 (c := bdy f98) (by kernel_rfl) (by kernel_rfl) <|
 eBind H fun r1 hr1 H =>
 eBind H fun r2 hr2 H =>
 eCk H fun h3 H =>
 eW Rs_bfBoard (fun _ => []) H<|gE func98 [r0, rg [hC 2 true [] (Rs_bfText r1) [], hC 5 true [] (Rs_mText r2) []]] (by kernel_rfl) (P1 (cs_bfText hr1)<|P1 (cs_mText hr2)<|P1 h3<|P0)
def Rs_BoardText (r : ByteArray × Bool) : List D := [.str r.1, .bool r.2]
theorem cs_BoardText {a0 : Gi_Board} {r : ByteArray × Bool} (H : Ds_BoardText a0 = some r) : Ct X.P X.gl 51 [gi_Board a0] [] (Rs_BoardText r) [] :=
 Ct.of func51 (c := bdy f51) (by kernel_rfl) (by kernel_rfl) <|
 eBind H fun r1 hr1 H =>
 gS [r0] (by kernel_rfl) P0 <|
 eIf H (fun h2 H =>
 eBind H fun r3 hr3 H =>
 eW Rs_BoardText (fun _ => []) H<|gE func51 [rg [{ i := 1, call := some { cl := true, auto := true, ins := [], res := (RB r1), G' := [] }, dec := some true }], rg [hC 1 true [] (Rs_bfBoard r3) []]] (by kernel_rfl) (P1 (cs_bGood hr1)<|P2 (r1 = true) (h2)<|P1 (cs_bfBoard hr3)<|P0))
 (fun h2 H =>
 eW Rs_BoardText (fun _ => []) H<|gE func51 [rg [{ i := 1, call := some { cl := true, auto := true, ins := [], res := (RB r1), G' := [] }, dec := some false }], r0] (by kernel_rfl) (P1 (cs_bGood hr1)<|P2 (r1 = false) (eqF h2)<|P0))
def Rs_kText (r : ByteArray) : List D := [.str r]
noncomputable def Ks_kText : Ss_kText → List Item
 | .h1 .. => nav 300 3 [] [.code (bdy f52)]
 | .h2 .. => nav 300 6 [false] [.code (bdy f52)]
 | .h3 .. => nav 300 9 [false, true] [.code (bdy f52)]
def Zs_kText : Ss_kText → St
 | .h1 out0 t1 t2 t3 b4 => ⟨sts 58 [(1, .ptr 0 3 0 0), (3, .str out0), (11, sl 2 gi_Odds t1), (12, I t2), (13, I t3)], [some ⟨false, true, 3, 1, [gi_CombatTable b4]⟩]⟩
 | .h2 out0 t1 t2 t3 => ⟨sts 58 [(3, .str out0), (37, sl 1 (sl 1 I) t1), (38, I t2), (39, I t3)], []⟩
 | .h3 out0 t1 t2 t3 t4 t5 t6 => ⟨sts 58 [(3, .str out0), (37, sl 1 (sl 1 I) t1), (38, I t2), (39, I t3), (43, sl 1 I t4), (44, I t5), (45, I t6)], []⟩
abbrev Qs_kText := Nx X 52 0 Ks_kText Zs_kText Rs_kText (fun _ => [])
theorem ns_kText : ∀ s o, Bs_kText s = some o → Qs_kText (Ks_kText s) (Zs_kText s) o
 | .h1 out0 t1 t2 t3 b4, o, H =>
  eIf H (fun h1 H =>
  eCk H fun h2 H =>
  eBind H fun x3 hx3 H =>
  eBind H fun r4 hr4 H =>
  eCk H fun h5 H =>
  eCk H fun h6 H =>
  eBind H fun r7 hr7 H =>
  eCk H fun h8 H =>
  eCk H fun h9 H =>
  eN H fun r hn => gO [rg [hT 0], rg [hE 1 (gi_Odds x3)], rg [hC 3 true [] (Rs_l1Num r4) [], hC 8 true [] (Rs_l1Num r7) []], r0, .canon [0] [1, 3, 11, 12, 13]] (by kernel_rfl) (P2 ((decide (t3 < t2)) = true) (decide_eq_true h1)<|P1 h2<|P1 (int_lt_of_at h2 hx3)<|P1 (at_map gi_Odds hx3)<|P1 (cs_l1Num hr4)<|P1 h5<|P1 h6<|P1 (cs_l1Num hr7)<|P1 h8<|P1 h9<|P0) hn)
  (fun h1 H =>
  eBind H fun r2 hr2 H =>
  eCk H fun h3 H =>
  eCk H fun h4 H =>
  eCk H fun h5 H =>
  eN H fun r hn => gO [rg [hF 0], rg [hC 3 true [] (Rs_l1Num r2) []], r0, .canon [] [3, 37, 38, 39]] (by kernel_rfl) (P2 ((decide (t3 < t2)) = false) (decide_eq_false h1)<|P1 (cs_l1Num hr2)<|P1 h3<|P1 h4<|P1 h5<|P0) hn)
 | .h2 out0 t1 t2 t3, o, H =>
  eIf H (fun h1 H =>
  eCk H fun h2 H =>
  eBind H fun x3 hx3 H =>
  eN H fun r hn => gO [rg [hT 0], rg [hE 1 ((sl 1 I) x3)], r0, .canon [] [3, 37, 38, 39, 43, 44, 45]] (by kernel_rfl) (P2 ((decide (t3 < t2)) = true) (decide_eq_true h1)<|P1 h2<|P1 (int_lt_of_at h2 hx3)<|P1 (at_map (sl 1 I) hx3)<|P0) hn)
  (fun h1 H =>
  eN H<|gE func52 [rg [hF 0], r0] (by kernel_rfl) (P2 ((decide (t3 < t2)) = false) (decide_eq_false h1)<|P0))
 | .h3 out0 t1 t2 t3 t4 t5 t6, o, H =>
  eIf H (fun h1 H =>
  eCk H fun h2 H =>
  eBind H fun x3 hx3 H =>
  eBind H fun r4 hr4 H =>
  eCk H fun h5 H =>
  eN H fun r hn => gO [rg [hT 0], rg [hE 1 (I x3)], rg [hC 2 true [] (Rs_l1Num r4) []], r0, .canon [] [3, 37, 38, 39, 43, 44, 45]] (by kernel_rfl) (P2 ((decide (t6 < t5)) = true) (decide_eq_true h1)<|P1 h2<|P1 (int_lt_of_at h2 hx3)<|P1 (at_map I hx3)<|P1 (cs_l1Num hr4)<|P1 h5<|P0) hn)
  (fun h1 H =>
  eCk H fun h2 H =>
  eN H fun r hn => gO [rg [hF 0], r0, r0, .canon [] [3, 37, 38, 39]] (by kernel_rfl) (P2 ((decide (t6 < t5)) = false) (decide_eq_false h1)<|P1 h2<|P0) hn)
theorem ws_kText : ∀ s r, loop Bs_kText s = some r → Wc X 52 0 (Ks_kText s) (Zs_kText s) (Rs_kText r) ((fun _ => []) r) := Nx.all (ns_kText)
theorem cs_kText {a0 : Gi_CombatTable} {r : ByteArray} (H : Ds_kText a0 = some r) : Ct X.P X.gl 52 [gi_CombatTable a0] [] (Rs_kText r) [] :=
 Ct.of func52 (c := bdy f52) (by kernel_rfl) (by kernel_rfl) <|
 gO [r0, r0, r0, .canon [0] [1, 3, 11, 12, 13]] (by kernel_rfl) P0 (ws_kText _ _ H)
def Rs_sText (r : ByteArray) : List D := [.str r]
noncomputable def Ks_sText : Ss_sText → List Item
 | .h1 .. => nav 300 3 [] [.code (bdy f53)]
def Zs_sText : Ss_sText → St
 | .h1 out0 t1 t2 t3 b4 => ⟨sts 58 [(2, .ptr 0 12 0 0), (5, .str out0), (20, sl 4 gi_Unit t1), (21, I t2), (22, I t3)], [some ⟨false, true, 12, 1, [gi_Board b4]⟩]⟩
abbrev Qs_sText := Nx X 53 0 Ks_sText Zs_sText Rs_sText (fun _ => [])
theorem ns_sText : ∀ s o, Bs_sText s = some o → Qs_sText (Ks_sText s) (Zs_sText s) o
 | .h1 out0 t1 t2 t3 b4, o, H =>
  eIf H (fun h1 H =>
  eCk H fun h2 H =>
  eBind H fun x3 hx3 H =>
  gN [rg [hT 0], rg [hE 1 (gi_Unit x3)], r0] (by kernel_rfl) (P2 ((decide (t3 < t2)) = true) (decide_eq_true h1)<|P1 h2<|P1 (int_lt_of_at h2 hx3)<|P1 (at_map gi_Unit hx3)<|P0) <|
  eIf H (fun h4 H =>
  eBind H fun r5 hr5 H =>
  eBind H fun r6 hr6 H =>
  eCk H fun h7 H =>
  eCk H fun h8 H =>
  eBind H fun x9 hx9 H =>
  eCk H fun h10 H =>
  eCk H fun h11 H =>
  eCk H fun h12 H =>
  eCk H fun h13 H =>
  eBind H fun r14 hr14 H =>
  eCk H fun h15 H =>
  eCk H fun h16 H =>
  eCk H fun h17 H =>
  eN H fun r hn => gO [rg [hT 2], rg [hC 2 true [] (Rs_l1Num r5) []], rg [hC 3 true [] (Rs_l1Num r6) [], hE 12 (gi_Kind x9), hC 20 true [] (Rs_l1Num r14) []], r0, .canon [0] [2, 5, 20, 21, 22]] (by kernel_rfl) (P2 ((decide (x3.At ≥ 0)) = true) (decide_eq_true h4)<|P1 (cs_l1Num hr5)<|P1 (cs_l1Num hr6)<|P1 h7<|P1 h8<|P1 (int_lt_of_at h8 hx9)<|P1 (at_map gi_Kind hx9)<|P1 h10<|P1 h11<|P1 h12<|P1 h13<|P1 (cs_l1Num hr14)<|P1 h15<|P1 h16<|P1 h17<|P0) hn)
  (fun h4 H =>
  eBind H fun r5 hr5 H =>
  eCk H fun h6 H =>
  eCk H fun h7 H =>
  eBind H fun x8 hx8 H =>
  eCk H fun h9 H =>
  eCk H fun h10 H =>
  eCk H fun h11 H =>
  eCk H fun h12 H =>
  eBind H fun r13 hr13 H =>
  eCk H fun h14 H =>
  eCk H fun h15 H =>
  eCk H fun h16 H =>
  eN H fun r hn => gO [rg [hF 2], rg [hC 3 true [] (Rs_l1Num r5) [], hE 12 (gi_Kind x8), hC 20 true [] (Rs_l1Num r13) []], r0, .canon [0] [2, 5, 20, 21, 22]] (by kernel_rfl) (P2 ((decide (x3.At ≥ 0)) = false) (decide_eq_false h4)<|P1 (cs_l1Num hr5)<|P1 h6<|P1 h7<|P1 (int_lt_of_at h7 hx8)<|P1 (at_map gi_Kind hx8)<|P1 h9<|P1 h10<|P1 h11<|P1 h12<|P1 (cs_l1Num hr13)<|P1 h14<|P1 h15<|P1 h16<|P0) hn))
  (fun h1 H =>
  eN H<|gE func53 [rg [hF 0], r0] (by kernel_rfl) (P2 ((decide (t3 < t2)) = false) (decide_eq_false h1)<|P0))
theorem ws_sText : ∀ s r, loop Bs_sText s = some r → Wc X 53 0 (Ks_sText s) (Zs_sText s) (Rs_sText r) ((fun _ => []) r) := Nx.all (ns_sText)
theorem cs_sText {a0 : Gi_Board} {a1 : Gi_State} {r : ByteArray} (H : Ds_sText a0 a1 = some r) : Ct X.P X.gl 53 [gi_Board a0, gi_State a1] [] (Rs_sText r) [] :=
 Ct.of func53 (c := bdy f53) (by kernel_rfl) (by kernel_rfl) <|
 eBind H fun r1 hr1 H =>
 eCk H fun h2 H =>
 eCk H fun h3 H =>
 eBind H fun r4 hr4 H =>
 eCk H fun h5 H =>
 eCk H fun h6 H =>
 gO [r0, rg [hC 2 true [] (Rs_l1Num r1) [], hC 7 true [] (Rs_l1Num r4) []], r0, .canon [0] [2, 5, 20, 21, 22]] (by kernel_rfl) (P1 (cs_l1Num hr1)<|P1 h2<|P1 h3<|P1 (cs_l1Num hr4)<|P1 h5<|P1 h6<|P0) (ws_sText _ _ H)
def Rs_snText (r : ByteArray) : List D := [.str r]
noncomputable def Ks_snText : Ss_snText → List Item
 | .h1 .. => nav 300 5 [] [.code (bdy f18)]
def Zs_snText : Ss_snText → St
 | .h1 out0 t1 t2 t3 b4 => ⟨sts 73 [(1, .ptr 0 24 0 0), (5, .str out0), (46, sl 2 gi_Goal t1), (47, I t2), (48, I t3)], [some ⟨false, true, 24, 1, [gi_Scenario b4]⟩]⟩
abbrev Qs_snText := Nx X 18 0 Ks_snText Zs_snText Rs_snText (fun _ => [])
theorem ns_snText : ∀ s o, Bs_snText s = some o → Qs_snText (Ks_snText s) (Zs_snText s) o
 | .h1 out0 t1 t2 t3 b4, o, H =>
  eIf H (fun h1 H =>
  eCk H fun h2 H =>
  eBind H fun x3 hx3 H =>
  eBind H fun r4 hr4 H =>
  eCk H fun h5 H =>
  eBind H fun r6 hr6 H =>
  eCk H fun h7 H =>
  eCk H fun h8 H =>
  eCk H fun h9 H =>
  eN H fun r hn => gO [rg [hT 0], rg [hE 1 (gi_Goal x3)], rg [hC 3 true [] (Rs_l1Num r4) [], hC 7 true [] (Rs_l1Num r6) []], r0, .canon [0] [1, 5, 46, 47, 48]] (by kernel_rfl) (P2 ((decide (t3 < t2)) = true) (decide_eq_true h1)<|P1 h2<|P1 (int_lt_of_at h2 hx3)<|P1 (at_map gi_Goal hx3)<|P1 (cs_l1Num hr4)<|P1 h5<|P1 (cs_l1Num hr6)<|P1 h7<|P1 h8<|P1 h9<|P0) hn)
  (fun h1 H =>
  eBind H fun r2 hr2 H =>
  eCk H fun h3 H =>
  eBind H fun r4 hr4 H =>
  eCk H fun h5 H =>
  eN H<|gE func18 [rg [hF 0], rg [hC 3 true [] (Rs_mList r2) [], hC 7 true [] (Rs_mList r4) []]] (by kernel_rfl) (P2 ((decide (t3 < t2)) = false) (decide_eq_false h1)<|P1 (cs_mList hr2)<|P1 h3<|P1 (cs_mList hr4)<|P1 h5<|P0))
theorem ws_snText : ∀ s r, loop Bs_snText s = some r → Wc X 18 0 (Ks_snText s) (Zs_snText s) (Rs_snText r) ((fun _ => []) r) := Nx.all (ns_snText)
theorem cs_snText {a0 : Gi_Scenario} {r : ByteArray} (H : Ds_snText a0 = some r) : Ct X.P X.gl 18 [gi_Scenario a0] [] (Rs_snText r) [] :=
 Ct.of func18 (c := bdy f18) (by kernel_rfl) (by kernel_rfl) <|
 eBind H fun r1 hr1 H =>
 eCk H fun h2 H =>
 eCk H fun h3 H =>
 eCk H fun h4 H =>
 eBind H fun r5 hr5 H =>
 eCk H fun h6 H =>
 eBind H fun r7 hr7 H =>
 eCk H fun h8 H =>
 eBind H fun r9 hr9 H =>
 eCk H fun h10 H =>
 eCk H fun h11 H =>
 eBind H fun r12 hr12 H =>
 eCk H fun h13 H =>
 eCk H fun h14 H =>
 eCk H fun h15 H =>
 gO [r0, rg [hC 2 true [] (Rs_BoardText r1) []], rg [hC 8 true [] (Rs_kText r5) [], hC 14 true [] (Rs_sText r7) []], rg [hC 4 true [] (Rs_l1Num r9) [], hC 10 true [] (Rs_l1Num r12) []], r0, .canon [0] [1, 5, 46, 47, 48]] (by kernel_rfl) (P1 (cs_BoardText hr1)<|P1 h2<|P1 h3<|P1 h4<|P1 (cs_kText hr5)<|P1 h6<|P1 (cs_sText hr7)<|P1 h8<|P1 (cs_l1Num hr9)<|P1 h10<|P1 h11<|P1 (cs_l1Num hr12)<|P1 h13<|P1 h14<|P1 h15<|P0) (ws_snText _ _ H)
def Rs_ScenarioText (r : ByteArray × Bool) : List D := [.str r.1, .bool r.2]
theorem cs_ScenarioText {a0 : Gi_Scenario} {r : ByteArray × Bool} (H : Ds_ScenarioText a0 = some r) : Ct X.P X.gl 6 [gi_Scenario a0] [] (Rs_ScenarioText r) [] :=
 Ct.of func6 (c := bdy f6) (by kernel_rfl) (by kernel_rfl) <|
 eBind H fun r1 hr1 H =>
 gS [r0] (by kernel_rfl) P0 <|
 eIf H (fun h2 H =>
 eBind H fun r3 hr3 H =>
 eW Rs_ScenarioText (fun _ => []) H<|gE func6 [rg [{ i := 1, call := some { cl := true, auto := true, ins := [], res := (RB r1), G' := [] }, dec := some true }], rg [hC 1 true [] (Rs_snText r3) []]] (by kernel_rfl) (P1 (cs_snGood hr1)<|P2 (r1 = true) (h2)<|P1 (cs_snText hr3)<|P0))
 (fun h2 H =>
 eW Rs_ScenarioText (fun _ => []) H<|gE func6 [rg [{ i := 1, call := some { cl := true, auto := true, ins := [], res := (RB r1), G' := [] }, dec := some false }], r0] (by kernel_rfl) (P1 (cs_snGood hr1)<|P2 (r1 = false) (eqF h2)<|P0))
theorem ci_inRange {a0 : Int} {a1 : Int} {a2 : Int} {r : Bool} (H : Di_inRange a0 a1 a2 = some r) : Ct X.P X.gl 152 [I a0, I a1, I a2] [] (RB r) [] :=
 Ct.of func152 (c := bdy f152) (by kernel_rfl) (by kernel_rfl) <|
 gS [r0] (by kernel_rfl) P0 <|
 eIf H (fun h1 H =>
 eW RB (fun _ => []) H<|gE func152 [rg [hT 2]] (by kernel_rfl) (P2 ((decide (a1 ≤ a0)) = true) (decide_eq_true h1)<|P0))
 (fun h1 H =>
 eW RB (fun _ => []) H<|gE func152 [rg [hF 2]] (by kernel_rfl) (P2 ((decide (a1 ≤ a0)) = false) (decide_eq_false h1)<|P0))
noncomputable def Ki_isName : Si_isName → List Item
 | .h1 .. => nav 300 2 [] [.code (bdy f104)]
def Zi_isName : Si_isName → St
 | .h1 s0 i1 => ⟨sts 23 [(0, .str s0), (3, I i1)], []⟩
abbrev Qi_isName := Nx X 104 0 Ki_isName Zi_isName RB (fun _ => [])
theorem ni_isName : ∀ s o, Bi_isName s = some o → Qi_isName (Ki_isName s) (Zi_isName s) o
 | .h1 s0 i1, o, H =>
  eIf H (fun h1 H =>
  eCk H fun h2 H =>
  eCk H fun h3 H =>
  gN [rg [hT 3]] (by kernel_rfl) (P2 ((decide (i1 < ((ByteArray.size s0 : Nat) : Int))) = true) (decide_eq_true h1)<|P0) <|
  eIf H (fun h4 H =>
  eN H<|gE func104 [rg [{ i := 2, n := byteAt s0 (Int.toNat i1) }, hT 3], r0] (by kernel_rfl) (P2 ((0 : Int) ≤ i1) h2<|P2 (i1 < (ByteArray.size s0 : Int)) h3<|P2 ((s0.data.toList[(Int.toNat i1)]?.map fun b => (b.toNat : Int)) = some ((byteAt s0 (Int.toNat i1) : Nat) : Int)) (byteAt_ok (by omega))<|P2 ((decide (((byteAt s0 (Int.toNat i1) : Nat) : Int) < 97)) = true) (decide_eq_true h4)<|P0))
  (fun h4 H =>
  eCk H fun h5 H =>
  eCk H fun h6 H =>
  eIf H (fun h7 H =>
  eN H<|gE func104 [rg [{ i := 2, n := byteAt s0 (Int.toNat i1) }, hF 3, { i := 7, n := byteAt s0 (Int.toNat i1) }, hT 8], r0] (by kernel_rfl) (P2 ((0 : Int) ≤ i1) h2<|P2 (i1 < (ByteArray.size s0 : Int)) h3<|P2 ((s0.data.toList[(Int.toNat i1)]?.map fun b => (b.toNat : Int)) = some ((byteAt s0 (Int.toNat i1) : Nat) : Int)) (byteAt_ok (by omega))<|P2 ((decide (((byteAt s0 (Int.toNat i1) : Nat) : Int) < 97)) = false) (decide_eq_false h4)<|P2 ((0 : Int) ≤ i1) h5<|P2 (i1 < (ByteArray.size s0 : Int)) h6<|P2 ((s0.data.toList[(Int.toNat i1)]?.map fun b => (b.toNat : Int)) = some ((byteAt s0 (Int.toNat i1) : Nat) : Int)) (byteAt_ok (by omega))<|P2 ((decide (((byteAt s0 (Int.toNat i1) : Nat) : Int) > 122)) = true) (decide_eq_true h7)<|P0))
  (fun h7 H =>
  eN H fun r hn => gO [rg [{ i := 2, n := byteAt s0 (Int.toNat i1) }, hF 3, { i := 7, n := byteAt s0 (Int.toNat i1) }, hF 8], r0, .canon [] [0, 3]] (by kernel_rfl) (P2 ((0 : Int) ≤ i1) h2<|P2 (i1 < (ByteArray.size s0 : Int)) h3<|P2 ((s0.data.toList[(Int.toNat i1)]?.map fun b => (b.toNat : Int)) = some ((byteAt s0 (Int.toNat i1) : Nat) : Int)) (byteAt_ok (by omega))<|P2 ((decide (((byteAt s0 (Int.toNat i1) : Nat) : Int) < 97)) = false) (decide_eq_false h4)<|P2 ((0 : Int) ≤ i1) h5<|P2 (i1 < (ByteArray.size s0 : Int)) h6<|P2 ((s0.data.toList[(Int.toNat i1)]?.map fun b => (b.toNat : Int)) = some ((byteAt s0 (Int.toNat i1) : Nat) : Int)) (byteAt_ok (by omega))<|P2 ((decide (((byteAt s0 (Int.toNat i1) : Nat) : Int) > 122)) = false) (decide_eq_false h7)<|P0) hn)))
  (fun h1 H =>
  eBind H fun r2 hr2 H =>
  eN H<|gE func104 [rg [hF 3], rg [hC 2 true [] (RB r2) []]] (by kernel_rfl) (P2 ((decide (i1 < ((ByteArray.size s0 : Nat) : Int))) = false) (decide_eq_false h1)<|P1 (ci_inRange hr2)<|P0))
theorem wi_isName : ∀ s r, loop Bi_isName s = some r → Wc X 104 0 (Ki_isName s) (Zi_isName s) (RB r) ((fun _ => []) r) := Nx.all (ni_isName)
theorem ci_isName {a0 : ByteArray} {r : Bool} (H : Di_isName a0 = some r) : Ct X.P X.gl 104 [.str a0] [] (RB r) [] :=
 Ct.of func104 (c := bdy f104) (by kernel_rfl) (by kernel_rfl) <|
 gO [r0, r0, .canon [] [0, 3]] (by kernel_rfl) P0 (wi_isName _ _ H)
theorem ci_goodTerrain_1 {a0 : Int} {r : Bool} (H : Di_goodTerrain_1 a0 = some r) : Ct X.P X.gl 243 [I a0] [] (RB r) [] :=
 Ct.of func243 (c := bdy f243) (by kernel_rfl) (by kernel_rfl) <|
 eBind H fun r1 hr1 H =>
 eW RB (fun _ => []) H<|gE func243 [r0, rg [hC 1 true [] (RB r1) []]] (by kernel_rfl) (P1 (ci_inRange hr1)<|P0)
noncomputable def Kslices_IndexFunc_int_i_goodTerrain_1 : Sslices_IndexFunc_int_i_goodTerrain_1 → List Item
 | .h1 .. => nav 300 2 [] [.code (bdy f210)]
def Zslices_IndexFunc_int_i_goodTerrain_1 : Sslices_IndexFunc_int_i_goodTerrain_1 → St
 | .h1 s0 t1 t2 => ⟨sts 19 [(0, sl 1 I s0), (1, .fn 243 []), (7, I t1), (8, I t2)], []⟩
abbrev Qslices_IndexFunc_int_i_goodTerrain_1 := Nx X 210 0 Kslices_IndexFunc_int_i_goodTerrain_1 Zslices_IndexFunc_int_i_goodTerrain_1 RI (fun _ => [])
theorem nslices_IndexFunc_int_i_goodTerrain_1 : ∀ s o, Bslices_IndexFunc_int_i_goodTerrain_1 s = some o → Qslices_IndexFunc_int_i_goodTerrain_1 (Kslices_IndexFunc_int_i_goodTerrain_1 s) (Zslices_IndexFunc_int_i_goodTerrain_1 s) o
 | .h1 s0 t1 t2, o, H =>
  eIf H (fun h1 H =>
  eCk H fun h2 H =>
  eBind H fun x3 hx3 H =>
  eBind H fun r4 hr4 H =>
  gN [rg [hT 0], r0] (by kernel_rfl) (P2 ((decide (t2 < t1)) = true) (decide_eq_true h1)<|P0) <|
  eIf H (fun h5 H =>
  eN H<|gE func210 [rg [hE 4 (I x3), { i := 5, call := some { cl := true, auto := true, ins := [], res := (RB r4), G' := [] }, dec := some true }], r0] (by kernel_rfl) (P1 h2<|P1 (int_lt_of_at h2 hx3)<|P1 (at_map I hx3)<|P1 (ci_goodTerrain_1 hr4)<|P2 (r4 = true) (h5)<|P0))
  (fun h5 H =>
  eN H fun r hn => gO [rg [hE 4 (I x3), { i := 5, call := some { cl := true, auto := true, ins := [], res := (RB r4), G' := [] }, dec := some false }], r0, .canon [] [0, 1, 7, 8]] (by kernel_rfl) (P1 h2<|P1 (int_lt_of_at h2 hx3)<|P1 (at_map I hx3)<|P1 (ci_goodTerrain_1 hr4)<|P2 (r4 = false) (eqF h5)<|P0) hn))
  (fun h1 H =>
  eN H<|gE func210 [rg [hF 0], r0] (by kernel_rfl) (P2 ((decide (t2 < t1)) = false) (decide_eq_false h1)<|P0))
theorem wslices_IndexFunc_int_i_goodTerrain_1 : ∀ s r, loop Bslices_IndexFunc_int_i_goodTerrain_1 s = some r → Wc X 210 0 (Kslices_IndexFunc_int_i_goodTerrain_1 s) (Zslices_IndexFunc_int_i_goodTerrain_1 s) (RI r) ((fun _ => []) r) := Nx.all (nslices_IndexFunc_int_i_goodTerrain_1)
theorem cslices_IndexFunc_int_i_goodTerrain_1 {a0 : (List Int)} {r : Int} (H : Dslices_IndexFunc_int_i_goodTerrain_1 a0 = some r) : Ct X.P X.gl 210 [sl 1 I a0, .fn 243 []] [] (RI r) [] :=
 Ct.of func210 (c := bdy f210) (by kernel_rfl) (by kernel_rfl) <|
 gO [r0, r0, .canon [] [0, 1, 7, 8]] (by kernel_rfl) P0 (wslices_IndexFunc_int_i_goodTerrain_1 _ _ H)
theorem cslices_ContainsFunc_int_i_goodTerrain_1 {a0 : (List Int)} {r : Bool} (H : Dslices_ContainsFunc_int_i_goodTerrain_1 a0 = some r) : Ct X.P X.gl 155 [sl 1 I a0, .fn 243 []] [] (RB r) [] :=
 Ct.of func155 (c := bdy f155) (by kernel_rfl) (by kernel_rfl) <|
 eBind H fun r1 hr1 H =>
 eW RB (fun _ => []) H<|gE func155 [r0, rg [hC 2 true [] (RI r1) []]] (by kernel_rfl) (P1 (cslices_IndexFunc_int_i_goodTerrain_1 hr1)<|P0)
theorem ci_goodTerrain {a0 : Gi_Terrain} {a1 : Int} {r : Bool} (H : Di_goodTerrain a0 a1 = some r) : Ct X.P X.gl 205 [gi_Terrain a0, I a1] [] (RB r) [] :=
 Ct.of func205 (c := bdy f205) (by kernel_rfl) (by kernel_rfl) <|
 eBind H fun r1 hr1 H =>
 gS [r0] (by kernel_rfl) P0 <|
 eIf H (fun h2 H =>
 eIf H (fun h3 H =>
 eBind H fun r4 hr4 H =>
 eIf H (fun h5 H =>
 eBind H fun r6 hr6 H =>
 eIf H (fun h7 H =>
 eBind H fun r8 hr8 H =>
 eW RB (fun _ => []) H<|gE func205 [rg [{ i := 2, call := some { cl := true, auto := true, ins := [], res := (RB r1), G' := [] }, dec := some true }, hF 9, { i := 14, call := some { cl := true, auto := true, ins := [], res := (RB r4), G' := [] }, dec := some true }, { i := 20, call := some { cl := true, auto := true, ins := [], res := (RB r6), G' := [] }, dec := some true }], rg [hC 2 true [] (RB r8) []]] (by kernel_rfl) (P1 (ci_isName hr1)<|P2 (r1 = true) (h2)<|P2 (((((a0.Cost.length : Nat) : Int) : Int) != a1) = false) (bneF h3)<|P1 (ci_inRange hr4)<|P2 (r4 = true) (h5)<|P1 (ci_inRange hr6)<|P2 (r6 = true) (h7)<|P1 (cslices_ContainsFunc_int_i_goodTerrain_1 hr8)<|P0))
 (fun h7 H =>
 eW RB (fun _ => []) H<|gE func205 [rg [{ i := 2, call := some { cl := true, auto := true, ins := [], res := (RB r1), G' := [] }, dec := some true }, hF 9, { i := 14, call := some { cl := true, auto := true, ins := [], res := (RB r4), G' := [] }, dec := some true }, { i := 20, call := some { cl := true, auto := true, ins := [], res := (RB r6), G' := [] }, dec := some false }], r0] (by kernel_rfl) (P1 (ci_isName hr1)<|P2 (r1 = true) (h2)<|P2 (((((a0.Cost.length : Nat) : Int) : Int) != a1) = false) (bneF h3)<|P1 (ci_inRange hr4)<|P2 (r4 = true) (h5)<|P1 (ci_inRange hr6)<|P2 (r6 = false) (eqF h7)<|P0)))
 (fun h5 H =>
 eW RB (fun _ => []) H<|gE func205 [rg [{ i := 2, call := some { cl := true, auto := true, ins := [], res := (RB r1), G' := [] }, dec := some true }, hF 9, { i := 14, call := some { cl := true, auto := true, ins := [], res := (RB r4), G' := [] }, dec := some false }], r0] (by kernel_rfl) (P1 (ci_isName hr1)<|P2 (r1 = true) (h2)<|P2 (((((a0.Cost.length : Nat) : Int) : Int) != a1) = false) (bneF h3)<|P1 (ci_inRange hr4)<|P2 (r4 = false) (eqF h5)<|P0)))
 (fun h3 H =>
 eW RB (fun _ => []) H<|gE func205 [rg [{ i := 2, call := some { cl := true, auto := true, ins := [], res := (RB r1), G' := [] }, dec := some true }, hT 9], r0] (by kernel_rfl) (P1 (ci_isName hr1)<|P2 (r1 = true) (h2)<|P2 (((((a0.Cost.length : Nat) : Int) : Int) != a1) = true) (bneT h3)<|P0)))
 (fun h2 H =>
 eW RB (fun _ => []) H<|gE func205 [rg [{ i := 2, call := some { cl := true, auto := true, ins := [], res := (RB r1), G' := [] }, dec := some false }], r0] (by kernel_rfl) (P1 (ci_isName hr1)<|P2 (r1 = false) (eqF h2)<|P0))
theorem ci_terrainIndex_1 {a0 : Gi_Terrain} {a1 : ByteArray} {r : Bool} (H : Di_terrainIndex_1 a0 a1 = some r) : Ct X.P X.gl 245 [gi_Terrain a0, .fptr 1 [.agg [.str a1]] 0 0] [] (RB r) [] :=
 Ct.of func245 (c := bdy f245) (by kernel_rfl) (by kernel_rfl) <|
 eW RB (fun _ => []) H<|gE func245 [r0, r0] (by kernel_rfl) P0
noncomputable def Kslices_IndexFunc_i_Terrain_i_terrainIndex_1 : Sslices_IndexFunc_i_Terrain_i_terrainIndex_1 → List Item
 | .h1 .. => nav 300 2 [] [.code (bdy f244)]
def Zslices_IndexFunc_i_Terrain_i_terrainIndex_1 : Sslices_IndexFunc_i_Terrain_i_terrainIndex_1 → St
 | .h1 s0 f1 t2 t3 => ⟨sts 19 [(0, sl 5 gi_Terrain s0), (1, .fn 245 [.fptr 1 [.agg [.str f1]] 0 0]), (7, I t2), (8, I t3)], []⟩
abbrev Qslices_IndexFunc_i_Terrain_i_terrainIndex_1 := Nx X 244 0 Kslices_IndexFunc_i_Terrain_i_terrainIndex_1 Zslices_IndexFunc_i_Terrain_i_terrainIndex_1 RI (fun _ => [])
theorem nslices_IndexFunc_i_Terrain_i_terrainIndex_1 : ∀ s o, Bslices_IndexFunc_i_Terrain_i_terrainIndex_1 s = some o → Qslices_IndexFunc_i_Terrain_i_terrainIndex_1 (Kslices_IndexFunc_i_Terrain_i_terrainIndex_1 s) (Zslices_IndexFunc_i_Terrain_i_terrainIndex_1 s) o
 | .h1 s0 f1 t2 t3, o, H =>
  eIf H (fun h1 H =>
  eCk H fun h2 H =>
  eBind H fun x3 hx3 H =>
  eBind H fun r4 hr4 H =>
  gN [rg [hT 0], r0] (by kernel_rfl) (P2 ((decide (t3 < t2)) = true) (decide_eq_true h1)<|P0) <|
  eIf H (fun h5 H =>
  eN H<|gE func244 [rg [hE 4 (gi_Terrain x3), { i := 5, call := some { cl := true, auto := true, ins := [], res := (RB r4), G' := [] }, dec := some true }], r0] (by kernel_rfl) (P1 h2<|P1 (int_lt_of_at h2 hx3)<|P1 (at_map gi_Terrain hx3)<|P1 (ci_terrainIndex_1 hr4)<|P2 (r4 = true) (h5)<|P0))
  (fun h5 H =>
  eN H fun r hn => gO [rg [hE 4 (gi_Terrain x3), { i := 5, call := some { cl := true, auto := true, ins := [], res := (RB r4), G' := [] }, dec := some false }], r0, .canon [] [0, 1, 7, 8]] (by kernel_rfl) (P1 h2<|P1 (int_lt_of_at h2 hx3)<|P1 (at_map gi_Terrain hx3)<|P1 (ci_terrainIndex_1 hr4)<|P2 (r4 = false) (eqF h5)<|P0) hn))
  (fun h1 H =>
  eN H<|gE func244 [rg [hF 0], r0] (by kernel_rfl) (P2 ((decide (t3 < t2)) = false) (decide_eq_false h1)<|P0))
theorem wslices_IndexFunc_i_Terrain_i_terrainIndex_1 : ∀ s r, loop Bslices_IndexFunc_i_Terrain_i_terrainIndex_1 s = some r → Wc X 244 0 (Kslices_IndexFunc_i_Terrain_i_terrainIndex_1 s) (Zslices_IndexFunc_i_Terrain_i_terrainIndex_1 s) (RI r) ((fun _ => []) r) := Nx.all (nslices_IndexFunc_i_Terrain_i_terrainIndex_1)
theorem cslices_IndexFunc_i_Terrain_i_terrainIndex_1 {a0 : (List Gi_Terrain)} {a100 : ByteArray} {r : Int} (H : Dslices_IndexFunc_i_Terrain_i_terrainIndex_1 a0 a100 = some r) : Ct X.P X.gl 244 [sl 5 gi_Terrain a0, .fn 245 [.fptr 1 [.agg [.str a100]] 0 0]] [] (RI r) [] :=
 Ct.of func244 (c := bdy f244) (by kernel_rfl) (by kernel_rfl) <|
 gO [r0, r0, .canon [] [0, 1, 7, 8]] (by kernel_rfl) P0 (wslices_IndexFunc_i_Terrain_i_terrainIndex_1 _ _ H)
theorem ci_terrainIndex {a0 : (List Gi_Terrain)} {a1 : ByteArray} {r : Int} (H : Di_terrainIndex a0 a1 = some r) : Ct X.P X.gl 206 [sl 5 gi_Terrain a0, .str a1] [] (RI r) [] :=
 Ct.of func206 (c := bdy f206) (by kernel_rfl) (by kernel_rfl) <|
 eBind H fun r1 hr1 H =>
 eW RI (fun _ => []) H<|gE func206 [r0, rg [hC 2 false [] (RI r1) []]] (by kernel_rfl) (P1 (cslices_IndexFunc_i_Terrain_i_terrainIndex_1 hr1)<|P0)
theorem ci_goodKind {a0 : Gi_Kind} {r : Bool} (H : Di_goodKind a0 = some r) : Ct X.P X.gl 207 [gi_Kind a0] [] (RB r) [] :=
 Ct.of func207 (c := bdy f207) (by kernel_rfl) (by kernel_rfl) <|
 eBind H fun r1 hr1 H =>
 gS [r0] (by kernel_rfl) P0 <|
 eIf H (fun h2 H =>
 eBind H fun r3 hr3 H =>
 eIf H (fun h4 H =>
 eBind H fun r5 hr5 H =>
 eIf H (fun h6 H =>
 eBind H fun r7 hr7 H =>
 eIf H (fun h8 H =>
 eBind H fun r9 hr9 H =>
 eW RB (fun _ => []) H<|gE func207 [rg [{ i := 2, call := some { cl := true, auto := true, ins := [], res := (RB r1), G' := [] }, dec := some true }, { i := 6, call := some { cl := true, auto := true, ins := [], res := (RB r3), G' := [] }, dec := some true }, { i := 11, call := some { cl := true, auto := true, ins := [], res := (RB r5), G' := [] }, dec := some true }, { i := 16, call := some { cl := true, auto := true, ins := [], res := (RB r7), G' := [] }, dec := some true }, hC 21 true [] (RB r9) []]] (by kernel_rfl) (P1 (ci_isName hr1)<|P2 (r1 = true) (h2)<|P1 (ci_inRange hr3)<|P2 (r3 = true) (h4)<|P1 (ci_inRange hr5)<|P2 (r5 = true) (h6)<|P1 (ci_inRange hr7)<|P2 (r7 = true) (h8)<|P1 (ci_inRange hr9)<|P0))
 (fun h8 H =>
 eW RB (fun _ => []) H<|gE func207 [rg [{ i := 2, call := some { cl := true, auto := true, ins := [], res := (RB r1), G' := [] }, dec := some true }, { i := 6, call := some { cl := true, auto := true, ins := [], res := (RB r3), G' := [] }, dec := some true }, { i := 11, call := some { cl := true, auto := true, ins := [], res := (RB r5), G' := [] }, dec := some true }, { i := 16, call := some { cl := true, auto := true, ins := [], res := (RB r7), G' := [] }, dec := some false }]] (by kernel_rfl) (P1 (ci_isName hr1)<|P2 (r1 = true) (h2)<|P1 (ci_inRange hr3)<|P2 (r3 = true) (h4)<|P1 (ci_inRange hr5)<|P2 (r5 = true) (h6)<|P1 (ci_inRange hr7)<|P2 (r7 = false) (eqF h8)<|P0)))
 (fun h6 H =>
 eW RB (fun _ => []) H<|gE func207 [rg [{ i := 2, call := some { cl := true, auto := true, ins := [], res := (RB r1), G' := [] }, dec := some true }, { i := 6, call := some { cl := true, auto := true, ins := [], res := (RB r3), G' := [] }, dec := some true }, { i := 11, call := some { cl := true, auto := true, ins := [], res := (RB r5), G' := [] }, dec := some false }]] (by kernel_rfl) (P1 (ci_isName hr1)<|P2 (r1 = true) (h2)<|P1 (ci_inRange hr3)<|P2 (r3 = true) (h4)<|P1 (ci_inRange hr5)<|P2 (r5 = false) (eqF h6)<|P0)))
 (fun h4 H =>
 eW RB (fun _ => []) H<|gE func207 [rg [{ i := 2, call := some { cl := true, auto := true, ins := [], res := (RB r1), G' := [] }, dec := some true }, { i := 6, call := some { cl := true, auto := true, ins := [], res := (RB r3), G' := [] }, dec := some false }]] (by kernel_rfl) (P1 (ci_isName hr1)<|P2 (r1 = true) (h2)<|P1 (ci_inRange hr3)<|P2 (r3 = false) (eqF h4)<|P0)))
 (fun h2 H =>
 eW RB (fun _ => []) H<|gE func207 [rg [{ i := 2, call := some { cl := true, auto := true, ins := [], res := (RB r1), G' := [] }, dec := some false }]] (by kernel_rfl) (P1 (ci_isName hr1)<|P2 (r1 = false) (eqF h2)<|P0))
theorem ci_kindIndex_1 {a0 : Gi_Kind} {a1 : ByteArray} {r : Bool} (H : Di_kindIndex_1 a0 a1 = some r) : Ct X.P X.gl 247 [gi_Kind a0, .fptr 1 [.agg [.str a1]] 0 0] [] (RB r) [] :=
 Ct.of func247 (c := bdy f247) (by kernel_rfl) (by kernel_rfl) <|
 eW RB (fun _ => []) H<|gE func247 [r0, r0] (by kernel_rfl) P0
noncomputable def Kslices_IndexFunc_i_Kind_i_kindIndex_1 : Sslices_IndexFunc_i_Kind_i_kindIndex_1 → List Item
 | .h1 .. => nav 300 2 [] [.code (bdy f246)]
def Zslices_IndexFunc_i_Kind_i_kindIndex_1 : Sslices_IndexFunc_i_Kind_i_kindIndex_1 → St
 | .h1 s0 f1 t2 t3 => ⟨sts 19 [(0, sl 6 gi_Kind s0), (1, .fn 247 [.fptr 1 [.agg [.str f1]] 0 0]), (7, I t2), (8, I t3)], []⟩
abbrev Qslices_IndexFunc_i_Kind_i_kindIndex_1 := Nx X 246 0 Kslices_IndexFunc_i_Kind_i_kindIndex_1 Zslices_IndexFunc_i_Kind_i_kindIndex_1 RI (fun _ => [])
theorem nslices_IndexFunc_i_Kind_i_kindIndex_1 : ∀ s o, Bslices_IndexFunc_i_Kind_i_kindIndex_1 s = some o → Qslices_IndexFunc_i_Kind_i_kindIndex_1 (Kslices_IndexFunc_i_Kind_i_kindIndex_1 s) (Zslices_IndexFunc_i_Kind_i_kindIndex_1 s) o
 | .h1 s0 f1 t2 t3, o, H =>
  eIf H (fun h1 H =>
  eCk H fun h2 H =>
  eBind H fun x3 hx3 H =>
  eBind H fun r4 hr4 H =>
  gN [rg [hT 0], r0] (by kernel_rfl) (P2 ((decide (t3 < t2)) = true) (decide_eq_true h1)<|P0) <|
  eIf H (fun h5 H =>
  eN H<|gE func246 [rg [hE 4 (gi_Kind x3), { i := 5, call := some { cl := true, auto := true, ins := [], res := (RB r4), G' := [] }, dec := some true }], r0] (by kernel_rfl) (P1 h2<|P1 (int_lt_of_at h2 hx3)<|P1 (at_map gi_Kind hx3)<|P1 (ci_kindIndex_1 hr4)<|P2 (r4 = true) (h5)<|P0))
  (fun h5 H =>
  eN H fun r hn => gO [rg [hE 4 (gi_Kind x3), { i := 5, call := some { cl := true, auto := true, ins := [], res := (RB r4), G' := [] }, dec := some false }], r0, .canon [] [0, 1, 7, 8]] (by kernel_rfl) (P1 h2<|P1 (int_lt_of_at h2 hx3)<|P1 (at_map gi_Kind hx3)<|P1 (ci_kindIndex_1 hr4)<|P2 (r4 = false) (eqF h5)<|P0) hn))
  (fun h1 H =>
  eN H<|gE func246 [rg [hF 0], r0] (by kernel_rfl) (P2 ((decide (t3 < t2)) = false) (decide_eq_false h1)<|P0))
theorem wslices_IndexFunc_i_Kind_i_kindIndex_1 : ∀ s r, loop Bslices_IndexFunc_i_Kind_i_kindIndex_1 s = some r → Wc X 246 0 (Kslices_IndexFunc_i_Kind_i_kindIndex_1 s) (Zslices_IndexFunc_i_Kind_i_kindIndex_1 s) (RI r) ((fun _ => []) r) := Nx.all (nslices_IndexFunc_i_Kind_i_kindIndex_1)
theorem cslices_IndexFunc_i_Kind_i_kindIndex_1 {a0 : (List Gi_Kind)} {a100 : ByteArray} {r : Int} (H : Dslices_IndexFunc_i_Kind_i_kindIndex_1 a0 a100 = some r) : Ct X.P X.gl 246 [sl 6 gi_Kind a0, .fn 247 [.fptr 1 [.agg [.str a100]] 0 0]] [] (RI r) [] :=
 Ct.of func246 (c := bdy f246) (by kernel_rfl) (by kernel_rfl) <|
 gO [r0, r0, .canon [] [0, 1, 7, 8]] (by kernel_rfl) P0 (wslices_IndexFunc_i_Kind_i_kindIndex_1 _ _ H)
theorem ci_kindIndex {a0 : (List Gi_Kind)} {a1 : ByteArray} {r : Int} (H : Di_kindIndex a0 a1 = some r) : Ct X.P X.gl 208 [sl 6 gi_Kind a0, .str a1] [] (RI r) [] :=
 Ct.of func208 (c := bdy f208) (by kernel_rfl) (by kernel_rfl) <|
 eBind H fun r1 hr1 H =>
 eW RI (fun _ => []) H<|gE func208 [r0, rg [hC 2 false [] (RI r1) []]] (by kernel_rfl) (P1 (cslices_IndexFunc_i_Kind_i_kindIndex_1 hr1)<|P0)
noncomputable def Ki_IsRules : Si_IsRules → List Item
 | .h1 .. => nav 300 3 [false] [.code (bdy f153)]
 | .h2 .. => nav 300 5 [false, false] [.code (bdy f153)]
def Zi_IsRules : Si_IsRules → St
 | .h1 t0 t1 t2 b3 => ⟨sts 87 [(1, .ptr 0 7 0 0), (20, sl 5 gi_Terrain t0), (21, I t1), (22, I t2)], [some ⟨false, true, 7, 1, [gi_Rules b3]⟩]⟩
 | .h2 t0 t1 t2 b3 => ⟨sts 87 [(1, .ptr 0 7 0 0), (44, sl 6 gi_Kind t0), (45, I t1), (46, I t2)], [some ⟨false, true, 7, 1, [gi_Rules b3]⟩]⟩
abbrev Qi_IsRules := Nx X 153 0 Ki_IsRules Zi_IsRules RB (fun _ => [])
theorem ni_IsRules : ∀ s o, Bi_IsRules s = some o → Qi_IsRules (Ki_IsRules s) (Zi_IsRules s) o
 | .h1 t0 t1 t2 b3, o, H =>
  eIf H (fun h1 H =>
  eCk H fun h2 H =>
  eBind H fun x3 hx3 H =>
  eBind H fun r4 hr4 H =>
  gN [rg [hT 0], rg [hE 2 (gi_Terrain x3)]] (by kernel_rfl) (P2 ((decide (t2 < t1)) = true) (decide_eq_true h1)<|P1 h2<|P1 (int_lt_of_at h2 hx3)<|P1 (at_map gi_Terrain hx3)<|P0) <|
  eIf H (fun h5 H =>
  eBind H fun r6 hr6 H =>
  eIf H (fun h7 H =>
  eN H fun r hn => gO [rg [{ i := 4, call := some { cl := true, auto := true, ins := [], res := (RB r4), G' := [] }, dec := some true }, hC 11 true [] (RI r6) [], hF 13], r0, .canon [0] [1, 20, 21, 22]] (by kernel_rfl) (P1 (ci_goodTerrain hr4)<|P2 (r4 = true) (h5)<|P1 (ci_terrainIndex hr6)<|P2 (((r6 : Int) != t2) = false) (bneF h7)<|P0) hn)
  (fun h7 H =>
  eN H<|gE func153 [rg [{ i := 4, call := some { cl := true, auto := true, ins := [], res := (RB r4), G' := [] }, dec := some true }, hC 11 true [] (RI r6) [], hT 13], r0] (by kernel_rfl) (P1 (ci_goodTerrain hr4)<|P2 (r4 = true) (h5)<|P1 (ci_terrainIndex hr6)<|P2 (((r6 : Int) != t2) = true) (bneT h7)<|P0)))
  (fun h5 H =>
  eN H<|gE func153 [rg [{ i := 4, call := some { cl := true, auto := true, ins := [], res := (RB r4), G' := [] }, dec := some false }], r0] (by kernel_rfl) (P1 (ci_goodTerrain hr4)<|P2 (r4 = false) (eqF h5)<|P0)))
  (fun h1 H =>
  eN H fun r hn => gO [rg [hF 0], r0, .canon [0] [1, 44, 45, 46]] (by kernel_rfl) (P2 ((decide (t2 < t1)) = false) (decide_eq_false h1)<|P0) hn)
 | .h2 t0 t1 t2 b3, o, H =>
  eIf H (fun h1 H =>
  eCk H fun h2 H =>
  eBind H fun x3 hx3 H =>
  eBind H fun r4 hr4 H =>
  gN [rg [hT 0], rg [hE 2 (gi_Kind x3)]] (by kernel_rfl) (P2 ((decide (t2 < t1)) = true) (decide_eq_true h1)<|P1 h2<|P1 (int_lt_of_at h2 hx3)<|P1 (at_map gi_Kind hx3)<|P0) <|
  eIf H (fun h5 H =>
  eBind H fun r6 hr6 H =>
  eIf H (fun h7 H =>
  eN H fun r hn => gO [rg [{ i := 1, call := some { cl := true, auto := true, ins := [], res := (RB r4), G' := [] }, dec := some true }, hC 8 true [] (RI r6) [], hF 10], r0, .canon [0] [1, 44, 45, 46]] (by kernel_rfl) (P1 (ci_goodKind hr4)<|P2 (r4 = true) (h5)<|P1 (ci_kindIndex hr6)<|P2 (((r6 : Int) != t2) = false) (bneF h7)<|P0) hn)
  (fun h7 H =>
  eN H<|gE func153 [rg [{ i := 1, call := some { cl := true, auto := true, ins := [], res := (RB r4), G' := [] }, dec := some true }, hC 8 true [] (RI r6) [], hT 10], r0] (by kernel_rfl) (P1 (ci_goodKind hr4)<|P2 (r4 = true) (h5)<|P1 (ci_kindIndex hr6)<|P2 (((r6 : Int) != t2) = true) (bneT h7)<|P0)))
  (fun h5 H =>
  eN H<|gE func153 [rg [{ i := 1, call := some { cl := true, auto := true, ins := [], res := (RB r4), G' := [] }, dec := some false }], r0] (by kernel_rfl) (P1 (ci_goodKind hr4)<|P2 (r4 = false) (eqF h5)<|P0)))
  (fun h1 H =>
  eBind H fun r2 hr2 H =>
  gN [rg [hF 0]] (by kernel_rfl) (P2 ((decide (t2 < t1)) = false) (decide_eq_false h1)<|P0) <|
  eIf H (fun h3 H =>
  eBind H fun r4 hr4 H =>
  eIf H (fun h5 H =>
  eBind H fun r6 hr6 H =>
  eIf H (fun h7 H =>
  eBind H fun r8 hr8 H =>
  eIf H (fun h9 H =>
  eBind H fun r10 hr10 H =>
  eN H<|gE func153 [rg [{ i := 2, call := some { cl := true, auto := true, ins := [], res := (RB r2), G' := [] }, dec := some true }, { i := 6, call := some { cl := true, auto := true, ins := [], res := (RB r4), G' := [] }, dec := some true }, { i := 11, call := some { cl := true, auto := true, ins := [], res := (RB r6), G' := [] }, dec := some true }, { i := 16, call := some { cl := true, auto := true, ins := [], res := (RB r8), G' := [] }, dec := some true }, hC 21 true [] (RB r10) []]] (by kernel_rfl) (P1 (ci_inRange hr2)<|P2 (r2 = true) (h3)<|P1 (ci_inRange hr4)<|P2 (r4 = true) (h5)<|P1 (ci_inRange hr6)<|P2 (r6 = true) (h7)<|P1 (ci_inRange hr8)<|P2 (r8 = true) (h9)<|P1 (ci_inRange hr10)<|P0))
  (fun h9 H =>
  eN H<|gE func153 [rg [{ i := 2, call := some { cl := true, auto := true, ins := [], res := (RB r2), G' := [] }, dec := some true }, { i := 6, call := some { cl := true, auto := true, ins := [], res := (RB r4), G' := [] }, dec := some true }, { i := 11, call := some { cl := true, auto := true, ins := [], res := (RB r6), G' := [] }, dec := some true }, { i := 16, call := some { cl := true, auto := true, ins := [], res := (RB r8), G' := [] }, dec := some false }]] (by kernel_rfl) (P1 (ci_inRange hr2)<|P2 (r2 = true) (h3)<|P1 (ci_inRange hr4)<|P2 (r4 = true) (h5)<|P1 (ci_inRange hr6)<|P2 (r6 = true) (h7)<|P1 (ci_inRange hr8)<|P2 (r8 = false) (eqF h9)<|P0)))
  (fun h7 H =>
  eN H<|gE func153 [rg [{ i := 2, call := some { cl := true, auto := true, ins := [], res := (RB r2), G' := [] }, dec := some true }, { i := 6, call := some { cl := true, auto := true, ins := [], res := (RB r4), G' := [] }, dec := some true }, { i := 11, call := some { cl := true, auto := true, ins := [], res := (RB r6), G' := [] }, dec := some false }]] (by kernel_rfl) (P1 (ci_inRange hr2)<|P2 (r2 = true) (h3)<|P1 (ci_inRange hr4)<|P2 (r4 = true) (h5)<|P1 (ci_inRange hr6)<|P2 (r6 = false) (eqF h7)<|P0)))
  (fun h5 H =>
  eN H<|gE func153 [rg [{ i := 2, call := some { cl := true, auto := true, ins := [], res := (RB r2), G' := [] }, dec := some true }, { i := 6, call := some { cl := true, auto := true, ins := [], res := (RB r4), G' := [] }, dec := some false }]] (by kernel_rfl) (P1 (ci_inRange hr2)<|P2 (r2 = true) (h3)<|P1 (ci_inRange hr4)<|P2 (r4 = false) (eqF h5)<|P0)))
  (fun h3 H =>
  eN H<|gE func153 [rg [{ i := 2, call := some { cl := true, auto := true, ins := [], res := (RB r2), G' := [] }, dec := some false }]] (by kernel_rfl) (P1 (ci_inRange hr2)<|P2 (r2 = false) (eqF h3)<|P0)))
theorem wi_IsRules : ∀ s r, loop Bi_IsRules s = some r → Wc X 153 0 (Ki_IsRules s) (Zi_IsRules s) (RB r) ((fun _ => []) r) := Nx.all (ni_IsRules)
theorem ci_IsRules {a0 : Gi_Rules} {r : Bool} (H : Di_IsRules a0 = some r) : Ct X.P X.gl 153 [gi_Rules a0] [] (RB r) [] :=
 Ct.of func153 (c := bdy f153) (by kernel_rfl) (by kernel_rfl) <|
 eBind H fun r1 hr1 H =>
 gS [r0] (by kernel_rfl) P0 <|
 eIf H (fun h2 H =>
 eBind H fun r3 hr3 H =>
 eIf H (fun h4 H =>
 gO [rg [{ i := 3, call := some { cl := true, auto := true, ins := [], res := (RB r1), G' := [] }, dec := some true }, { i := 9, call := some { cl := true, auto := true, ins := [], res := (RB r3), G' := [] }, dec := some true }], r0, .canon [0] [1, 20, 21, 22]] (by kernel_rfl) (P1 (ci_inRange hr1)<|P2 (r1 = true) (h2)<|P1 (ci_inRange hr3)<|P2 (r3 = true) (h4)<|P0) (wi_IsRules _ _ H))
 (fun h4 H =>
 eW RB (fun _ => []) H<|gE func153 [rg [{ i := 3, call := some { cl := true, auto := true, ins := [], res := (RB r1), G' := [] }, dec := some true }, { i := 9, call := some { cl := true, auto := true, ins := [], res := (RB r3), G' := [] }, dec := some false }], r0] (by kernel_rfl) (P1 (ci_inRange hr1)<|P2 (r1 = true) (h2)<|P1 (ci_inRange hr3)<|P2 (r3 = false) (eqF h4)<|P0)))
 (fun h2 H =>
 eW RB (fun _ => []) H<|gE func153 [rg [{ i := 3, call := some { cl := true, auto := true, ins := [], res := (RB r1), G' := [] }, dec := some false }], r0] (by kernel_rfl) (P1 (ci_inRange hr1)<|P2 (r1 = false) (eqF h2)<|P0))
theorem ci_isIndex {a0 : Int} {a1 : Int} {r : Bool} (H : Di_isIndex a0 a1 = some r) : Ct X.P X.gl 161 [I a0, I a1] [] (RB r) [] :=
 Ct.of func161 (c := bdy f161) (by kernel_rfl) (by kernel_rfl) <|
 eBind H fun r1 hr1 H =>
 eW RB (fun _ => []) H<|gE func161 [r0, rg [hC 3 true [] (RB r1) []]] (by kernel_rfl) (P1 (ci_inRange hr1)<|P0)
noncomputable def Ki_increasing : Si_increasing → List Item
 | .h1 .. => nav 300 2 [] [.code (bdy f162)]
def Zi_increasing : Si_increasing → St
 | .h1 list0 i1 => ⟨sts 20 [(0, sl 1 I list0), (3, I i1)], []⟩
abbrev Qi_increasing := Nx X 162 0 Ki_increasing Zi_increasing RB (fun _ => [])
theorem ni_increasing : ∀ s o, Bi_increasing s = some o → Qi_increasing (Ki_increasing s) (Zi_increasing s) o
 | .h1 list0 i1, o, H =>
  eIf H (fun h1 H =>
  eCk H fun h2 H =>
  eBind H fun x3 hx3 H =>
  eCk H fun h4 H =>
  eBind H fun x5 hx5 H =>
  gN [rg [hT 3]] (by kernel_rfl) (P2 ((decide (i1 < ((list0.length : Nat) : Int))) = true) (decide_eq_true h1)<|P0) <|
  eIf H (fun h6 H =>
  eN H<|gE func162 [rg [hE 4 (I x3), hE 8 (I x5), hT 9], r0] (by kernel_rfl) (P1 h2<|P1 (int_lt_of_at h2 hx3)<|P1 (at_map I hx3)<|P1 h4<|P1 (int_lt_of_at h4 hx5)<|P1 (at_map I hx5)<|P2 ((decide (x3 ≥ x5)) = true) (decide_eq_true h6)<|P0))
  (fun h6 H =>
  eN H fun r hn => gO [rg [hE 4 (I x3), hE 8 (I x5), hF 9], r0, .canon [] [0, 3]] (by kernel_rfl) (P1 h2<|P1 (int_lt_of_at h2 hx3)<|P1 (at_map I hx3)<|P1 h4<|P1 (int_lt_of_at h4 hx5)<|P1 (at_map I hx5)<|P2 ((decide (x3 ≥ x5)) = false) (decide_eq_false h6)<|P0) hn))
  (fun h1 H =>
  eN H<|gE func162 [rg [hF 3], r0] (by kernel_rfl) (P2 ((decide (i1 < ((list0.length : Nat) : Int))) = false) (decide_eq_false h1)<|P0))
theorem wi_increasing : ∀ s r, loop Bi_increasing s = some r → Wc X 162 0 (Ki_increasing s) (Zi_increasing s) (RB r) ((fun _ => []) r) := Nx.all (ni_increasing)
theorem ci_increasing {a0 : (List Int)} {r : Bool} (H : Di_increasing a0 = some r) : Ct X.P X.gl 162 [sl 1 I a0] [] (RB r) [] :=
 Ct.of func162 (c := bdy f162) (by kernel_rfl) (by kernel_rfl) <|
 gO [r0, r0, .canon [] [0, 3]] (by kernel_rfl) P0 (wi_increasing _ _ H)
def Ri_hexOf (r : Gi_Hex) : List D := [.agg [I r.Q, I r.R]]
theorem ci_hexOf {a0 : Gi_Map} {a1 : Int} {r : Gi_Hex} (H : Di_hexOf a0 a1 = some r) : Ct X.P X.gl 219 [gi_Map a0, I a1] [] (Ri_hexOf r) [] :=
 Ct.of func219 (c := bdy f219) (by kernel_rfl) (by kernel_rfl) <|
 eCk H fun h1 H =>
 eCk H fun h2 H =>
 eW Ri_hexOf (fun _ => []) H<|gE func219 [r0, r0] (by kernel_rfl) (P2 (¬ (a0.Width : Int) = 0) h1<|P2 (¬ (a0.Width : Int) = 0) h2<|P0)
def Ri_stepBy (r : Gi_Hex) : List D := [.agg [I r.Q, I r.R]]
theorem ci_stepBy {a0 : Gi_Hex} {a1 : Int} {a2 : Int} {r : Gi_Hex} (H : Di_stepBy a0 a1 a2 = some r) : Ct X.P X.gl 218 [gi_Hex a0, I a1, I a2] [] (Ri_stepBy r) [] :=
 Ct.of func218 (c := bdy f218) (by kernel_rfl) (by kernel_rfl) <|
 eCk H fun h1 H =>
 eBind H fun x2 hx2 H =>
 eCk H fun h3 H =>
 eBind H fun x4 hx4 H =>
 eW Ri_stepBy (fun _ => []) H<|gE func218 [r0, rg [{ i := 6, xs := [I x2.Q] }, { i := 15, xs := [I x4.R] }]] (by kernel_rfl) (P1 h1<|P2 (a1 < ((6 : Nat) : Int)) (int_lt_of_at h1 hx2)<|P2 (getCells gc0 0 (0 + Int.toNat a1 * 2 + 0) 1 = some [I x2.Q]) (flat_at (enc := gi_Hex) (w := 2) (off := 0) (fun _ => rfl) hx2 (by omega) (by decide))<|P1 h3<|P2 (a1 < ((6 : Nat) : Int)) (int_lt_of_at h3 hx4)<|P2 (getCells gc0 0 (0 + Int.toNat a1 * 2 + 1) 1 = some [I x4.R]) (flat_at (enc := gi_Hex) (w := 2) (off := 1) (fun _ => rfl) hx4 (by omega) (by decide))<|P0)
theorem ci_indexOf {a0 : Gi_Map} {a1 : Gi_Hex} {r : Int} (H : Di_indexOf a0 a1 = some r) : Ct X.P X.gl 217 [gi_Map a0, gi_Hex a1] [] (RI r) [] :=
 Ct.of func217 (c := bdy f217) (by kernel_rfl) (by kernel_rfl) <|
 eBind H fun r1 hr1 H =>
 gS [r0] (by kernel_rfl) P0 <|
 eIf H (fun h2 H =>
 eBind H fun r3 hr3 H =>
 eIf H (fun h4 H =>
 eW RI (fun _ => []) H<|gE func217 [rg [{ i := 4, call := some { cl := true, auto := true, ins := [], res := (RB r1), G' := [] }, dec := some true }, { i := 11, call := some { cl := true, auto := true, ins := [], res := (RB r3), G' := [] }, dec := some true }], r0] (by kernel_rfl) (P1 (ci_isIndex hr1)<|P2 (r1 = true) (h2)<|P1 (ci_isIndex hr3)<|P2 (r3 = true) (h4)<|P0))
 (fun h4 H =>
 eW RI (fun _ => []) H<|gE func217 [rg [{ i := 4, call := some { cl := true, auto := true, ins := [], res := (RB r1), G' := [] }, dec := some true }, { i := 11, call := some { cl := true, auto := true, ins := [], res := (RB r3), G' := [] }, dec := some false }], r0] (by kernel_rfl) (P1 (ci_isIndex hr1)<|P2 (r1 = true) (h2)<|P1 (ci_isIndex hr3)<|P2 (r3 = false) (eqF h4)<|P0)))
 (fun h2 H =>
 eW RI (fun _ => []) H<|gE func217 [rg [{ i := 4, call := some { cl := true, auto := true, ins := [], res := (RB r1), G' := [] }, dec := some false }], r0] (by kernel_rfl) (P1 (ci_isIndex hr1)<|P2 (r1 = false) (eqF h2)<|P0))
theorem ci_nextTo {a0 : Gi_Map} {a1 : Int} {a2 : Int} {r : Int} (H : Di_nextTo a0 a1 a2 = some r) : Ct X.P X.gl 176 [gi_Map a0, I a1, I a2] [] (RI r) [] :=
 Ct.of func176 (c := bdy f176) (by kernel_rfl) (by kernel_rfl) <|
 eBind H fun r1 hr1 H =>
 eBind H fun r2 hr2 H =>
 eBind H fun r3 hr3 H =>
 eW RI (fun _ => []) H<|gE func176 [r0, rg [hC 3 true [] (Ri_hexOf r1) [], hC 5 true [] (Ri_stepBy r2) [], hC 6 true [] (RI r3) []]] (by kernel_rfl) (P1 (ci_hexOf hr1)<|P1 (ci_stepBy hr2)<|P1 (ci_indexOf hr3)<|P0)
theorem ci_isEdge {a0 : Gi_Map} {a1 : Int} {r : Bool} (H : Di_isEdge a0 a1 = some r) : Ct X.P X.gl 209 [gi_Map a0, I a1] [] (RB r) [] :=
 Ct.of func209 (c := bdy f209) (by kernel_rfl) (by kernel_rfl) <|
 eBind H fun r1 hr1 H =>
 gS [r0] (by kernel_rfl) P0 <|
 eIf H (fun h2 H =>
 eBind H fun r3 hr3 H =>
 eW RB (fun _ => []) H<|gE func209 [rg [{ i := 8, call := some { cl := true, auto := true, ins := [], res := (RB r1), G' := [] }, dec := some true }, hC 15 true [] (RI r3) []]] (by kernel_rfl) (P1 (ci_inRange hr1)<|P2 (r1 = true) (h2)<|P2 (¬ (3 : Int) = 0) (by decide)<|P2 (¬ (3 : Int) = 0) (by decide)<|P1 (ci_nextTo hr3)<|P0))
 (fun h2 H =>
 eW RB (fun _ => []) H<|gE func209 [rg [{ i := 8, call := some { cl := true, auto := true, ins := [], res := (RB r1), G' := [] }, dec := some false }]] (by kernel_rfl) (P1 (ci_inRange hr1)<|P2 (r1 = false) (eqF h2)<|P0))
noncomputable def Ki_IsMap : Si_IsMap → List Item
 | .h1 .. => nav 300 3 [false] [.code (bdy f154)]
 | .h2 .. => nav 300 5 [false, false] [.code (bdy f154)]
 | .h3 .. => nav 300 9 [false, false, true, false] [.code (bdy f154)]
def Zi_IsMap : Si_IsMap → St
 | .h1 t0 t1 t2 b3 => ⟨sts 66 [(1, .ptr 0 5 0 0), (31, sl 1 I t0), (32, I t1), (33, I t2)], [some ⟨false, true, 5, 1, [gi_Map b3]⟩]⟩
 | .h2 t0 t1 b2 l3 => ⟨sts 66 [(1, .ptr 0 5 0 0), (45, .ref 1 1 none), (46, I t0), (47, I t1)], [some ⟨false, true, 5, 1, [gi_Map b2]⟩, some ⟨false, false, 1, l3.length, List.map (sl 1 I) l3⟩]⟩
 | .h3 t0 t1 t2 t3 t4 b5 l6 => ⟨sts 66 [(1, .ptr 0 5 0 0), (45, .ref 1 1 none), (46, I t0), (47, I t1), (54, sl 1 I t2), (55, I t3), (56, I t4)], [some ⟨false, true, 5, 1, [gi_Map b5]⟩, some ⟨false, false, 1, l6.length, List.map (sl 1 I) l6⟩]⟩
abbrev Qi_IsMap := Nx X 154 0 Ki_IsMap Zi_IsMap RB (fun _ => [])
theorem ni_IsMap : ∀ s o, Bi_IsMap s = some o → Qi_IsMap (Ki_IsMap s) (Zi_IsMap s) o
 | .h1 t0 t1 t2 b3, o, H =>
  eIf H (fun h1 H =>
  eCk H fun h2 H =>
  eBind H fun x3 hx3 H =>
  eBind H fun r4 hr4 H =>
  gN [rg [hT 0], rg [hE 1 (I x3)]] (by kernel_rfl) (P2 ((decide (t2 < t1)) = true) (decide_eq_true h1)<|P1 h2<|P1 (int_lt_of_at h2 hx3)<|P1 (at_map I hx3)<|P0) <|
  eIf H (fun h5 H =>
  eN H fun r hn => gO [rg [{ i := 1, call := some { cl := true, auto := true, ins := [], res := (RB r4), G' := [] }, dec := some true }], r0, .canon [0] [1, 31, 32, 33]] (by kernel_rfl) (P1 (ci_isIndex hr4)<|P2 (r4 = true) (h5)<|P0) hn)
  (fun h5 H =>
  eN H<|gE func154 [rg [{ i := 1, call := some { cl := true, auto := true, ins := [], res := (RB r4), G' := [] }, dec := some false }], r0] (by kernel_rfl) (P1 (ci_isIndex hr4)<|P2 (r4 = false) (eqF h5)<|P0)))
  (fun h1 H =>
  eN H fun r hn => gO [rg [hF 0], r0, .canon [0, 1] [1, 45, 46, 47]] (by kernel_rfl) (P2 ((decide (t2 < t1)) = false) (decide_eq_false h1)<|P0) hn)
 | .h2 t0 t1 b2 l3, o, H =>
  eIf H (fun h1 H =>
  eCk H fun h2 H =>
  eBind H fun x3 hx3 H =>
  eBind H fun r4 hr4 H =>
  gN [rg [hT 0], rg [hE 1 ((sl 1 I) x3)]] (by kernel_rfl) (P2 ((decide (t1 < t0)) = true) (decide_eq_true h1)<|P1 h2<|P1 (int_lt_of_at h2 hx3)<|P1 (at_map (sl 1 I) hx3)<|P0) <|
  eIf H (fun h5 H =>
  eN H fun r hn => gO [rg [{ i := 1, call := some { cl := true, auto := true, ins := [], res := (RB r4), G' := [] }, dec := some true }], r0, .canon [0, 1] [1, 45, 46, 47, 54, 55, 56]] (by kernel_rfl) (P1 (ci_increasing hr4)<|P2 (r4 = true) (h5)<|P0) hn)
  (fun h5 H =>
  eN H<|gE func154 [rg [{ i := 1, call := some { cl := true, auto := true, ins := [], res := (RB r4), G' := [] }, dec := some false }], r0] (by kernel_rfl) (P1 (ci_increasing hr4)<|P2 (r4 = false) (eqF h5)<|P0)))
  (fun h1 H =>
  eN H<|gE func154 [rg [hF 0], r0] (by kernel_rfl) (P2 ((decide (t1 < t0)) = false) (decide_eq_false h1)<|P0))
 | .h3 t0 t1 t2 t3 t4 b5 l6, o, H =>
  eIf H (fun h1 H =>
  eCk H fun h2 H =>
  eBind H fun x3 hx3 H =>
  eBind H fun r4 hr4 H =>
  gN [rg [hT 0], rg [hE 1 (I x3)]] (by kernel_rfl) (P2 ((decide (t4 < t3)) = true) (decide_eq_true h1)<|P1 h2<|P1 (int_lt_of_at h2 hx3)<|P1 (at_map I hx3)<|P0) <|
  eIf H (fun h5 H =>
  eN H fun r hn => gO [rg [{ i := 2, call := some { cl := true, auto := true, ins := [], res := (RB r4), G' := [] }, dec := some true }], r0, .canon [0, 1] [1, 45, 46, 47, 54, 55, 56]] (by kernel_rfl) (P1 (ci_isEdge hr4)<|P2 (r4 = true) (h5)<|P0) hn)
  (fun h5 H =>
  eN H<|gE func154 [rg [{ i := 2, call := some { cl := true, auto := true, ins := [], res := (RB r4), G' := [] }, dec := some false }], r0] (by kernel_rfl) (P1 (ci_isEdge hr4)<|P2 (r4 = false) (eqF h5)<|P0)))
  (fun h1 H =>
  eN H fun r hn => gO [rg [hF 0], r0, .canon [0, 1] [1, 45, 46, 47]] (by kernel_rfl) (P2 ((decide (t4 < t3)) = false) (decide_eq_false h1)<|P0) hn)
theorem wi_IsMap : ∀ s r, loop Bi_IsMap s = some r → Wc X 154 0 (Ki_IsMap s) (Zi_IsMap s) (RB r) ((fun _ => []) r) := Nx.all (ni_IsMap)
theorem ci_IsMap {a0 : Gi_Map} {r : Bool} (H : Di_IsMap a0 = some r) : Ct X.P X.gl 154 [gi_Map a0] [] (RB r) [] :=
 Ct.of func154 (c := bdy f154) (by kernel_rfl) (by kernel_rfl) <|
 eBind H fun r1 hr1 H =>
 gS [r0] (by kernel_rfl) P0 <|
 eIf H (fun h2 H =>
 eBind H fun r3 hr3 H =>
 eIf H (fun h4 H =>
 eIf H (fun h5 H =>
 gO [rg [{ i := 2, call := some { cl := true, auto := true, ins := [], res := (RB r1), G' := [] }, dec := some true }, { i := 7, call := some { cl := true, auto := true, ins := [], res := (RB r3), G' := [] }, dec := some true }, hF 19], r0, .canon [0] [1, 31, 32, 33]] (by kernel_rfl) (P1 (ci_inRange hr1)<|P2 (r1 = true) (h2)<|P1 (ci_inRange hr3)<|P2 (r3 = true) (h4)<|P2 (((((a0.Terrain.length : Nat) : Int) : Int) != (IntKind.wrap .i64 (a0.Width * a0.Height))) = false) (bneF h5)<|P0) (wi_IsMap _ _ H))
 (fun h5 H =>
 eW RB (fun _ => []) H<|gE func154 [rg [{ i := 2, call := some { cl := true, auto := true, ins := [], res := (RB r1), G' := [] }, dec := some true }, { i := 7, call := some { cl := true, auto := true, ins := [], res := (RB r3), G' := [] }, dec := some true }, hT 19], r0] (by kernel_rfl) (P1 (ci_inRange hr1)<|P2 (r1 = true) (h2)<|P1 (ci_inRange hr3)<|P2 (r3 = true) (h4)<|P2 (((((a0.Terrain.length : Nat) : Int) : Int) != (IntKind.wrap .i64 (a0.Width * a0.Height))) = true) (bneT h5)<|P0)))
 (fun h4 H =>
 eW RB (fun _ => []) H<|gE func154 [rg [{ i := 2, call := some { cl := true, auto := true, ins := [], res := (RB r1), G' := [] }, dec := some true }, { i := 7, call := some { cl := true, auto := true, ins := [], res := (RB r3), G' := [] }, dec := some false }], r0] (by kernel_rfl) (P1 (ci_inRange hr1)<|P2 (r1 = true) (h2)<|P1 (ci_inRange hr3)<|P2 (r3 = false) (eqF h4)<|P0)))
 (fun h2 H =>
 eW RB (fun _ => []) H<|gE func154 [rg [{ i := 2, call := some { cl := true, auto := true, ins := [], res := (RB r1), G' := [] }, dec := some false }], r0] (by kernel_rfl) (P1 (ci_inRange hr1)<|P2 (r1 = false) (eqF h2)<|P0))
theorem ci_IsBoard_1 {a0 : Int} {a1 : Gi_Board} {r : Bool} (H : Di_IsBoard_1 a0 a1 = some r) : Ct X.P X.gl 156 [I a0, .fptr 12 [.agg [sl 5 gi_Terrain a1.Rules.Terrains, sl 6 gi_Kind a1.Rules.Kinds, I a1.Rules.Stack, I a1.Rules.River, I a1.Rules.Road, I a1.Rules.Supply, I a1.Rules.Turns, I a1.Map.Width, I a1.Map.Height, sl 1 I a1.Map.Terrain, sl 1 I a1.Map.Rivers, sl 1 I a1.Map.Roads]] 0 0] [] (RB r) [] :=
 Ct.of func156 (c := bdy f156) (by kernel_rfl) (by kernel_rfl) <|
 eW RB (fun _ => []) H<|gE func156 [r0, r0] (by kernel_rfl) P0
noncomputable def Kslices_IndexFunc_int_i_IsBoard_1 : Sslices_IndexFunc_int_i_IsBoard_1 → List Item
 | .h1 .. => nav 300 2 [] [.code (bdy f210)]
def Zslices_IndexFunc_int_i_IsBoard_1 : Sslices_IndexFunc_int_i_IsBoard_1 → St
 | .h1 s0 f1 t2 t3 => ⟨sts 19 [(0, sl 1 I s0), (1, .fn 156 [.fptr 12 [.agg [sl 5 gi_Terrain f1.Rules.Terrains, sl 6 gi_Kind f1.Rules.Kinds, I f1.Rules.Stack, I f1.Rules.River, I f1.Rules.Road, I f1.Rules.Supply, I f1.Rules.Turns, I f1.Map.Width, I f1.Map.Height, sl 1 I f1.Map.Terrain, sl 1 I f1.Map.Rivers, sl 1 I f1.Map.Roads]] 0 0]), (7, I t2), (8, I t3)], []⟩
abbrev Qslices_IndexFunc_int_i_IsBoard_1 := Nx X 210 0 Kslices_IndexFunc_int_i_IsBoard_1 Zslices_IndexFunc_int_i_IsBoard_1 RI (fun _ => [])
theorem nslices_IndexFunc_int_i_IsBoard_1 : ∀ s o, Bslices_IndexFunc_int_i_IsBoard_1 s = some o → Qslices_IndexFunc_int_i_IsBoard_1 (Kslices_IndexFunc_int_i_IsBoard_1 s) (Zslices_IndexFunc_int_i_IsBoard_1 s) o
 | .h1 s0 f1 t2 t3, o, H =>
  eIf H (fun h1 H =>
  eCk H fun h2 H =>
  eBind H fun x3 hx3 H =>
  eBind H fun r4 hr4 H =>
  gN [rg [hT 0], r0] (by kernel_rfl) (P2 ((decide (t3 < t2)) = true) (decide_eq_true h1)<|P0) <|
  eIf H (fun h5 H =>
  eN H<|gE func210 [rg [hE 4 (I x3), { i := 5, call := some { cl := true, auto := true, ins := [], res := (RB r4), G' := [] }, dec := some true }], r0] (by kernel_rfl) (P1 h2<|P1 (int_lt_of_at h2 hx3)<|P1 (at_map I hx3)<|P1 (ci_IsBoard_1 hr4)<|P2 (r4 = true) (h5)<|P0))
  (fun h5 H =>
  eN H fun r hn => gO [rg [hE 4 (I x3), { i := 5, call := some { cl := true, auto := true, ins := [], res := (RB r4), G' := [] }, dec := some false }], r0, .canon [] [0, 1, 7, 8]] (by kernel_rfl) (P1 h2<|P1 (int_lt_of_at h2 hx3)<|P1 (at_map I hx3)<|P1 (ci_IsBoard_1 hr4)<|P2 (r4 = false) (eqF h5)<|P0) hn))
  (fun h1 H =>
  eN H<|gE func210 [rg [hF 0], r0] (by kernel_rfl) (P2 ((decide (t3 < t2)) = false) (decide_eq_false h1)<|P0))
theorem wslices_IndexFunc_int_i_IsBoard_1 : ∀ s r, loop Bslices_IndexFunc_int_i_IsBoard_1 s = some r → Wc X 210 0 (Kslices_IndexFunc_int_i_IsBoard_1 s) (Zslices_IndexFunc_int_i_IsBoard_1 s) (RI r) ((fun _ => []) r) := Nx.all (nslices_IndexFunc_int_i_IsBoard_1)
theorem cslices_IndexFunc_int_i_IsBoard_1 {a0 : (List Int)} {a100 : Gi_Board} {r : Int} (H : Dslices_IndexFunc_int_i_IsBoard_1 a0 a100 = some r) : Ct X.P X.gl 210 [sl 1 I a0, .fn 156 [.fptr 12 [.agg [sl 5 gi_Terrain a100.Rules.Terrains, sl 6 gi_Kind a100.Rules.Kinds, I a100.Rules.Stack, I a100.Rules.River, I a100.Rules.Road, I a100.Rules.Supply, I a100.Rules.Turns, I a100.Map.Width, I a100.Map.Height, sl 1 I a100.Map.Terrain, sl 1 I a100.Map.Rivers, sl 1 I a100.Map.Roads]] 0 0]] [] (RI r) [] :=
 Ct.of func210 (c := bdy f210) (by kernel_rfl) (by kernel_rfl) <|
 gO [r0, r0, .canon [] [0, 1, 7, 8]] (by kernel_rfl) P0 (wslices_IndexFunc_int_i_IsBoard_1 _ _ H)
theorem cslices_ContainsFunc_int_i_IsBoard_1 {a0 : (List Int)} {a100 : Gi_Board} {r : Bool} (H : Dslices_ContainsFunc_int_i_IsBoard_1 a0 a100 = some r) : Ct X.P X.gl 155 [sl 1 I a0, .fn 156 [.fptr 12 [.agg [sl 5 gi_Terrain a100.Rules.Terrains, sl 6 gi_Kind a100.Rules.Kinds, I a100.Rules.Stack, I a100.Rules.River, I a100.Rules.Road, I a100.Rules.Supply, I a100.Rules.Turns, I a100.Map.Width, I a100.Map.Height, sl 1 I a100.Map.Terrain, sl 1 I a100.Map.Rivers, sl 1 I a100.Map.Roads]] 0 0]] [] (RB r) [] :=
 Ct.of func155 (c := bdy f155) (by kernel_rfl) (by kernel_rfl) <|
 eBind H fun r1 hr1 H =>
 eW RB (fun _ => []) H<|gE func155 [r0, rg [hC 2 true [] (RI r1) []]] (by kernel_rfl) (P1 (cslices_IndexFunc_int_i_IsBoard_1 hr1)<|P0)
theorem ci_IsBoard {a0 : Gi_Board} {r : Bool} (H : Di_IsBoard a0 = some r) : Ct X.P X.gl 105 [gi_Board a0] [] (RB r) [] :=
 Ct.of func105 (c := bdy f105) (by kernel_rfl) (by kernel_rfl) <|
 eBind H fun r1 hr1 H =>
 gS [r0] (by kernel_rfl) P0 <|
 eIf H (fun h2 H =>
 eBind H fun r3 hr3 H =>
 eIf H (fun h4 H =>
 eBind H fun r5 hr5 H =>
 eW RB (fun _ => []) H<|gE func105 [rg [{ i := 2, call := some { cl := true, auto := true, ins := [], res := (RB r1), G' := [] }, dec := some true }, { i := 7, call := some { cl := true, auto := true, ins := [], res := (RB r3), G' := [] }, dec := some true }], rg [hC 4 false [] (RB r5) []]] (by kernel_rfl) (P1 (ci_IsRules hr1)<|P2 (r1 = true) (h2)<|P1 (ci_IsMap hr3)<|P2 (r3 = true) (h4)<|P1 (cslices_ContainsFunc_int_i_IsBoard_1 hr5)<|P0))
 (fun h4 H =>
 eW RB (fun _ => []) H<|gE func105 [rg [{ i := 2, call := some { cl := true, auto := true, ins := [], res := (RB r1), G' := [] }, dec := some true }, { i := 7, call := some { cl := true, auto := true, ins := [], res := (RB r3), G' := [] }, dec := some false }], r0] (by kernel_rfl) (P1 (ci_IsRules hr1)<|P2 (r1 = true) (h2)<|P1 (ci_IsMap hr3)<|P2 (r3 = false) (eqF h4)<|P0)))
 (fun h2 H =>
 eW RB (fun _ => []) H<|gE func105 [rg [{ i := 2, call := some { cl := true, auto := true, ins := [], res := (RB r1), G' := [] }, dec := some false }], r0] (by kernel_rfl) (P1 (ci_IsRules hr1)<|P2 (r1 = false) (eqF h2)<|P0))
theorem ci_isResult {a0 : Int} {r : Bool} (H : Di_isResult a0 = some r) : Ct X.P X.gl 158 [I a0] [] (RB r) [] :=
 Ct.of func158 (c := bdy f158) (by kernel_rfl) (by kernel_rfl) <|
 eBind H fun r1 hr1 H =>
 eW RB (fun _ => []) H<|gE func158 [r0, rg [hC 1 true [] (RB r1) []]] (by kernel_rfl) (P1 (ci_inRange hr1)<|P0)
theorem ci_IsCombatTable_1 {a0 : Int} {r : Bool} (H : Di_IsCombatTable_1 a0 = some r) : Ct X.P X.gl 157 [I a0] [] (RB r) [] :=
 Ct.of func157 (c := bdy f157) (by kernel_rfl) (by kernel_rfl) <|
 eBind H fun r1 hr1 H =>
 eW RB (fun _ => []) H<|gE func157 [r0, rg [hC 1 true [] (RB r1) []]] (by kernel_rfl) (P1 (ci_isResult hr1)<|P0)
noncomputable def Kslices_IndexFunc_int_i_IsCombatTable_1 : Sslices_IndexFunc_int_i_IsCombatTable_1 → List Item
 | .h1 .. => nav 300 2 [] [.code (bdy f210)]
def Zslices_IndexFunc_int_i_IsCombatTable_1 : Sslices_IndexFunc_int_i_IsCombatTable_1 → St
 | .h1 s0 t1 t2 => ⟨sts 19 [(0, sl 1 I s0), (1, .fn 157 []), (7, I t1), (8, I t2)], []⟩
abbrev Qslices_IndexFunc_int_i_IsCombatTable_1 := Nx X 210 0 Kslices_IndexFunc_int_i_IsCombatTable_1 Zslices_IndexFunc_int_i_IsCombatTable_1 RI (fun _ => [])
theorem nslices_IndexFunc_int_i_IsCombatTable_1 : ∀ s o, Bslices_IndexFunc_int_i_IsCombatTable_1 s = some o → Qslices_IndexFunc_int_i_IsCombatTable_1 (Kslices_IndexFunc_int_i_IsCombatTable_1 s) (Zslices_IndexFunc_int_i_IsCombatTable_1 s) o
 | .h1 s0 t1 t2, o, H =>
  eIf H (fun h1 H =>
  eCk H fun h2 H =>
  eBind H fun x3 hx3 H =>
  eBind H fun r4 hr4 H =>
  gN [rg [hT 0], r0] (by kernel_rfl) (P2 ((decide (t2 < t1)) = true) (decide_eq_true h1)<|P0) <|
  eIf H (fun h5 H =>
  eN H<|gE func210 [rg [hE 4 (I x3), { i := 5, call := some { cl := true, auto := true, ins := [], res := (RB r4), G' := [] }, dec := some true }], r0] (by kernel_rfl) (P1 h2<|P1 (int_lt_of_at h2 hx3)<|P1 (at_map I hx3)<|P1 (ci_IsCombatTable_1 hr4)<|P2 (r4 = true) (h5)<|P0))
  (fun h5 H =>
  eN H fun r hn => gO [rg [hE 4 (I x3), { i := 5, call := some { cl := true, auto := true, ins := [], res := (RB r4), G' := [] }, dec := some false }], r0, .canon [] [0, 1, 7, 8]] (by kernel_rfl) (P1 h2<|P1 (int_lt_of_at h2 hx3)<|P1 (at_map I hx3)<|P1 (ci_IsCombatTable_1 hr4)<|P2 (r4 = false) (eqF h5)<|P0) hn))
  (fun h1 H =>
  eN H<|gE func210 [rg [hF 0], r0] (by kernel_rfl) (P2 ((decide (t2 < t1)) = false) (decide_eq_false h1)<|P0))
theorem wslices_IndexFunc_int_i_IsCombatTable_1 : ∀ s r, loop Bslices_IndexFunc_int_i_IsCombatTable_1 s = some r → Wc X 210 0 (Kslices_IndexFunc_int_i_IsCombatTable_1 s) (Zslices_IndexFunc_int_i_IsCombatTable_1 s) (RI r) ((fun _ => []) r) := Nx.all (nslices_IndexFunc_int_i_IsCombatTable_1)
theorem cslices_IndexFunc_int_i_IsCombatTable_1 {a0 : (List Int)} {r : Int} (H : Dslices_IndexFunc_int_i_IsCombatTable_1 a0 = some r) : Ct X.P X.gl 210 [sl 1 I a0, .fn 157 []] [] (RI r) [] :=
 Ct.of func210 (c := bdy f210) (by kernel_rfl) (by kernel_rfl) <|
 gO [r0, r0, .canon [] [0, 1, 7, 8]] (by kernel_rfl) P0 (wslices_IndexFunc_int_i_IsCombatTable_1 _ _ H)
theorem cslices_ContainsFunc_int_i_IsCombatTable_1 {a0 : (List Int)} {r : Bool} (H : Dslices_ContainsFunc_int_i_IsCombatTable_1 a0 = some r) : Ct X.P X.gl 155 [sl 1 I a0, .fn 157 []] [] (RB r) [] :=
 Ct.of func155 (c := bdy f155) (by kernel_rfl) (by kernel_rfl) <|
 eBind H fun r1 hr1 H =>
 eW RB (fun _ => []) H<|gE func155 [r0, rg [hC 2 true [] (RI r1) []]] (by kernel_rfl) (P1 (cslices_IndexFunc_int_i_IsCombatTable_1 hr1)<|P0)
noncomputable def Ki_IsCombatTable : Si_IsCombatTable → List Item
 | .h1 .. => nav 300 3 [false] [.code (bdy f106)]
 | .h2 .. => nav 300 5 [false, false] [.code (bdy f106)]
def Zi_IsCombatTable : Si_IsCombatTable → St
 | .h1 t0 t1 t2 b3 => ⟨sts 90 [(1, .ptr 0 3 0 0), (29, sl 2 gi_Odds t0), (30, I t1), (31, I t2)], [some ⟨false, true, 3, 1, [gi_CombatTable b3]⟩]⟩
 | .h2 t0 t1 t2 b3 => ⟨sts 90 [(1, .ptr 0 3 0 0), (73, sl 1 (sl 1 I) t0), (74, I t1), (75, I t2)], [some ⟨false, true, 3, 1, [gi_CombatTable b3]⟩]⟩
abbrev Qi_IsCombatTable := Nx X 106 0 Ki_IsCombatTable Zi_IsCombatTable RB (fun _ => [])
theorem ni_IsCombatTable : ∀ s o, Bi_IsCombatTable s = some o → Qi_IsCombatTable (Ki_IsCombatTable s) (Zi_IsCombatTable s) o
 | .h1 t0 t1 t2 b3, o, H =>
  eIf H (fun h1 H =>
  eCk H fun h2 H =>
  eBind H fun x3 hx3 H =>
  eBind H fun r4 hr4 H =>
  gN [rg [hT 0], rg [hE 2 (gi_Odds x3)]] (by kernel_rfl) (P2 ((decide (t2 < t1)) = true) (decide_eq_true h1)<|P1 h2<|P1 (int_lt_of_at h2 hx3)<|P1 (at_map gi_Odds hx3)<|P0) <|
  eIf H (fun h5 H =>
  eBind H fun r6 hr6 H =>
  eIf H (fun h7 H =>
  gN [rg [{ i := 2, call := some { cl := true, auto := true, ins := [], res := (RB r4), G' := [] }, dec := some true }, { i := 7, call := some { cl := true, auto := true, ins := [], res := (RB r6), G' := [] }, dec := some true }]] (by kernel_rfl) (P1 (ci_inRange hr4)<|P2 (r4 = true) (h5)<|P1 (ci_inRange hr6)<|P2 (r6 = true) (h7)<|P0) <|
  eIf H (fun h8 H =>
  eCk H fun h9 H =>
  eBind H fun x10 hx10 H =>
  eCk H fun h11 H =>
  eBind H fun x12 hx12 H =>
  eIf H (fun h13 H =>
  eN H<|gE func106 [rg [hT 1, hE 9 (gi_Odds x10), hE 21 (gi_Odds x12), hT 23], r0] (by kernel_rfl) (P2 ((decide (t2 > 0)) = true) (decide_eq_true h8)<|P1 h9<|P1 (int_lt_of_at h9 hx10)<|P1 (at_map gi_Odds hx10)<|P1 h11<|P1 (int_lt_of_at h11 hx12)<|P1 (at_map gi_Odds hx12)<|P2 ((decide ((IntKind.wrap .i64 (x10.Num * x3.Den)) ≥ (IntKind.wrap .i64 (x3.Num * x12.Den)))) = true) (decide_eq_true h13)<|P0))
  (fun h13 H =>
  eN H fun r hn => gO [rg [hT 1, hE 9 (gi_Odds x10), hE 21 (gi_Odds x12), hF 23], r0, .canon [0] [1, 29, 30, 31]] (by kernel_rfl) (P2 ((decide (t2 > 0)) = true) (decide_eq_true h8)<|P1 h9<|P1 (int_lt_of_at h9 hx10)<|P1 (at_map gi_Odds hx10)<|P1 h11<|P1 (int_lt_of_at h11 hx12)<|P1 (at_map gi_Odds hx12)<|P2 ((decide ((IntKind.wrap .i64 (x10.Num * x3.Den)) ≥ (IntKind.wrap .i64 (x3.Num * x12.Den)))) = false) (decide_eq_false h13)<|P0) hn))
  (fun h8 H =>
  eN H fun r hn => gO [rg [hF 1], r0, .canon [0] [1, 29, 30, 31]] (by kernel_rfl) (P2 ((decide (t2 > 0)) = false) (decide_eq_false h8)<|P0) hn))
  (fun h7 H =>
  eN H<|gE func106 [rg [{ i := 2, call := some { cl := true, auto := true, ins := [], res := (RB r4), G' := [] }, dec := some true }, { i := 7, call := some { cl := true, auto := true, ins := [], res := (RB r6), G' := [] }, dec := some false }], r0] (by kernel_rfl) (P1 (ci_inRange hr4)<|P2 (r4 = true) (h5)<|P1 (ci_inRange hr6)<|P2 (r6 = false) (eqF h7)<|P0)))
  (fun h5 H =>
  eN H<|gE func106 [rg [{ i := 2, call := some { cl := true, auto := true, ins := [], res := (RB r4), G' := [] }, dec := some false }], r0] (by kernel_rfl) (P1 (ci_inRange hr4)<|P2 (r4 = false) (eqF h5)<|P0)))
  (fun h1 H =>
  eN H fun r hn => gO [rg [hF 0], r0, .canon [0] [1, 73, 74, 75]] (by kernel_rfl) (P2 ((decide (t2 < t1)) = false) (decide_eq_false h1)<|P0) hn)
 | .h2 t0 t1 t2 b3, o, H =>
  eIf H (fun h1 H =>
  eCk H fun h2 H =>
  eBind H fun x3 hx3 H =>
  gN [rg [hT 0], rg [hE 1 ((sl 1 I) x3)]] (by kernel_rfl) (P2 ((decide (t2 < t1)) = true) (decide_eq_true h1)<|P1 h2<|P1 (int_lt_of_at h2 hx3)<|P1 (at_map (sl 1 I) hx3)<|P0) <|
  eIf H (fun h4 H =>
  eBind H fun r5 hr5 H =>
  eIf H (fun h6 H =>
  eN H<|gE func106 [rg [hF 5, { i := 8, call := some { cl := true, auto := true, ins := [], res := (RB r5), G' := [] }, dec := some true }], r0] (by kernel_rfl) (P2 (((((x3.length : Nat) : Int) : Int) != ((b3.Columns.length : Nat) : Int)) = false) (bneF h4)<|P1 (cslices_ContainsFunc_int_i_IsCombatTable_1 hr5)<|P2 (r5 = true) (h6)<|P0))
  (fun h6 H =>
  eN H fun r hn => gO [rg [hF 5, { i := 8, call := some { cl := true, auto := true, ins := [], res := (RB r5), G' := [] }, dec := some false }], r0, .canon [0] [1, 73, 74, 75]] (by kernel_rfl) (P2 (((((x3.length : Nat) : Int) : Int) != ((b3.Columns.length : Nat) : Int)) = false) (bneF h4)<|P1 (cslices_ContainsFunc_int_i_IsCombatTable_1 hr5)<|P2 (r5 = false) (eqF h6)<|P0) hn))
  (fun h4 H =>
  eN H<|gE func106 [rg [hT 5], r0] (by kernel_rfl) (P2 (((((x3.length : Nat) : Int) : Int) != ((b3.Columns.length : Nat) : Int)) = true) (bneT h4)<|P0)))
  (fun h1 H =>
  eN H<|gE func106 [rg [hF 0], r0] (by kernel_rfl) (P2 ((decide (t2 < t1)) = false) (decide_eq_false h1)<|P0))
theorem wi_IsCombatTable : ∀ s r, loop Bi_IsCombatTable s = some r → Wc X 106 0 (Ki_IsCombatTable s) (Zi_IsCombatTable s) (RB r) ((fun _ => []) r) := Nx.all (ni_IsCombatTable)
theorem ci_IsCombatTable {a0 : Gi_CombatTable} {r : Bool} (H : Di_IsCombatTable a0 = some r) : Ct X.P X.gl 106 [gi_CombatTable a0] [] (RB r) [] :=
 Ct.of func106 (c := bdy f106) (by kernel_rfl) (by kernel_rfl) <|
 eBind H fun r1 hr1 H =>
 gS [r0] (by kernel_rfl) P0 <|
 eIf H (fun h2 H =>
 eBind H fun r3 hr3 H =>
 eIf H (fun h4 H =>
 eIf H (fun h5 H =>
 gO [rg [{ i := 3, call := some { cl := true, auto := true, ins := [], res := (RB r1), G' := [] }, dec := some true }, { i := 8, call := some { cl := true, auto := true, ins := [], res := (RB r3), G' := [] }, dec := some true }, hF 19], r0, .canon [0] [1, 29, 30, 31]] (by kernel_rfl) (P1 (ci_inRange hr1)<|P2 (r1 = true) (h2)<|P1 (ci_inRange hr3)<|P2 (r3 = true) (h4)<|P2 (((((a0.Results.length : Nat) : Int) : Int) != (IntKind.wrap .i64 ((IntKind.wrap .i64 (5 * a0.Dice)) + 1))) = false) (bneF h5)<|P0) (wi_IsCombatTable _ _ H))
 (fun h5 H =>
 eW RB (fun _ => []) H<|gE func106 [rg [{ i := 3, call := some { cl := true, auto := true, ins := [], res := (RB r1), G' := [] }, dec := some true }, { i := 8, call := some { cl := true, auto := true, ins := [], res := (RB r3), G' := [] }, dec := some true }, hT 19], r0] (by kernel_rfl) (P1 (ci_inRange hr1)<|P2 (r1 = true) (h2)<|P1 (ci_inRange hr3)<|P2 (r3 = true) (h4)<|P2 (((((a0.Results.length : Nat) : Int) : Int) != (IntKind.wrap .i64 ((IntKind.wrap .i64 (5 * a0.Dice)) + 1))) = true) (bneT h5)<|P0)))
 (fun h4 H =>
 eW RB (fun _ => []) H<|gE func106 [rg [{ i := 3, call := some { cl := true, auto := true, ins := [], res := (RB r1), G' := [] }, dec := some true }, { i := 8, call := some { cl := true, auto := true, ins := [], res := (RB r3), G' := [] }, dec := some false }], r0] (by kernel_rfl) (P1 (ci_inRange hr1)<|P2 (r1 = true) (h2)<|P1 (ci_inRange hr3)<|P2 (r3 = false) (eqF h4)<|P0)))
 (fun h2 H =>
 eW RB (fun _ => []) H<|gE func106 [rg [{ i := 3, call := some { cl := true, auto := true, ins := [], res := (RB r1), G' := [] }, dec := some false }], r0] (by kernel_rfl) (P1 (ci_inRange hr1)<|P2 (r1 = false) (eqF h2)<|P0))
theorem ci_sizeOf {a0 : Gi_Board} {r : Int} (H : Di_sizeOf a0 = some r) : Ct X.P X.gl 159 [gi_Board a0] [] (RI r) [] :=
 Ct.of func159 (c := bdy f159) (by kernel_rfl) (by kernel_rfl) <|
 eW RI (fun _ => []) H<|gE func159 [r0, r0] (by kernel_rfl) P0
theorem ci_isSide {a0 : Int} {r : Bool} (H : Di_isSide a0 = some r) : Ct X.P X.gl 211 [I a0] [] (RB r) [] :=
 Ct.of func211 (c := bdy f211) (by kernel_rfl) (by kernel_rfl) <|
 eBind H fun r1 hr1 H =>
 eW RB (fun _ => []) H<|gE func211 [r0, rg [hC 1 true [] (RB r1) []]] (by kernel_rfl) (P1 (ci_inRange hr1)<|P0)
def Ri_terrainAt (r : Gi_Terrain) : List D := [.agg [.str r.Name, sl 1 I r.Cost, I r.Shift, I r.Height, .bool r.Blocks]]
theorem ci_terrainAt {a0 : Gi_Board} {a1 : Int} {r : Gi_Terrain} (H : Di_terrainAt a0 a1 = some r) : Ct X.P X.gl 248 [gi_Board a0, I a1] [] (Ri_terrainAt r) [] :=
 Ct.of func248 (c := bdy f248) (by kernel_rfl) (by kernel_rfl) <|
 eCk H fun h1 H =>
 eBind H fun x2 hx2 H =>
 eCk H fun h3 H =>
 eBind H fun x4 hx4 H =>
 eW Ri_terrainAt (fun _ => []) H<|gE func248 [r0, rg [hE 8 (I x2), hE 10 (gi_Terrain x4)]] (by kernel_rfl) (P1 h1<|P1 (int_lt_of_at h1 hx2)<|P1 (at_map I hx2)<|P1 h3<|P1 (int_lt_of_at h3 hx4)<|P1 (at_map gi_Terrain hx4)<|P0)
theorem ci_enterCost {a0 : Gi_Board} {a1 : Int} {a2 : Int} {r : Int} (H : Di_enterCost a0 a1 a2 = some r) : Ct X.P X.gl 212 [gi_Board a0, I a1, I a2] [] (RI r) [] :=
 Ct.of func212 (c := bdy f212) (by kernel_rfl) (by kernel_rfl) <|
 eBind H fun r1 hr1 H =>
 eCk H fun h2 H =>
 eBind H fun x3 hx3 H =>
 eW RI (fun _ => []) H<|gE func212 [r0, rg [hC 2 true [] (Ri_terrainAt r1) [], hE 6 (I x3)]] (by kernel_rfl) (P1 (ci_terrainAt hr1)<|P1 h2<|P1 (int_lt_of_at h2 hx3)<|P1 (at_map I hx3)<|P0)
theorem ci_goodUnit {a0 : Gi_Board} {a1 : Gi_Unit} {r : Bool} (H : Di_goodUnit a0 a1 = some r) : Ct X.P X.gl 160 [gi_Board a0, gi_Unit a1] [] (RB r) [] :=
 Ct.of func160 (c := bdy f160) (by kernel_rfl) (by kernel_rfl) <|
 eBind H fun r1 hr1 H =>
 gS [r0] (by kernel_rfl) P0 <|
 eIf H (fun h2 H =>
 eBind H fun r3 hr3 H =>
 eIf H (fun h4 H =>
 eCk H fun h5 H =>
 eBind H fun x6 hx6 H =>
 eBind H fun r7 hr7 H =>
 eIf H (fun h8 H =>
 gS [rg [{ i := 2, call := some { cl := true, auto := true, ins := [], res := (RB r1), G' := [] }, dec := some true }, { i := 11, call := some { cl := true, auto := true, ins := [], res := (RB r3), G' := [] }, dec := some true }, hE 24 (gi_Kind x6), { i := 25, call := some { cl := true, auto := true, ins := [], res := (RB r7), G' := [] }, dec := some true }]] (by kernel_rfl) (P1 (ci_isSide hr1)<|P2 (r1 = true) (h2)<|P1 (ci_isIndex hr3)<|P2 (r3 = true) (h4)<|P1 h5<|P1 (int_lt_of_at h5 hx6)<|P1 (at_map gi_Kind hx6)<|P1 (ci_inRange hr7)<|P2 (r7 = true) (h8)<|P0) <|
 eIf H (fun h9 H =>
 eW RB (fun _ => []) H<|gE func160 [rg [hT 2], r0] (by kernel_rfl) (P2 (((a1.At : Int) == (-1)) = true) (beqT h9)<|P0))
 (fun h9 H =>
 gS [rg [hF 2]] (by kernel_rfl) (P2 (((a1.At : Int) == (-1)) = false) (beqF h9)<|P0) <|
 eIf H (fun h10 H =>
 eBind H fun r11 hr11 H =>
 eBind H fun r12 hr12 H =>
 eIf H (fun h13 H =>
 eBind H fun r14 hr14 H =>
 eW RB (fun _ => []) H<|gE func160 [rg [hT 2, hC 7 true [] (RI r11) [], { i := 8, call := some { cl := true, auto := true, ins := [], res := (RB r12), G' := [] }, dec := some true }, hC 16 true [] (RI r14) []]] (by kernel_rfl) (P2 ((decide (a1.Steps > 0)) = true) (decide_eq_true h10)<|P1 (ci_sizeOf hr11)<|P1 (ci_isIndex hr12)<|P2 (r12 = true) (h13)<|P1 (ci_enterCost hr14)<|P0))
 (fun h13 H =>
 eW RB (fun _ => []) H<|gE func160 [rg [hT 2, hC 7 true [] (RI r11) [], { i := 8, call := some { cl := true, auto := true, ins := [], res := (RB r12), G' := [] }, dec := some false }]] (by kernel_rfl) (P2 ((decide (a1.Steps > 0)) = true) (decide_eq_true h10)<|P1 (ci_sizeOf hr11)<|P1 (ci_isIndex hr12)<|P2 (r12 = false) (eqF h13)<|P0)))
 (fun h10 H =>
 eW RB (fun _ => []) H<|gE func160 [rg [hF 2]] (by kernel_rfl) (P2 ((decide (a1.Steps > 0)) = false) (decide_eq_false h10)<|P0))))
 (fun h8 H =>
 eW RB (fun _ => []) H<|gE func160 [rg [{ i := 2, call := some { cl := true, auto := true, ins := [], res := (RB r1), G' := [] }, dec := some true }, { i := 11, call := some { cl := true, auto := true, ins := [], res := (RB r3), G' := [] }, dec := some true }, hE 24 (gi_Kind x6), { i := 25, call := some { cl := true, auto := true, ins := [], res := (RB r7), G' := [] }, dec := some false }], r0] (by kernel_rfl) (P1 (ci_isSide hr1)<|P2 (r1 = true) (h2)<|P1 (ci_isIndex hr3)<|P2 (r3 = true) (h4)<|P1 h5<|P1 (int_lt_of_at h5 hx6)<|P1 (at_map gi_Kind hx6)<|P1 (ci_inRange hr7)<|P2 (r7 = false) (eqF h8)<|P0)))
 (fun h4 H =>
 eW RB (fun _ => []) H<|gE func160 [rg [{ i := 2, call := some { cl := true, auto := true, ins := [], res := (RB r1), G' := [] }, dec := some true }, { i := 11, call := some { cl := true, auto := true, ins := [], res := (RB r3), G' := [] }, dec := some false }], r0] (by kernel_rfl) (P1 (ci_isSide hr1)<|P2 (r1 = true) (h2)<|P1 (ci_isIndex hr3)<|P2 (r3 = false) (eqF h4)<|P0)))
 (fun h2 H =>
 eW RB (fun _ => []) H<|gE func160 [rg [{ i := 2, call := some { cl := true, auto := true, ins := [], res := (RB r1), G' := [] }, dec := some false }], r0] (by kernel_rfl) (P1 (ci_isSide hr1)<|P2 (r1 = false) (eqF h2)<|P0))
end Go.Proofs.YtogomlkoocbhcaaGreatDoor.Ab
