/- Part of the proof of FnExactIsFairCard: no condition of its own. -/
import Derived.Test.YtogomlkoocbhcaaGreatDoorAb6
import Derived.Test.YtogomlkoocbhcaaGreatDoorAb5
import Derived.Test.YtogomlkoocbhcaaGreatDoorAb6
import Derived.Test.YtogomlkoocbhcaaGreatDoorAb5
import Derived.Test.YtogomlkoocbhcaaGreatDoorChecked
import Derived.Test.YtogomlkoocbhcaaGreatDoorE1FD
set_option linter.unusedVariables false
set_option linter.unusedSimpArgs false
open Go Go.Proofs Go.Proofs.Tryz
namespace Go.Proofs.YtogomlkoocbhcaaGreatDoor.Ab
def T : Tab := [(3, ⟨(TK.int IntKind.i64), 1, 8, I 0⟩),
 (4, ⟨TK.bool, 1, 1, (D.bool false)⟩),
 (5, ⟨(TK.int IntKind.u8), 1, 1, .int .u8 0⟩),
 (9, ⟨TK.str, 1, 16, (D.str (ByteArray.mk (Array.mk [])))⟩),
 (22, ⟨(TK.slice 176), 1, 24, D.nil⟩),
 (23, ⟨(TK.slice 178), 1, 24, D.nil⟩),
 (25, ⟨(TK.strct [(FI.mk 0 1 false), (FI.mk 1 1 false), (FI.mk 2 1 false), (FI.mk 3 1 false), (FI.mk 4 1 false), (FI.mk 5 1 false), (FI.mk 6 1 false)] none), 7, 88, (D.agg [D.nil, D.nil, I 0, I 0, I 0, I 0, I 0])⟩),
 (26, ⟨(TK.slice 3), 1, 24, D.nil⟩),
 (28, ⟨(TK.strct [(FI.mk 0 1 false), (FI.mk 1 1 false), (FI.mk 2 1 false), (FI.mk 3 1 false), (FI.mk 4 1 false)] none), 5, 88, (D.agg [I 0, I 0, D.nil, D.nil, D.nil])⟩),
 (30, ⟨(TK.strct [(FI.mk 0 7 true), (FI.mk 7 5 true)] none), 12, 176, (D.agg [D.nil, D.nil, I 0, I 0, I 0, I 0, I 0, I 0, I 0, D.nil, D.nil, D.nil])⟩),
 (31, ⟨(TK.slice 144), 1, 24, D.nil⟩),
 (32, ⟨(TK.slice 26), 1, 24, D.nil⟩),
 (34, ⟨(TK.strct [(FI.mk 0 1 false), (FI.mk 1 1 false), (FI.mk 2 1 false)] none), 3, 56, (D.agg [D.nil, I 0, D.nil])⟩),
 (35, ⟨(TK.slice 146), 1, 24, D.nil⟩),
 (37, ⟨(TK.strct [(FI.mk 0 1 false), (FI.mk 1 1 false), (FI.mk 2 1 false)] none), 3, 40, (D.agg [I 0, I 0, D.nil])⟩),
 (38, ⟨(TK.slice 148), 1, 24, D.nil⟩),
 (40, ⟨(TK.strct [(FI.mk 0 1 false), (FI.mk 1 1 false), (FI.mk 2 1 false)] none), 3, 40, (D.agg [D.nil, I 0, I 0])⟩),
 (42, ⟨(TK.strct [(FI.mk 0 1 false), (FI.mk 1 12 true), (FI.mk 13 3 true), (FI.mk 16 3 true), (FI.mk 19 3 true), (FI.mk 22 1 false), (FI.mk 23 1 false)] none), 24, 376, (D.agg [(D.str (ByteArray.mk (Array.mk []))), D.nil, D.nil, I 0, I 0, I 0, I 0, I 0, I 0, I 0, D.nil, D.nil, D.nil, D.nil, I 0, D.nil, I 0, I 0, D.nil, D.nil, I 0, I 0, D.nil, D.nil])⟩),
 (46, ⟨(TK.slice 186), 1, 24, D.nil⟩),
 (47, ⟨(TK.slice 139), 1, 24, D.nil⟩),
 (49, ⟨(TK.strct [(FI.mk 0 1 false), (FI.mk 1 1 false), (FI.mk 2 1 false), (FI.mk 3 1 false), (FI.mk 4 1 false), (FI.mk 5 1 false), (FI.mk 6 1 false)] none), 7, 88, (D.agg [D.nil, D.nil, I 0, I 0, I 0, I 0, I 0])⟩),
 (50, ⟨(TK.strct [(FI.mk 0 1 false), (FI.mk 1 1 false), (FI.mk 2 1 false), (FI.mk 3 1 false), (FI.mk 4 1 false)] none), 5, 88, (D.agg [I 0, I 0, D.nil, D.nil, D.nil])⟩),
 (52, ⟨(TK.strct [(FI.mk 0 7 true), (FI.mk 7 5 true)] none), 12, 176, (D.agg [D.nil, D.nil, I 0, I 0, I 0, I 0, I 0, I 0, I 0, D.nil, D.nil, D.nil])⟩),
 (53, ⟨(TK.slice 137), 1, 24, D.nil⟩),
 (55, ⟨(TK.strct [(FI.mk 0 1 false), (FI.mk 1 1 false), (FI.mk 2 1 false)] none), 3, 56, (D.agg [D.nil, I 0, D.nil])⟩),
 (56, ⟨(TK.slice 88), 1, 24, D.nil⟩),
 (58, ⟨(TK.strct [(FI.mk 0 1 false), (FI.mk 1 1 false), (FI.mk 2 1 false)] none), 3, 40, (D.agg [I 0, I 0, D.nil])⟩),
 (59, ⟨(TK.slice 93), 1, 24, D.nil⟩),
 (61, ⟨(TK.strct [(FI.mk 0 1 false), (FI.mk 1 1 false), (FI.mk 2 1 false)] none), 3, 40, (D.agg [D.nil, I 0, I 0])⟩),
 (63, ⟨(TK.strct [(FI.mk 0 1 false), (FI.mk 1 12 true), (FI.mk 13 3 true), (FI.mk 16 3 true), (FI.mk 19 3 true), (FI.mk 22 1 false), (FI.mk 23 1 false)] none), 24, 376, (D.agg [(D.str (ByteArray.mk (Array.mk []))), D.nil, D.nil, I 0, I 0, I 0, I 0, I 0, I 0, I 0, D.nil, D.nil, D.nil, D.nil, I 0, D.nil, I 0, I 0, D.nil, D.nil, I 0, I 0, D.nil, D.nil])⟩),
 (88, ⟨(TK.strct [(FI.mk 0 1 false), (FI.mk 1 1 false), (FI.mk 2 1 false), (FI.mk 3 1 false)] (some [(LK.int IntKind.i64), (LK.int IntKind.i64), (LK.int IntKind.i64), (LK.int IntKind.i64)])), 4, 32, (D.agg [I 0, I 0, I 0, I 0])⟩),
 (93, ⟨(TK.strct [(FI.mk 0 1 false), (FI.mk 1 1 false)] (some [(LK.int IntKind.i64), (LK.int IntKind.i64)])), 2, 16, (D.agg [I 0, I 0])⟩),
 (137, ⟨(TK.strct [(FI.mk 0 1 false), (FI.mk 1 1 false)] (some [(LK.int IntKind.i64), (LK.int IntKind.i64)])), 2, 16, (D.agg [I 0, I 0])⟩),
 (139, ⟨(TK.strct [(FI.mk 0 1 false), (FI.mk 1 1 false), (FI.mk 2 1 false), (FI.mk 3 1 false), (FI.mk 4 1 false), (FI.mk 5 1 false)] (some [LK.str, (LK.int IntKind.i64), (LK.int IntKind.i64), (LK.int IntKind.i64), LK.bool, (LK.int IntKind.i64)])), 6, 56, (D.agg [(D.str (ByteArray.mk (Array.mk []))), I 0, I 0, I 0, (D.bool false), I 0])⟩),
 (140, ⟨(TK.slice 5), 1, 24, D.nil⟩),
 (144, ⟨(TK.strct [(FI.mk 0 1 false), (FI.mk 1 1 false)] (some [(LK.int IntKind.i64), (LK.int IntKind.i64)])), 2, 16, (D.agg [I 0, I 0])⟩),
 (146, ⟨(TK.strct [(FI.mk 0 1 false), (FI.mk 1 1 false), (FI.mk 2 1 false), (FI.mk 3 1 false)] (some [(LK.int IntKind.i64), (LK.int IntKind.i64), (LK.int IntKind.i64), (LK.int IntKind.i64)])), 4, 32, (D.agg [I 0, I 0, I 0, I 0])⟩),
 (148, ⟨(TK.strct [(FI.mk 0 1 false), (FI.mk 1 1 false)] (some [(LK.int IntKind.i64), (LK.int IntKind.i64)])), 2, 16, (D.agg [I 0, I 0])⟩),
 (150, ⟨(TK.slice 9), 1, 24, D.nil⟩),
 (163, ⟨(TK.strct [(FI.mk 0 1 false), (FI.mk 1 1 false)] (some [(LK.int IntKind.i64), (LK.int IntKind.i64)])), 2, 16, (D.agg [I 0, I 0])⟩),
 (172, ⟨(TK.int IntKind.u64), 1, 8, (D.int IntKind.u64 (Int.ofNat 0))⟩),
 (176, ⟨(TK.strct [(FI.mk 0 1 false), (FI.mk 1 1 false), (FI.mk 2 1 false), (FI.mk 3 1 false), (FI.mk 4 1 false)] none), 5, 64, (D.agg [(D.str (ByteArray.mk (Array.mk []))), D.nil, I 0, I 0, (D.bool false)])⟩),
 (178, ⟨(TK.strct [(FI.mk 0 1 false), (FI.mk 1 1 false), (FI.mk 2 1 false), (FI.mk 3 1 false), (FI.mk 4 1 false), (FI.mk 5 1 false)] (some [LK.str, (LK.int IntKind.i64), (LK.int IntKind.i64), (LK.int IntKind.i64), LK.bool, (LK.int IntKind.i64)])), 6, 56, (D.agg [(D.str (ByteArray.mk (Array.mk []))), I 0, I 0, I 0, (D.bool false), I 0])⟩),
 (186, ⟨(TK.strct [(FI.mk 0 1 false), (FI.mk 1 1 false), (FI.mk 2 1 false), (FI.mk 3 1 false), (FI.mk 4 1 false)] none), 5, 64, (D.agg [(D.str (ByteArray.mk (Array.mk []))), D.nil, I 0, I 0, (D.bool false)])⟩),
 (191, ⟨(TK.slice 193), 1, 24, D.nil⟩),
 (193, ⟨(TK.arr 2 3), 2, 16, (D.agg [I 0, I 0])⟩),
 (202, ⟨(TK.strct [(FI.mk 0 1 false), (FI.mk 1 1 false)] none), 2, 32, (D.agg [D.undef, D.nil])⟩),
 (205, ⟨TK.other, 1, 16, D.undef⟩),
 (225, ⟨(TK.int IntKind.u64), 1, 8, (D.int IntKind.u64 (Int.ofNat 0))⟩),
 (270, ⟨(TK.arr 6 163), 12, 96, (D.agg [I 0, I 0, I 0, I 0, I 0, I 0, I 0, I 0, I 0, I 0, I 0, I 0])⟩)]
noncomputable def X : Ctx := ⟨Go.Proofs.Tryz.prog, T, [(1, .fptr 12 gc0 0 0), (2, .fptr 20 gc102 0 0)]⟩
theorem T_ok : TabOK X.P X.T := ⟨by kernel_rfl, by kernel_rfl, by kernel_rfl, by kernel_rfl, by kernel_rfl, by kernel_rfl, by kernel_rfl, by kernel_rfl, by kernel_rfl, by kernel_rfl, by kernel_rfl, by kernel_rfl, by kernel_rfl, by kernel_rfl, by kernel_rfl, by kernel_rfl, by kernel_rfl, by kernel_rfl, by kernel_rfl, by kernel_rfl, by kernel_rfl, by kernel_rfl, by kernel_rfl, by kernel_rfl, by kernel_rfl, by kernel_rfl, by kernel_rfl, by kernel_rfl, by kernel_rfl, by kernel_rfl, by kernel_rfl, by kernel_rfl, by kernel_rfl, by kernel_rfl, by kernel_rfl, by kernel_rfl, by kernel_rfl, by kernel_rfl, by kernel_rfl, by kernel_rfl, by kernel_rfl, by kernel_rfl, by kernel_rfl, by kernel_rfl, by kernel_rfl, by kernel_rfl, by kernel_rfl, by kernel_rfl, by kernel_rfl, by kernel_rfl, trivial⟩
theorem mixed : X.P.follows .mixedOrders = true := Go.Proofs.Tryz.checked.mixed
theorem gO {f : FuncId} {M : Nat} {k k' : List Item} {σ σ' : St} {res : List D} {G' : List Root} (cmds : List Cmd) {ps : List Prop} (h : run X M cmds k σ = some (ps, k', σ')) (hp : AllP ps) (hk : Wc X f M k' σ' res G') : Wc X f M k σ res G' := run_ok T_ok mixed h hp hk
theorem gE {f : FuncId} {M : Nat} {k : List Item} {σ : St} {res : List D} {G' : List Root} {fn : Func} (hf : X.P.funcs[f]? = some fn) (cmds : List Cmd) {ps : List Prop} (h : runFinC X M cmds k σ fn.results.toList res = some (ps, res, G')) (hp : AllP ps) : Wc X f M k σ res G' := runFinC_ok T_ok mixed hf h hp
theorem gS {f : FuncId} {M : Nat} {k : List Item} {σ : St} {res : List D} {G' : List Root} (cmds : List Cmd) {ps : List Prop} (h : runP X M cmds k σ = some ps) (hp : AllP ps) (hk : Wc X f M (runK X M cmds k σ) (runS X M cmds k σ) res G') : Wc X f M k σ res G' := seg_ok T_ok mixed cmds h hp hk
theorem gN {ς ρ : Type} {f : FuncId} {M : Nat} {K : ς → List Item} {Z : ς → St} {R : ρ → List D} {G : ρ → List Root} {k : List Item} {σ : St} {o : ς ⊕ ρ} (cmds : List Cmd) {ps : List Prop} (h : runP X M cmds k σ = some ps) (hp : AllP ps) (hk : Nx X f M K Z R G (runK X M cmds k σ) (runS X M cmds k σ) o) : Nx X f M K Z R G k σ o := segN_ok T_ok mixed cmds h hp hk
theorem nf_3 : ∀ x, (I x).nf := fun x => by simp [D.nf, nfL]
theorem nf_88 : ∀ x, (gi_Unit x).nf := fun x => by simp [gi_Unit, D.nf, nfL]
theorem nf_93 : ∀ x, (gi_Goal x).nf := fun x => by simp [gi_Goal, D.nf, nfL]
theorem nf_137 : ∀ x, (gi_Odds x).nf := fun x => by simp [gi_Odds, D.nf, nfL]
theorem nf_139 : ∀ x, (gi_Kind x).nf := fun x => by simp [gi_Kind, D.nf, nfL]
theorem nfo_26 : ∀ x, ((ow 1 I) x).nf := fun x => by simp [D.nf, nfL, nf_ow nf_3]
theorem nfo_186 : ∀ x, (goi_Terrain x).nf := fun x => by simp [goi_Terrain, gi_Terrain, D.nf, nfL, nf_ow nf_3]
theorem ero_26 : ∀ x, ((ow 1 I) x).er = ((sl 1 I) x).er := fun x => er_ow (fun _ => rfl) _ x
theorem ero_186 : ∀ x, (goi_Terrain x).er = (gi_Terrain x).er := fun x => by simp [goi_Terrain, gi_Terrain, D.er, erL, er_ow (f := I) (g := I) (fun _ => rfl)]
theorem allOw_26 (l : List (List Int)) : AllOw (List.map (ow 1 I) l) := allOw_map (fun x c hc => by simp [ow, D.cells] at hc; rcases hc with rfl <;> rfl) l
theorem allOw_186 (l : List Gi_Terrain) : AllOw (List.map goi_Terrain l) := allOw_map (fun x c hc => by simp [goi_Terrain, gi_Terrain, D.cells] at hc; rcases hc with rfl | rfl | rfl | rfl | rfl <;> rfl) l
theorem allFl_3 (l : List Int) : AllFl (List.map I l) := allFl_map (fun x c hc => by simp [D.cells] at hc; rcases hc with rfl <;> rfl) l
theorem allFl_88 (l : List Gi_Unit) : AllFl (List.map gi_Unit l) := allFl_map (fun x c hc => by simp [gi_Unit, D.cells] at hc; rcases hc with rfl | rfl | rfl | rfl <;> rfl) l
theorem allFl_93 (l : List Gi_Goal) : AllFl (List.map gi_Goal l) := allFl_map (fun x c hc => by simp [gi_Goal, D.cells] at hc; rcases hc with rfl | rfl <;> rfl) l
theorem allFl_137 (l : List Gi_Odds) : AllFl (List.map gi_Odds l) := allFl_map (fun x c hc => by simp [gi_Odds, D.cells] at hc; rcases hc with rfl | rfl <;> rfl) l
theorem allFl_139 (l : List Gi_Kind) : AllFl (List.map gi_Kind l) := allFl_map (fun x c hc => by simp [gi_Kind, D.cells] at hc; rcases hc with rfl | rfl | rfl | rfl | rfl | rfl <;> rfl) l
def lays_n156_ren : Go.Shelf.Ren := ⟨fun | 156 => 112 | 165 => 166 | 166 => 167 | 169 => 168 | 240 => 213 | 241 => 214 | 276 => 249 | 277 => 250 | n => n, fun | 31 => 150 | 9 => 9 | 3 => 3 | 4 => 4 | 0 => 0 | 20 => 20 | 72 => 202 | 76 => 206 | 70 => 200 | 37 => 140 | 75 => 205 | 127 => 242 | 164 => 266 | 5 => 5 | 80 => 208 | n => n, fun | n => n⟩
theorem lays_n156 : Go.Proofs.Lays.n156 Go.Proofs.Tryz.prog lays_n156_ren := {
 mixed := by kernel_rfl
 f156 := Go.Proofs.Tryz.func112.trans (congrArg some (by kernel_rfl))
 f165 := Go.Proofs.Tryz.func166.trans (congrArg some (by kernel_rfl))
 f166 := Go.Proofs.Tryz.func167.trans (congrArg some (by kernel_rfl))
 f169 := Go.Proofs.Tryz.func168.trans (congrArg some (by kernel_rfl))
 f240 := Go.Proofs.Tryz.func213.trans (congrArg some (by kernel_rfl))
 f241 := Go.Proofs.Tryz.func214.trans (congrArg some (by kernel_rfl))
 f276 := Go.Proofs.Tryz.func249.trans (congrArg some (by kernel_rfl))
 f277 := Go.Proofs.Tryz.func250.trans (congrArg some (by kernel_rfl))
 t0 := Go.Proofs.Tryz.underlying0
 a0 := Go.Proofs.Tryz.isAgg0
 z0 := Go.Proofs.Tryz.sizeOf0
 v0 := Go.Proofs.Tryz.zeroValue0
 t3 := Go.Proofs.Tryz.underlying3
 a3 := Go.Proofs.Tryz.isAgg3
 z3 := Go.Proofs.Tryz.sizeOf3
 v3 := Go.Proofs.Tryz.zeroValue3
 t4 := Go.Proofs.Tryz.underlying4
 a4 := Go.Proofs.Tryz.isAgg4
 z4 := Go.Proofs.Tryz.sizeOf4
 v4 := Go.Proofs.Tryz.zeroValue4
 t9 := Go.Proofs.Tryz.underlying9
 a9 := Go.Proofs.Tryz.isAgg9
 z9 := Go.Proofs.Tryz.sizeOf9
 v9 := Go.Proofs.Tryz.zeroValue9
 t20 := Go.Proofs.Tryz.underlying20
 a20 := Go.Proofs.Tryz.isAgg20
 z20 := Go.Proofs.Tryz.sizeOf20
 v20 := Go.Proofs.Tryz.zeroValue20
 t31 := Go.Proofs.Tryz.underlying150
 a31 := Go.Proofs.Tryz.isAgg150
 z31 := Go.Proofs.Tryz.sizeOf150
 v31 := Go.Proofs.Tryz.zeroValue150
 t37 := Go.Proofs.Tryz.underlying140
 a37 := Go.Proofs.Tryz.isAgg140
 z37 := Go.Proofs.Tryz.sizeOf140
 v37 := Go.Proofs.Tryz.zeroValue140
 t70 := Go.Proofs.Tryz.underlying200
 a70 := Go.Proofs.Tryz.isAgg200
 z70 := Go.Proofs.Tryz.sizeOf200
 v70 := Go.Proofs.Tryz.zeroValue200
 t72 := Go.Proofs.Tryz.underlying202
 a72 := Go.Proofs.Tryz.isAgg202
 z72 := Go.Proofs.Tryz.sizeOf202
 v72 := Go.Proofs.Tryz.zeroValue202
 t75 := Go.Proofs.Tryz.underlying205
 a75 := Go.Proofs.Tryz.isAgg205
 z75 := Go.Proofs.Tryz.sizeOf205
 v75 := Go.Proofs.Tryz.zeroValue205
 t76 := Go.Proofs.Tryz.underlying206
 a76 := Go.Proofs.Tryz.isAgg206
 z76 := Go.Proofs.Tryz.sizeOf206
 v76 := Go.Proofs.Tryz.zeroValue206
 t127 := Go.Proofs.Tryz.underlying242
 a127 := Go.Proofs.Tryz.isAgg242
 z127 := Go.Proofs.Tryz.sizeOf242
 v127 := Go.Proofs.Tryz.zeroValue242
 t164 := Go.Proofs.Tryz.underlying266
 a164 := Go.Proofs.Tryz.isAgg266
 z164 := Go.Proofs.Tryz.sizeOf266
 v164 := Go.Proofs.Tryz.zeroValue266 }

def lays_n189_ren : Go.Shelf.Ren := ⟨fun | 189 => 134 | 125 => 136 | 257 => 177 | 128 => 186 | 129 => 187 | 294 => 220 | 295 => 221 | 296 => 222 | 297 => 223 | 298 => 224 | 299 => 225 | 216 => 226 | 300 => 227 | 301 => 228 | 328 => 253 | 329 => 230 | 330 => 231 | 331 => 254 | 332 => 255 | 215 => 256 | 343 => 263 | n => n, fun | 28 => 26 | 3 => 3 | 46 => 172 | 0 => 0 | 51 => 223 | 53 => 225 | 4 => 4 | 183 => 216 | 182 => 215 | 131 => 220 | 5 => 5 | 9 => 9 | 218 => 250 | 222 => 254 | 228 => 273 | 229 => 274 | n => n, fun | n => n⟩
theorem lays_n189 : Go.Proofs.Lays.n189 Go.Proofs.Tryz.prog lays_n189_ren := {
 mixed := by kernel_rfl
 f125 := Go.Proofs.Tryz.func136.trans (congrArg some (by kernel_rfl))
 f128 := Go.Proofs.Tryz.func186.trans (congrArg some (by kernel_rfl))
 f129 := Go.Proofs.Tryz.func187.trans (congrArg some (by kernel_rfl))
 f189 := Go.Proofs.Tryz.func134.trans (congrArg some (by kernel_rfl))
 f215 := Go.Proofs.Tryz.func256.trans (congrArg some (by kernel_rfl))
 f216 := Go.Proofs.Tryz.func226.trans (congrArg some (by kernel_rfl))
 f257 := Go.Proofs.Tryz.func177.trans (congrArg some (by kernel_rfl))
 f294 := Go.Proofs.Tryz.func220.trans (congrArg some (by kernel_rfl))
 f295 := Go.Proofs.Tryz.func221.trans (congrArg some (by kernel_rfl))
 f296 := Go.Proofs.Tryz.func222.trans (congrArg some (by kernel_rfl))
 f297 := Go.Proofs.Tryz.func223.trans (congrArg some (by kernel_rfl))
 f298 := Go.Proofs.Tryz.func224.trans (congrArg some (by kernel_rfl))
 f299 := Go.Proofs.Tryz.func225.trans (congrArg some (by kernel_rfl))
 f300 := Go.Proofs.Tryz.func227.trans (congrArg some (by kernel_rfl))
 f301 := Go.Proofs.Tryz.func228.trans (congrArg some (by kernel_rfl))
 f328 := Go.Proofs.Tryz.func253.trans (congrArg some (by kernel_rfl))
 f329 := Go.Proofs.Tryz.func230.trans (congrArg some (by kernel_rfl))
 f330 := Go.Proofs.Tryz.func231.trans (congrArg some (by kernel_rfl))
 f331 := Go.Proofs.Tryz.func254.trans (congrArg some (by kernel_rfl))
 f332 := Go.Proofs.Tryz.func255.trans (congrArg some (by kernel_rfl))
 f343 := Go.Proofs.Tryz.func263.trans (congrArg some (by kernel_rfl))
 t0 := Go.Proofs.Tryz.underlying0
 a0 := Go.Proofs.Tryz.isAgg0
 z0 := Go.Proofs.Tryz.sizeOf0
 v0 := Go.Proofs.Tryz.zeroValue0
 t3 := Go.Proofs.Tryz.underlying3
 a3 := Go.Proofs.Tryz.isAgg3
 z3 := Go.Proofs.Tryz.sizeOf3
 v3 := Go.Proofs.Tryz.zeroValue3
 t4 := Go.Proofs.Tryz.underlying4
 a4 := Go.Proofs.Tryz.isAgg4
 z4 := Go.Proofs.Tryz.sizeOf4
 v4 := Go.Proofs.Tryz.zeroValue4
 t5 := Go.Proofs.Tryz.underlying5
 a5 := Go.Proofs.Tryz.isAgg5
 z5 := Go.Proofs.Tryz.sizeOf5
 v5 := Go.Proofs.Tryz.zeroValue5
 t9 := Go.Proofs.Tryz.underlying9
 a9 := Go.Proofs.Tryz.isAgg9
 z9 := Go.Proofs.Tryz.sizeOf9
 v9 := Go.Proofs.Tryz.zeroValue9
 t28 := Go.Proofs.Tryz.underlying26
 a28 := Go.Proofs.Tryz.isAgg26
 z28 := Go.Proofs.Tryz.sizeOf26
 v28 := Go.Proofs.Tryz.zeroValue26
 t46 := Go.Proofs.Tryz.underlying172
 a46 := Go.Proofs.Tryz.isAgg172
 z46 := Go.Proofs.Tryz.sizeOf172
 v46 := Go.Proofs.Tryz.zeroValue172
 t51 := Go.Proofs.Tryz.underlying223
 a51 := Go.Proofs.Tryz.isAgg223
 z51 := Go.Proofs.Tryz.sizeOf223
 v51 := Go.Proofs.Tryz.zeroValue223
 t53 := Go.Proofs.Tryz.underlying225
 a53 := Go.Proofs.Tryz.isAgg225
 z53 := Go.Proofs.Tryz.sizeOf225
 v53 := Go.Proofs.Tryz.zeroValue225
 t131 := Go.Proofs.Tryz.underlying220
 a131 := Go.Proofs.Tryz.isAgg220
 z131 := Go.Proofs.Tryz.sizeOf220
 v131 := Go.Proofs.Tryz.zeroValue220
 t182 := Go.Proofs.Tryz.underlying215
 a182 := Go.Proofs.Tryz.isAgg215
 z182 := Go.Proofs.Tryz.sizeOf215
 v182 := Go.Proofs.Tryz.zeroValue215
 t183 := Go.Proofs.Tryz.underlying216
 a183 := Go.Proofs.Tryz.isAgg216
 z183 := Go.Proofs.Tryz.sizeOf216
 v183 := Go.Proofs.Tryz.zeroValue216
 t218 := Go.Proofs.Tryz.underlying250
 a218 := Go.Proofs.Tryz.isAgg250
 z218 := Go.Proofs.Tryz.sizeOf250
 v218 := Go.Proofs.Tryz.zeroValue250
 t222 := Go.Proofs.Tryz.underlying254
 a222 := Go.Proofs.Tryz.isAgg254
 z222 := Go.Proofs.Tryz.sizeOf254
 v222 := Go.Proofs.Tryz.zeroValue254
 t228 := Go.Proofs.Tryz.underlying273
 a228 := Go.Proofs.Tryz.isAgg273
 z228 := Go.Proofs.Tryz.sizeOf273
 v228 := Go.Proofs.Tryz.zeroValue273
 t229 := Go.Proofs.Tryz.underlying274
 a229 := Go.Proofs.Tryz.isAgg274
 z229 := Go.Proofs.Tryz.sizeOf274
 v229 := Go.Proofs.Tryz.zeroValue274 }

def lays_n171_ren : Go.Shelf.Ren := ⟨fun | 171 => 85 | 243 => 137 | 246 => 188 | 283 => 234 | 284 => 235 | 285 => 236 | 286 => 237 | 129 => 187 | 317 => 258 | 318 => 259 | 319 => 260 | 320 => 261 | 337 => 264 | 338 => 265 | n => n, fun | 3 => 3 | 9 => 9 | 2 => 2 | 4 => 4 | 171 => 256 | 0 => 0 | 53 => 225 | 37 => 140 | 5 => 5 | 173 => 258 | 212 => 277 | 51 => 223 | 20 => 20 | 213 => 278 | 46 => 172 | 232 => 281 | 233 => 282 | n => n, fun | 17 => 2 | 18 => 4 | 19 => 5 | n => n⟩
theorem lays_n171 : Go.Proofs.LaysM.n171 Go.Proofs.Tryz.prog lays_n171_ren := {
 mixed := by kernel_rfl
 f129 := Go.Proofs.Tryz.func187.trans (congrArg some (by kernel_rfl))
 f171 := Go.Proofs.Tryz.func85.trans (congrArg some (by kernel_rfl))
 f243 := Go.Proofs.Tryz.func137.trans (congrArg some (by kernel_rfl))
 f246 := Go.Proofs.Tryz.func188.trans (congrArg some (by kernel_rfl))
 f283 := Go.Proofs.Tryz.func234.trans (congrArg some (by kernel_rfl))
 f284 := Go.Proofs.Tryz.func235.trans (congrArg some (by kernel_rfl))
 f285 := Go.Proofs.Tryz.func236.trans (congrArg some (by kernel_rfl))
 f286 := Go.Proofs.Tryz.func237.trans (congrArg some (by kernel_rfl))
 f317 := Go.Proofs.Tryz.func258.trans (congrArg some (by kernel_rfl))
 f318 := Go.Proofs.Tryz.func259.trans (congrArg some (by kernel_rfl))
 f319 := Go.Proofs.Tryz.func260.trans (congrArg some (by kernel_rfl))
 f320 := Go.Proofs.Tryz.func261.trans (congrArg some (by kernel_rfl))
 f337 := Go.Proofs.Tryz.func264.trans (congrArg some (by kernel_rfl))
 f338 := Go.Proofs.Tryz.func265.trans (congrArg some (by kernel_rfl))
 t0 := Go.Proofs.Tryz.underlying0
 a0 := Go.Proofs.Tryz.isAgg0
 z0 := Go.Proofs.Tryz.sizeOf0
 v0 := Go.Proofs.Tryz.zeroValue0
 t2 := Go.Proofs.Tryz.underlying2
 a2 := Go.Proofs.Tryz.isAgg2
 z2 := Go.Proofs.Tryz.sizeOf2
 v2 := Go.Proofs.Tryz.zeroValue2
 t3 := Go.Proofs.Tryz.underlying3
 a3 := Go.Proofs.Tryz.isAgg3
 z3 := Go.Proofs.Tryz.sizeOf3
 v3 := Go.Proofs.Tryz.zeroValue3
 t4 := Go.Proofs.Tryz.underlying4
 a4 := Go.Proofs.Tryz.isAgg4
 z4 := Go.Proofs.Tryz.sizeOf4
 v4 := Go.Proofs.Tryz.zeroValue4
 t5 := Go.Proofs.Tryz.underlying5
 a5 := Go.Proofs.Tryz.isAgg5
 z5 := Go.Proofs.Tryz.sizeOf5
 v5 := Go.Proofs.Tryz.zeroValue5
 t9 := Go.Proofs.Tryz.underlying9
 a9 := Go.Proofs.Tryz.isAgg9
 z9 := Go.Proofs.Tryz.sizeOf9
 v9 := Go.Proofs.Tryz.zeroValue9
 t20 := Go.Proofs.Tryz.underlying20
 a20 := Go.Proofs.Tryz.isAgg20
 z20 := Go.Proofs.Tryz.sizeOf20
 v20 := Go.Proofs.Tryz.zeroValue20
 t37 := Go.Proofs.Tryz.underlying140
 a37 := Go.Proofs.Tryz.isAgg140
 z37 := Go.Proofs.Tryz.sizeOf140
 v37 := Go.Proofs.Tryz.zeroValue140
 t46 := Go.Proofs.Tryz.underlying172
 a46 := Go.Proofs.Tryz.isAgg172
 z46 := Go.Proofs.Tryz.sizeOf172
 v46 := Go.Proofs.Tryz.zeroValue172
 t51 := Go.Proofs.Tryz.underlying223
 a51 := Go.Proofs.Tryz.isAgg223
 z51 := Go.Proofs.Tryz.sizeOf223
 v51 := Go.Proofs.Tryz.zeroValue223
 t53 := Go.Proofs.Tryz.underlying225
 a53 := Go.Proofs.Tryz.isAgg225
 z53 := Go.Proofs.Tryz.sizeOf225
 v53 := Go.Proofs.Tryz.zeroValue225
 t171 := Go.Proofs.Tryz.underlying256
 a171 := Go.Proofs.Tryz.isAgg256
 z171 := Go.Proofs.Tryz.sizeOf256
 v171 := Go.Proofs.Tryz.zeroValue256
 t173 := Go.Proofs.Tryz.underlying258
 a173 := Go.Proofs.Tryz.isAgg258
 z173 := Go.Proofs.Tryz.sizeOf258
 v173 := Go.Proofs.Tryz.zeroValue258
 t212 := Go.Proofs.Tryz.underlying277
 a212 := Go.Proofs.Tryz.isAgg277
 z212 := Go.Proofs.Tryz.sizeOf277
 v212 := Go.Proofs.Tryz.zeroValue277
 t213 := Go.Proofs.Tryz.underlying278
 a213 := Go.Proofs.Tryz.isAgg278
 z213 := Go.Proofs.Tryz.sizeOf278
 t232 := Go.Proofs.Tryz.underlying281
 a232 := Go.Proofs.Tryz.isAgg281
 z232 := Go.Proofs.Tryz.sizeOf281
 v232 := Go.Proofs.Tryz.zeroValue281
 t233 := Go.Proofs.Tryz.underlying282
 a233 := Go.Proofs.Tryz.isAgg282
 z233 := Go.Proofs.Tryz.sizeOf282
 v233 := Go.Proofs.Tryz.zeroValue282
 g17 := by kernel_rfl
 g18 := by kernel_rfl
 g19 := by kernel_rfl
 i0 := by kernel_rfl
 i2 := by kernel_rfl
 i3 := by kernel_rfl
 i4 := by kernel_rfl
 i5 := by kernel_rfl
 i9 := by kernel_rfl
 i20 := by kernel_rfl
 i37 := by kernel_rfl
 i46 := by kernel_rfl
 i51 := by kernel_rfl
 i53 := by kernel_rfl
 i171 := by kernel_rfl
 i173 := by kernel_rfl
 i212 := by kernel_rfl
 i232 := by kernel_rfl
 i233 := by kernel_rfl
 m17 := by kernel_rfl
 m18 := by kernel_rfl
 m19 := by kernel_rfl }

def lays_g82_ren : Go.Shelf.Ren := ⟨fun | 6 => 82 | 15 => 136 | 14 => 135 | 28 => 186 | 29 => 187 | 20 => 178 | 21 => 179 | 22 => 180 | 23 => 181 | 24 => 182 | 25 => 183 | 26 => 184 | 27 => 185 | 46 => 229 | 47 => 230 | 48 => 231 | 49 => 232 | 50 => 233 | 57 => 257 | n => n, fun | 22 => 59 | 24 => 93 | 25 => 125 | 3 => 3 | 39 => 172 | 0 => 0 | 53 => 223 | 55 => 225 | 4 => 4 | 46 => 216 | 45 => 215 | 50 => 220 | 5 => 5 | 9 => 9 | 66 => 250 | 70 => 254 | 76 => 273 | 77 => 274 | n => n, fun | n => n⟩
theorem lays_g82 : Go.Proofs.SlLaysF0.n6 Go.Proofs.Tryz.prog lays_g82_ren := {
 mixed := by kernel_rfl
 f6 := ⟨Go.Proofs.Tryz.f82.name, by decide, Go.Proofs.Tryz.func82.trans (congrArg some (by kernel_rfl))⟩
 f14 := ⟨Go.Proofs.Tryz.f135.name, by decide, Go.Proofs.Tryz.func135.trans (congrArg some (by kernel_rfl))⟩
 f15 := Go.Proofs.Tryz.func136.trans (congrArg some (by kernel_rfl))
 f20 := ⟨Go.Proofs.Tryz.f178.name, by decide, Go.Proofs.Tryz.func178.trans (congrArg some (by kernel_rfl))⟩
 f21 := ⟨Go.Proofs.Tryz.f179.name, by decide, Go.Proofs.Tryz.func179.trans (congrArg some (by kernel_rfl))⟩
 f22 := ⟨Go.Proofs.Tryz.f180.name, by decide, Go.Proofs.Tryz.func180.trans (congrArg some (by kernel_rfl))⟩
 f23 := ⟨Go.Proofs.Tryz.f181.name, by decide, Go.Proofs.Tryz.func181.trans (congrArg some (by kernel_rfl))⟩
 f24 := ⟨Go.Proofs.Tryz.f182.name, by decide, Go.Proofs.Tryz.func182.trans (congrArg some (by kernel_rfl))⟩
 f25 := ⟨Go.Proofs.Tryz.f183.name, by decide, Go.Proofs.Tryz.func183.trans (congrArg some (by kernel_rfl))⟩
 f26 := ⟨Go.Proofs.Tryz.f184.name, by decide, Go.Proofs.Tryz.func184.trans (congrArg some (by kernel_rfl))⟩
 f27 := ⟨Go.Proofs.Tryz.f185.name, by decide, Go.Proofs.Tryz.func185.trans (congrArg some (by kernel_rfl))⟩
 f28 := Go.Proofs.Tryz.func186.trans (congrArg some (by kernel_rfl))
 f29 := Go.Proofs.Tryz.func187.trans (congrArg some (by kernel_rfl))
 f46 := ⟨Go.Proofs.Tryz.f229.name, by decide, Go.Proofs.Tryz.func229.trans (congrArg some (by kernel_rfl))⟩
 f47 := Go.Proofs.Tryz.func230.trans (congrArg some (by kernel_rfl))
 f48 := Go.Proofs.Tryz.func231.trans (congrArg some (by kernel_rfl))
 f49 := ⟨Go.Proofs.Tryz.f232.name, by decide, Go.Proofs.Tryz.func232.trans (congrArg some (by kernel_rfl))⟩
 f50 := ⟨Go.Proofs.Tryz.f233.name, by decide, Go.Proofs.Tryz.func233.trans (congrArg some (by kernel_rfl))⟩
 f57 := ⟨Go.Proofs.Tryz.f257.name, by decide, Go.Proofs.Tryz.func257.trans (congrArg some (by kernel_rfl))⟩
 t0 := Go.Proofs.Tryz.underlying0
 a0 := Go.Proofs.Tryz.isAgg0
 z0 := Go.Proofs.Tryz.sizeOf0
 v0 := Go.Proofs.Tryz.zeroValue0
 t3 := Go.Proofs.Tryz.underlying3
 a3 := Go.Proofs.Tryz.isAgg3
 z3 := Go.Proofs.Tryz.sizeOf3
 v3 := Go.Proofs.Tryz.zeroValue3
 t4 := Go.Proofs.Tryz.underlying4
 a4 := Go.Proofs.Tryz.isAgg4
 z4 := Go.Proofs.Tryz.sizeOf4
 v4 := Go.Proofs.Tryz.zeroValue4
 t5 := Go.Proofs.Tryz.underlying5
 a5 := Go.Proofs.Tryz.isAgg5
 z5 := Go.Proofs.Tryz.sizeOf5
 v5 := Go.Proofs.Tryz.zeroValue5
 t9 := Go.Proofs.Tryz.underlying9
 a9 := Go.Proofs.Tryz.isAgg9
 z9 := Go.Proofs.Tryz.sizeOf9
 v9 := Go.Proofs.Tryz.zeroValue9
 t22 := Go.Proofs.Tryz.underlying59
 a22 := Go.Proofs.Tryz.isAgg59
 z22 := Go.Proofs.Tryz.sizeOf59
 v22 := Go.Proofs.Tryz.zeroValue59
 t25 := Go.Proofs.Tryz.underlying125
 a25 := Go.Proofs.Tryz.isAgg125
 z25 := Go.Proofs.Tryz.sizeOf125
 v25 := Go.Proofs.Tryz.zeroValue125
 t39 := Go.Proofs.Tryz.underlying172
 a39 := Go.Proofs.Tryz.isAgg172
 z39 := Go.Proofs.Tryz.sizeOf172
 v39 := Go.Proofs.Tryz.zeroValue172
 t45 := Go.Proofs.Tryz.underlying215
 a45 := Go.Proofs.Tryz.isAgg215
 z45 := Go.Proofs.Tryz.sizeOf215
 v45 := Go.Proofs.Tryz.zeroValue215
 t46 := Go.Proofs.Tryz.underlying216
 a46 := Go.Proofs.Tryz.isAgg216
 z46 := Go.Proofs.Tryz.sizeOf216
 v46 := Go.Proofs.Tryz.zeroValue216
 t50 := Go.Proofs.Tryz.underlying220
 a50 := Go.Proofs.Tryz.isAgg220
 z50 := Go.Proofs.Tryz.sizeOf220
 v50 := Go.Proofs.Tryz.zeroValue220
 t53 := Go.Proofs.Tryz.underlying223
 a53 := Go.Proofs.Tryz.isAgg223
 z53 := Go.Proofs.Tryz.sizeOf223
 v53 := Go.Proofs.Tryz.zeroValue223
 t55 := Go.Proofs.Tryz.underlying225
 a55 := Go.Proofs.Tryz.isAgg225
 z55 := Go.Proofs.Tryz.sizeOf225
 v55 := Go.Proofs.Tryz.zeroValue225
 t66 := Go.Proofs.Tryz.underlying250
 a66 := Go.Proofs.Tryz.isAgg250
 z66 := Go.Proofs.Tryz.sizeOf250
 v66 := Go.Proofs.Tryz.zeroValue250
 t70 := Go.Proofs.Tryz.underlying254
 a70 := Go.Proofs.Tryz.isAgg254
 z70 := Go.Proofs.Tryz.sizeOf254
 v70 := Go.Proofs.Tryz.zeroValue254
 t76 := Go.Proofs.Tryz.underlying273
 a76 := Go.Proofs.Tryz.isAgg273
 z76 := Go.Proofs.Tryz.sizeOf273
 v76 := Go.Proofs.Tryz.zeroValue273
 t77 := Go.Proofs.Tryz.underlying274
 a77 := Go.Proofs.Tryz.isAgg274
 z77 := Go.Proofs.Tryz.sizeOf274
 v77 := Go.Proofs.Tryz.zeroValue274 }

def lays_g87_ren : Go.Shelf.Ren := ⟨fun | 6 => 87 | 15 => 136 | 14 => 138 | 28 => 186 | 29 => 187 | 20 => 189 | 21 => 190 | 22 => 191 | 23 => 192 | 24 => 193 | 25 => 194 | 26 => 195 | 27 => 196 | 46 => 238 | 47 => 230 | 48 => 231 | 49 => 239 | 50 => 240 | 57 => 262 | n => n, fun | 22 => 56 | 24 => 88 | 25 => 127 | 3 => 3 | 39 => 172 | 0 => 0 | 53 => 223 | 55 => 225 | 4 => 4 | 46 => 216 | 45 => 215 | 50 => 220 | 5 => 5 | 9 => 9 | 66 => 250 | 70 => 254 | 76 => 273 | 77 => 274 | n => n, fun | n => n⟩
theorem lays_g87 : Go.Proofs.SlLaysF0.n6 Go.Proofs.Tryz.prog lays_g87_ren := {
 mixed := by kernel_rfl
 f6 := ⟨Go.Proofs.Tryz.f87.name, by decide, Go.Proofs.Tryz.func87.trans (congrArg some (by kernel_rfl))⟩
 f14 := ⟨Go.Proofs.Tryz.f138.name, by decide, Go.Proofs.Tryz.func138.trans (congrArg some (by kernel_rfl))⟩
 f15 := Go.Proofs.Tryz.func136.trans (congrArg some (by kernel_rfl))
 f20 := ⟨Go.Proofs.Tryz.f189.name, by decide, Go.Proofs.Tryz.func189.trans (congrArg some (by kernel_rfl))⟩
 f21 := ⟨Go.Proofs.Tryz.f190.name, by decide, Go.Proofs.Tryz.func190.trans (congrArg some (by kernel_rfl))⟩
 f22 := ⟨Go.Proofs.Tryz.f191.name, by decide, Go.Proofs.Tryz.func191.trans (congrArg some (by kernel_rfl))⟩
 f23 := ⟨Go.Proofs.Tryz.f192.name, by decide, Go.Proofs.Tryz.func192.trans (congrArg some (by kernel_rfl))⟩
 f24 := ⟨Go.Proofs.Tryz.f193.name, by decide, Go.Proofs.Tryz.func193.trans (congrArg some (by kernel_rfl))⟩
 f25 := ⟨Go.Proofs.Tryz.f194.name, by decide, Go.Proofs.Tryz.func194.trans (congrArg some (by kernel_rfl))⟩
 f26 := ⟨Go.Proofs.Tryz.f195.name, by decide, Go.Proofs.Tryz.func195.trans (congrArg some (by kernel_rfl))⟩
 f27 := ⟨Go.Proofs.Tryz.f196.name, by decide, Go.Proofs.Tryz.func196.trans (congrArg some (by kernel_rfl))⟩
 f28 := Go.Proofs.Tryz.func186.trans (congrArg some (by kernel_rfl))
 f29 := Go.Proofs.Tryz.func187.trans (congrArg some (by kernel_rfl))
 f46 := ⟨Go.Proofs.Tryz.f238.name, by decide, Go.Proofs.Tryz.func238.trans (congrArg some (by kernel_rfl))⟩
 f47 := Go.Proofs.Tryz.func230.trans (congrArg some (by kernel_rfl))
 f48 := Go.Proofs.Tryz.func231.trans (congrArg some (by kernel_rfl))
 f49 := ⟨Go.Proofs.Tryz.f239.name, by decide, Go.Proofs.Tryz.func239.trans (congrArg some (by kernel_rfl))⟩
 f50 := ⟨Go.Proofs.Tryz.f240.name, by decide, Go.Proofs.Tryz.func240.trans (congrArg some (by kernel_rfl))⟩
 f57 := ⟨Go.Proofs.Tryz.f262.name, by decide, Go.Proofs.Tryz.func262.trans (congrArg some (by kernel_rfl))⟩
 t0 := Go.Proofs.Tryz.underlying0
 a0 := Go.Proofs.Tryz.isAgg0
 z0 := Go.Proofs.Tryz.sizeOf0
 v0 := Go.Proofs.Tryz.zeroValue0
 t3 := Go.Proofs.Tryz.underlying3
 a3 := Go.Proofs.Tryz.isAgg3
 z3 := Go.Proofs.Tryz.sizeOf3
 v3 := Go.Proofs.Tryz.zeroValue3
 t4 := Go.Proofs.Tryz.underlying4
 a4 := Go.Proofs.Tryz.isAgg4
 z4 := Go.Proofs.Tryz.sizeOf4
 v4 := Go.Proofs.Tryz.zeroValue4
 t5 := Go.Proofs.Tryz.underlying5
 a5 := Go.Proofs.Tryz.isAgg5
 z5 := Go.Proofs.Tryz.sizeOf5
 v5 := Go.Proofs.Tryz.zeroValue5
 t9 := Go.Proofs.Tryz.underlying9
 a9 := Go.Proofs.Tryz.isAgg9
 z9 := Go.Proofs.Tryz.sizeOf9
 v9 := Go.Proofs.Tryz.zeroValue9
 t22 := Go.Proofs.Tryz.underlying56
 a22 := Go.Proofs.Tryz.isAgg56
 z22 := Go.Proofs.Tryz.sizeOf56
 v22 := Go.Proofs.Tryz.zeroValue56
 t25 := Go.Proofs.Tryz.underlying127
 a25 := Go.Proofs.Tryz.isAgg127
 z25 := Go.Proofs.Tryz.sizeOf127
 v25 := Go.Proofs.Tryz.zeroValue127
 t39 := Go.Proofs.Tryz.underlying172
 a39 := Go.Proofs.Tryz.isAgg172
 z39 := Go.Proofs.Tryz.sizeOf172
 v39 := Go.Proofs.Tryz.zeroValue172
 t45 := Go.Proofs.Tryz.underlying215
 a45 := Go.Proofs.Tryz.isAgg215
 z45 := Go.Proofs.Tryz.sizeOf215
 v45 := Go.Proofs.Tryz.zeroValue215
 t46 := Go.Proofs.Tryz.underlying216
 a46 := Go.Proofs.Tryz.isAgg216
 z46 := Go.Proofs.Tryz.sizeOf216
 v46 := Go.Proofs.Tryz.zeroValue216
 t50 := Go.Proofs.Tryz.underlying220
 a50 := Go.Proofs.Tryz.isAgg220
 z50 := Go.Proofs.Tryz.sizeOf220
 v50 := Go.Proofs.Tryz.zeroValue220
 t53 := Go.Proofs.Tryz.underlying223
 a53 := Go.Proofs.Tryz.isAgg223
 z53 := Go.Proofs.Tryz.sizeOf223
 v53 := Go.Proofs.Tryz.zeroValue223
 t55 := Go.Proofs.Tryz.underlying225
 a55 := Go.Proofs.Tryz.isAgg225
 z55 := Go.Proofs.Tryz.sizeOf225
 v55 := Go.Proofs.Tryz.zeroValue225
 t66 := Go.Proofs.Tryz.underlying250
 a66 := Go.Proofs.Tryz.isAgg250
 z66 := Go.Proofs.Tryz.sizeOf250
 v66 := Go.Proofs.Tryz.zeroValue250
 t70 := Go.Proofs.Tryz.underlying254
 a70 := Go.Proofs.Tryz.isAgg254
 z70 := Go.Proofs.Tryz.sizeOf254
 v70 := Go.Proofs.Tryz.zeroValue254
 t76 := Go.Proofs.Tryz.underlying273
 a76 := Go.Proofs.Tryz.isAgg273
 z76 := Go.Proofs.Tryz.sizeOf273
 v76 := Go.Proofs.Tryz.zeroValue273
 t77 := Go.Proofs.Tryz.underlying274
 a77 := Go.Proofs.Tryz.isAgg274
 z77 := Go.Proofs.Tryz.sizeOf274
 v77 := Go.Proofs.Tryz.zeroValue274 }

theorem lays_Extra : Builder.Extra Go.Proofs.Tryz.prog lays_n156_ren := {
 sizeBuilder := by kernel_rfl
 liesBuilder := by kernel_rfl
 t5 := Go.Proofs.Tryz.underlying5
 a5 := Go.Proofs.Tryz.isAgg5
 z5 := Go.Proofs.Tryz.sizeOf5
 v5 := Go.Proofs.Tryz.zeroValue5
 infoByte := by kernel_rfl
 cellsByte := by kernel_rfl
 sizeByte := by kernel_rfl
 neB5 := by decide }

theorem cw_szIntS {a0 : (List Int)} {a1 : Int} {r : Int} (H : Dw_szIntS a0 a1 = some r) : Ct X.P X.gl 16 [sl 1 I a0, I a1] [] (RI r) [] :=
 Ct.of func16 (c := bdy f16) (by kernel_rfl) (by kernel_rfl) <|
 gS [r0, r0] (by kernel_rfl) P0 <|
 eIf H (fun h1 H =>
 eW RI (fun _ => []) H<|gE func16 [rg [hT 1], r0] (by kernel_rfl) (P2 ((decide ((IntKind.wrap .i64 (a1 - ((a0.length : Nat) : Int))) < 0)) = true) (decide_eq_true h1)<|P0))
 (fun h1 H =>
 eW RI (fun _ => []) H<|gE func16 [rg [hF 1], r0] (by kernel_rfl) (P2 ((decide ((IntKind.wrap .i64 (a1 - ((a0.length : Nat) : Int))) < 0)) = false) (decide_eq_false h1)<|P0))
theorem cw_szTerrain {a0 : Gw_Terrain} {a1 : Int} {r : Int} (H : Dw_szTerrain a0 a1 = some r) : Ct X.P X.gl 139 [gw_Terrain a0, I a1] [] (RI r) [] :=
 Ct.of func139 (c := bdy f139) (by kernel_rfl) (by kernel_rfl) <|
 gS [r0, r0] (by kernel_rfl) P0 <|
 eIf H (fun h1 H =>
 eW RI (fun _ => []) H<|gE func139 [rg [hT 1], r0] (by kernel_rfl) (P2 ((decide ((IntKind.wrap .i64 (a1 - ((ByteArray.size a0.Name : Nat) : Int))) < 0)) = true) (decide_eq_true h1)<|P0))
 (fun h1 H =>
 eBind H fun r2 hr2 H =>
 gS [rg [hF 1], rg [hC 3 true [] (RI r2) []]] (by kernel_rfl) (P2 ((decide ((IntKind.wrap .i64 (a1 - ((ByteArray.size a0.Name : Nat) : Int))) < 0)) = false) (decide_eq_false h1)<|P1 (cw_szIntS hr2)<|P0) <|
 eIf H (fun h3 H =>
 eW RI (fun _ => []) H<|gE func139 [rg [hT 1], r0] (by kernel_rfl) (P2 ((decide (r2 < 0)) = true) (decide_eq_true h3)<|P0))
 (fun h3 H =>
 eW RI (fun _ => []) H<|gE func139 [rg [hF 1], r0] (by kernel_rfl) (P2 ((decide (r2 < 0)) = false) (decide_eq_false h3)<|P0)))
noncomputable def Kw_szTerrainS : Sw_szTerrainS → List Item
 | .h1 .. => nav 300 4 [false] [.code (bdy f90)]
def Zw_szTerrainS : Sw_szTerrainS → St
 | .h1 va0 left1 i2 => ⟨sts 27 [(0, sl 5 gw_Terrain va0), (1, I left1), (5, I i2)], []⟩
abbrev Qw_szTerrainS := Nx X 90 0 Kw_szTerrainS Zw_szTerrainS RI (fun _ => [])
theorem nw_szTerrainS : ∀ s o, Bw_szTerrainS s = some o → Qw_szTerrainS (Kw_szTerrainS s) (Zw_szTerrainS s) o
 | .h1 va0 left1 i2, o, H =>
  eIf H (fun h1 H =>
  eCk H fun h2 H =>
  eBind H fun x3 hx3 H =>
  eBind H fun r4 hr4 H =>
  gN [rg [hT 3], rg [hE 3 (gw_Terrain x3), hC 5 true [] (RI r4) []]] (by kernel_rfl) (P2 ((decide (i2 < ((va0.length : Nat) : Int))) = true) (decide_eq_true h1)<|P1 h2<|P1 (int_lt_of_at h2 hx3)<|P1 (at_map gw_Terrain hx3)<|P1 (cw_szTerrain hr4)<|P0) <|
  eIf H (fun h5 H =>
  eN H<|gE func90 [rg [hT 1], r0] (by kernel_rfl) (P2 ((decide (r4 < 0)) = true) (decide_eq_true h5)<|P0))
  (fun h5 H =>
  eN H fun r hn => gO [rg [hF 1], r0, .canon [] [0, 1, 5]] (by kernel_rfl) (P2 ((decide (r4 < 0)) = false) (decide_eq_false h5)<|P0) hn))
  (fun h1 H =>
  eN H<|gE func90 [rg [hF 3], r0] (by kernel_rfl) (P2 ((decide (i2 < ((va0.length : Nat) : Int))) = false) (decide_eq_false h1)<|P0))
theorem ww_szTerrainS : ∀ s r, loop Bw_szTerrainS s = some r → Wc X 90 0 (Kw_szTerrainS s) (Zw_szTerrainS s) (RI r) ((fun _ => []) r) := Nx.all (nw_szTerrainS)
theorem cw_szTerrainS {a0 : (List Gw_Terrain)} {a1 : Int} {r : Int} (H : Dw_szTerrainS a0 a1 = some r) : Ct X.P X.gl 90 [sl 5 gw_Terrain a0, I a1] [] (RI r) [] :=
 Ct.of func90 (c := bdy f90) (by kernel_rfl) (by kernel_rfl) <|
 gS [r0, r0] (by kernel_rfl) P0 <|
 eIf H (fun h1 H =>
 eW RI (fun _ => []) H<|gE func90 [rg [hT 1], r0] (by kernel_rfl) (P2 ((decide ((IntKind.wrap .i64 (a1 - ((a0.length : Nat) : Int))) < 0)) = true) (decide_eq_true h1)<|P0))
 (fun h1 H =>
 gO [rg [hF 1], r0, .canon [] [0, 1, 5]] (by kernel_rfl) (P2 ((decide ((IntKind.wrap .i64 (a1 - ((a0.length : Nat) : Int))) < 0)) = false) (decide_eq_false h1)<|P0) (ww_szTerrainS _ _ H))
theorem cw_szKind {a0 : Gw_Kind} {a1 : Int} {r : Int} (H : Dw_szKind a0 a1 = some r) : Ct X.P X.gl 140 [gw_Kind a0, I a1] [] (RI r) [] :=
 Ct.of func140 (c := bdy f140) (by kernel_rfl) (by kernel_rfl) <|
 gS [r0, r0] (by kernel_rfl) P0 <|
 eIf H (fun h1 H =>
 eW RI (fun _ => []) H<|gE func140 [rg [hT 1], r0] (by kernel_rfl) (P2 ((decide ((IntKind.wrap .i64 (a1 - ((ByteArray.size a0.Name : Nat) : Int))) < 0)) = true) (decide_eq_true h1)<|P0))
 (fun h1 H =>
 eW RI (fun _ => []) H<|gE func140 [rg [hF 1], r0] (by kernel_rfl) (P2 ((decide ((IntKind.wrap .i64 (a1 - ((ByteArray.size a0.Name : Nat) : Int))) < 0)) = false) (decide_eq_false h1)<|P0))
noncomputable def Kw_szKindS : Sw_szKindS → List Item
 | .h1 .. => nav 300 4 [false] [.code (bdy f91)]
def Zw_szKindS : Sw_szKindS → St
 | .h1 va0 left1 i2 => ⟨sts 27 [(0, sl 6 gw_Kind va0), (1, I left1), (5, I i2)], []⟩
abbrev Qw_szKindS := Nx X 91 0 Kw_szKindS Zw_szKindS RI (fun _ => [])
theorem nw_szKindS : ∀ s o, Bw_szKindS s = some o → Qw_szKindS (Kw_szKindS s) (Zw_szKindS s) o
 | .h1 va0 left1 i2, o, H =>
  eIf H (fun h1 H =>
  eCk H fun h2 H =>
  eBind H fun x3 hx3 H =>
  eBind H fun r4 hr4 H =>
  gN [rg [hT 3], rg [hE 3 (gw_Kind x3), hC 5 true [] (RI r4) []]] (by kernel_rfl) (P2 ((decide (i2 < ((va0.length : Nat) : Int))) = true) (decide_eq_true h1)<|P1 h2<|P1 (int_lt_of_at h2 hx3)<|P1 (at_map gw_Kind hx3)<|P1 (cw_szKind hr4)<|P0) <|
  eIf H (fun h5 H =>
  eN H<|gE func91 [rg [hT 1], r0] (by kernel_rfl) (P2 ((decide (r4 < 0)) = true) (decide_eq_true h5)<|P0))
  (fun h5 H =>
  eN H fun r hn => gO [rg [hF 1], r0, .canon [] [0, 1, 5]] (by kernel_rfl) (P2 ((decide (r4 < 0)) = false) (decide_eq_false h5)<|P0) hn))
  (fun h1 H =>
  eN H<|gE func91 [rg [hF 3], r0] (by kernel_rfl) (P2 ((decide (i2 < ((va0.length : Nat) : Int))) = false) (decide_eq_false h1)<|P0))
theorem ww_szKindS : ∀ s r, loop Bw_szKindS s = some r → Wc X 91 0 (Kw_szKindS s) (Zw_szKindS s) (RI r) ((fun _ => []) r) := Nx.all (nw_szKindS)
theorem cw_szKindS {a0 : (List Gw_Kind)} {a1 : Int} {r : Int} (H : Dw_szKindS a0 a1 = some r) : Ct X.P X.gl 91 [sl 6 gw_Kind a0, I a1] [] (RI r) [] :=
 Ct.of func91 (c := bdy f91) (by kernel_rfl) (by kernel_rfl) <|
 gS [r0, r0] (by kernel_rfl) P0 <|
 eIf H (fun h1 H =>
 eW RI (fun _ => []) H<|gE func91 [rg [hT 1], r0] (by kernel_rfl) (P2 ((decide ((IntKind.wrap .i64 (a1 - ((a0.length : Nat) : Int))) < 0)) = true) (decide_eq_true h1)<|P0))
 (fun h1 H =>
 gO [rg [hF 1], r0, .canon [] [0, 1, 5]] (by kernel_rfl) (P2 ((decide ((IntKind.wrap .i64 (a1 - ((a0.length : Nat) : Int))) < 0)) = false) (decide_eq_false h1)<|P0) (ww_szKindS _ _ H))
theorem cw_szRules {a0 : Gw_Rules} {a1 : Int} {r : Int} (H : Dw_szRules a0 a1 = some r) : Ct X.P X.gl 44 [gw_Rules a0, I a1] [] (RI r) [] :=
 Ct.of func44 (c := bdy f44) (by kernel_rfl) (by kernel_rfl) <|
 eBind H fun r1 hr1 H =>
 gS [r0, rg [hC 3 true [] (RI r1) []]] (by kernel_rfl) (P1 (cw_szTerrainS hr1)<|P0) <|
 eIf H (fun h2 H =>
 eW RI (fun _ => []) H<|gE func44 [rg [hT 1], r0] (by kernel_rfl) (P2 ((decide (r1 < 0)) = true) (decide_eq_true h2)<|P0))
 (fun h2 H =>
 eBind H fun r3 hr3 H =>
 gS [rg [hF 1], rg [hC 3 true [] (RI r3) []]] (by kernel_rfl) (P2 ((decide (r1 < 0)) = false) (decide_eq_false h2)<|P1 (cw_szKindS hr3)<|P0) <|
 eIf H (fun h4 H =>
 eW RI (fun _ => []) H<|gE func44 [rg [hT 1], r0] (by kernel_rfl) (P2 ((decide (r3 < 0)) = true) (decide_eq_true h4)<|P0))
 (fun h4 H =>
 eW RI (fun _ => []) H<|gE func44 [rg [hF 1], r0] (by kernel_rfl) (P2 ((decide (r3 < 0)) = false) (decide_eq_false h4)<|P0)))
theorem cw_szMap {a0 : Gw_Map} {a1 : Int} {r : Int} (H : Dw_szMap a0 a1 = some r) : Ct X.P X.gl 45 [gw_Map a0, I a1] [] (RI r) [] :=
 Ct.of func45 (c := bdy f45) (by kernel_rfl) (by kernel_rfl) <|
 eBind H fun r1 hr1 H =>
 gS [r0, rg [hC 3 true [] (RI r1) []]] (by kernel_rfl) (P1 (cw_szIntS hr1)<|P0) <|
 eIf H (fun h2 H =>
 eW RI (fun _ => []) H<|gE func45 [rg [hT 1], r0] (by kernel_rfl) (P2 ((decide (r1 < 0)) = true) (decide_eq_true h2)<|P0))
 (fun h2 H =>
 eBind H fun r3 hr3 H =>
 gS [rg [hF 1], rg [hC 3 true [] (RI r3) []]] (by kernel_rfl) (P2 ((decide (r1 < 0)) = false) (decide_eq_false h2)<|P1 (cw_szIntS hr3)<|P0) <|
 eIf H (fun h4 H =>
 eW RI (fun _ => []) H<|gE func45 [rg [hT 1], r0] (by kernel_rfl) (P2 ((decide (r3 < 0)) = true) (decide_eq_true h4)<|P0))
 (fun h4 H =>
 eBind H fun r5 hr5 H =>
 gS [rg [hF 1], rg [hC 3 true [] (RI r5) []]] (by kernel_rfl) (P2 ((decide (r3 < 0)) = false) (decide_eq_false h4)<|P1 (cw_szIntS hr5)<|P0) <|
 eIf H (fun h6 H =>
 eW RI (fun _ => []) H<|gE func45 [rg [hT 1], r0] (by kernel_rfl) (P2 ((decide (r5 < 0)) = true) (decide_eq_true h6)<|P0))
 (fun h6 H =>
 eW RI (fun _ => []) H<|gE func45 [rg [hF 1], r0] (by kernel_rfl) (P2 ((decide (r5 < 0)) = false) (decide_eq_false h6)<|P0))))
theorem cw_szBoard {a0 : Gw_Board} {a1 : Int} {r : Int} (H : Dw_szBoard a0 a1 = some r) : Ct X.P X.gl 12 [gw_Board a0, I a1] [] (RI r) [] :=
 Ct.of func12 (c := bdy f12) (by kernel_rfl) (by kernel_rfl) <|
 eBind H fun r1 hr1 H =>
 gS [r0, rg [hC 3 true [] (RI r1) []]] (by kernel_rfl) (P1 (cw_szRules hr1)<|P0) <|
 eIf H (fun h2 H =>
 eW RI (fun _ => []) H<|gE func12 [rg [hT 1], r0] (by kernel_rfl) (P2 ((decide (r1 < 0)) = true) (decide_eq_true h2)<|P0))
 (fun h2 H =>
 eBind H fun r3 hr3 H =>
 gS [rg [hF 1], rg [hC 3 true [] (RI r3) []]] (by kernel_rfl) (P2 ((decide (r1 < 0)) = false) (decide_eq_false h2)<|P1 (cw_szMap hr3)<|P0) <|
 eIf H (fun h4 H =>
 eW RI (fun _ => []) H<|gE func12 [rg [hT 1], r0] (by kernel_rfl) (P2 ((decide (r3 < 0)) = true) (decide_eq_true h4)<|P0))
 (fun h4 H =>
 eW RI (fun _ => []) H<|gE func12 [rg [hF 1], r0] (by kernel_rfl) (P2 ((decide (r3 < 0)) = false) (decide_eq_false h4)<|P0)))
theorem cw_szOddsS {a0 : (List Gw_Odds)} {a1 : Int} {r : Int} (H : Dw_szOddsS a0 a1 = some r) : Ct X.P X.gl 46 [sl 2 gw_Odds a0, I a1] [] (RI r) [] :=
 Ct.of func46 (c := bdy f46) (by kernel_rfl) (by kernel_rfl) <|
 gS [r0, r0] (by kernel_rfl) P0 <|
 eIf H (fun h1 H =>
 eW RI (fun _ => []) H<|gE func46 [rg [hT 1], r0] (by kernel_rfl) (P2 ((decide ((IntKind.wrap .i64 (a1 - ((a0.length : Nat) : Int))) < 0)) = true) (decide_eq_true h1)<|P0))
 (fun h1 H =>
 eW RI (fun _ => []) H<|gE func46 [rg [hF 1], r0] (by kernel_rfl) (P2 ((decide ((IntKind.wrap .i64 (a1 - ((a0.length : Nat) : Int))) < 0)) = false) (decide_eq_false h1)<|P0))
noncomputable def Kw_szIntSS : Sw_szIntSS → List Item
 | .h1 .. => nav 300 4 [false] [.code (bdy f47)]
def Zw_szIntSS : Sw_szIntSS → St
 | .h1 va0 left1 i2 => ⟨sts 27 [(0, sl 1 (sl 1 I) va0), (1, I left1), (5, I i2)], []⟩
abbrev Qw_szIntSS := Nx X 47 0 Kw_szIntSS Zw_szIntSS RI (fun _ => [])
theorem nw_szIntSS : ∀ s o, Bw_szIntSS s = some o → Qw_szIntSS (Kw_szIntSS s) (Zw_szIntSS s) o
 | .h1 va0 left1 i2, o, H =>
  eIf H (fun h1 H =>
  eCk H fun h2 H =>
  eBind H fun x3 hx3 H =>
  eBind H fun r4 hr4 H =>
  gN [rg [hT 3], rg [hE 3 ((sl 1 I) x3), hC 5 true [] (RI r4) []]] (by kernel_rfl) (P2 ((decide (i2 < ((va0.length : Nat) : Int))) = true) (decide_eq_true h1)<|P1 h2<|P1 (int_lt_of_at h2 hx3)<|P1 (at_map (sl 1 I) hx3)<|P1 (cw_szIntS hr4)<|P0) <|
  eIf H (fun h5 H =>
  eN H<|gE func47 [rg [hT 1], r0] (by kernel_rfl) (P2 ((decide (r4 < 0)) = true) (decide_eq_true h5)<|P0))
  (fun h5 H =>
  eN H fun r hn => gO [rg [hF 1], r0, .canon [] [0, 1, 5]] (by kernel_rfl) (P2 ((decide (r4 < 0)) = false) (decide_eq_false h5)<|P0) hn))
  (fun h1 H =>
  eN H<|gE func47 [rg [hF 3], r0] (by kernel_rfl) (P2 ((decide (i2 < ((va0.length : Nat) : Int))) = false) (decide_eq_false h1)<|P0))
theorem ww_szIntSS : ∀ s r, loop Bw_szIntSS s = some r → Wc X 47 0 (Kw_szIntSS s) (Zw_szIntSS s) (RI r) ((fun _ => []) r) := Nx.all (nw_szIntSS)
theorem cw_szIntSS {a0 : (List (List Int))} {a1 : Int} {r : Int} (H : Dw_szIntSS a0 a1 = some r) : Ct X.P X.gl 47 [sl 1 (sl 1 I) a0, I a1] [] (RI r) [] :=
 Ct.of func47 (c := bdy f47) (by kernel_rfl) (by kernel_rfl) <|
 gS [r0, r0] (by kernel_rfl) P0 <|
 eIf H (fun h1 H =>
 eW RI (fun _ => []) H<|gE func47 [rg [hT 1], r0] (by kernel_rfl) (P2 ((decide ((IntKind.wrap .i64 (a1 - ((a0.length : Nat) : Int))) < 0)) = true) (decide_eq_true h1)<|P0))
 (fun h1 H =>
 gO [rg [hF 1], r0, .canon [] [0, 1, 5]] (by kernel_rfl) (P2 ((decide ((IntKind.wrap .i64 (a1 - ((a0.length : Nat) : Int))) < 0)) = false) (decide_eq_false h1)<|P0) (ww_szIntSS _ _ H))
theorem cw_szCombatTable {a0 : Gw_CombatTable} {a1 : Int} {r : Int} (H : Dw_szCombatTable a0 a1 = some r) : Ct X.P X.gl 13 [gw_CombatTable a0, I a1] [] (RI r) [] :=
 Ct.of func13 (c := bdy f13) (by kernel_rfl) (by kernel_rfl) <|
 eBind H fun r1 hr1 H =>
 gS [r0, rg [hC 3 true [] (RI r1) []]] (by kernel_rfl) (P1 (cw_szOddsS hr1)<|P0) <|
 eIf H (fun h2 H =>
 eW RI (fun _ => []) H<|gE func13 [rg [hT 1], r0] (by kernel_rfl) (P2 ((decide (r1 < 0)) = true) (decide_eq_true h2)<|P0))
 (fun h2 H =>
 eBind H fun r3 hr3 H =>
 gS [rg [hF 1], rg [hC 3 true [] (RI r3) []]] (by kernel_rfl) (P2 ((decide (r1 < 0)) = false) (decide_eq_false h2)<|P1 (cw_szIntSS hr3)<|P0) <|
 eIf H (fun h4 H =>
 eW RI (fun _ => []) H<|gE func13 [rg [hT 1], r0] (by kernel_rfl) (P2 ((decide (r3 < 0)) = true) (decide_eq_true h4)<|P0))
 (fun h4 H =>
 eW RI (fun _ => []) H<|gE func13 [rg [hF 1], r0] (by kernel_rfl) (P2 ((decide (r3 < 0)) = false) (decide_eq_false h4)<|P0)))
theorem cw_szUnitS {a0 : (List Gw_Unit)} {a1 : Int} {r : Int} (H : Dw_szUnitS a0 a1 = some r) : Ct X.P X.gl 48 [sl 4 gw_Unit a0, I a1] [] (RI r) [] :=
 Ct.of func48 (c := bdy f48) (by kernel_rfl) (by kernel_rfl) <|
 gS [r0, r0] (by kernel_rfl) P0 <|
 eIf H (fun h1 H =>
 eW RI (fun _ => []) H<|gE func48 [rg [hT 1], r0] (by kernel_rfl) (P2 ((decide ((IntKind.wrap .i64 (a1 - ((a0.length : Nat) : Int))) < 0)) = true) (decide_eq_true h1)<|P0))
 (fun h1 H =>
 eW RI (fun _ => []) H<|gE func48 [rg [hF 1], r0] (by kernel_rfl) (P2 ((decide ((IntKind.wrap .i64 (a1 - ((a0.length : Nat) : Int))) < 0)) = false) (decide_eq_false h1)<|P0))
theorem cw_szState {a0 : Gw_State} {a1 : Int} {r : Int} (H : Dw_szState a0 a1 = some r) : Ct X.P X.gl 14 [gw_State a0, I a1] [] (RI r) [] :=
 Ct.of func14 (c := bdy f14) (by kernel_rfl) (by kernel_rfl) <|
 eBind H fun r1 hr1 H =>
 gS [r0, rg [hC 3 true [] (RI r1) []]] (by kernel_rfl) (P1 (cw_szUnitS hr1)<|P0) <|
 eIf H (fun h2 H =>
 eW RI (fun _ => []) H<|gE func14 [rg [hT 1], r0] (by kernel_rfl) (P2 ((decide (r1 < 0)) = true) (decide_eq_true h2)<|P0))
 (fun h2 H =>
 eW RI (fun _ => []) H<|gE func14 [rg [hF 1], r0] (by kernel_rfl) (P2 ((decide (r1 < 0)) = false) (decide_eq_false h2)<|P0))
theorem cw_szGoalS {a0 : (List Gw_Goal)} {a1 : Int} {r : Int} (H : Dw_szGoalS a0 a1 = some r) : Ct X.P X.gl 49 [sl 2 gw_Goal a0, I a1] [] (RI r) [] :=
 Ct.of func49 (c := bdy f49) (by kernel_rfl) (by kernel_rfl) <|
 gS [r0, r0] (by kernel_rfl) P0 <|
 eIf H (fun h1 H =>
 eW RI (fun _ => []) H<|gE func49 [rg [hT 1], r0] (by kernel_rfl) (P2 ((decide ((IntKind.wrap .i64 (a1 - ((a0.length : Nat) : Int))) < 0)) = true) (decide_eq_true h1)<|P0))
 (fun h1 H =>
 eW RI (fun _ => []) H<|gE func49 [rg [hF 1], r0] (by kernel_rfl) (P2 ((decide ((IntKind.wrap .i64 (a1 - ((a0.length : Nat) : Int))) < 0)) = false) (decide_eq_false h1)<|P0))
theorem cw_szConditions {a0 : Gw_Conditions} {a1 : Int} {r : Int} (H : Dw_szConditions a0 a1 = some r) : Ct X.P X.gl 15 [gw_Conditions a0, I a1] [] (RI r) [] :=
 Ct.of func15 (c := bdy f15) (by kernel_rfl) (by kernel_rfl) <|
 eBind H fun r1 hr1 H =>
 gS [r0, rg [hC 3 true [] (RI r1) []]] (by kernel_rfl) (P1 (cw_szGoalS hr1)<|P0) <|
 eIf H (fun h2 H =>
 eW RI (fun _ => []) H<|gE func15 [rg [hT 1], r0] (by kernel_rfl) (P2 ((decide (r1 < 0)) = true) (decide_eq_true h2)<|P0))
 (fun h2 H =>
 eW RI (fun _ => []) H<|gE func15 [rg [hF 1], r0] (by kernel_rfl) (P2 ((decide (r1 < 0)) = false) (decide_eq_false h2)<|P0))
theorem cw_szScenario {a0 : Gw_Scenario} {a1 : Int} {r : Int} (H : Dw_szScenario a0 a1 = some r) : Ct X.P X.gl 5 [gw_Scenario a0, I a1] [] (RI r) [] :=
 Ct.of func5 (c := bdy f5) (by kernel_rfl) (by kernel_rfl) <|
 gS [r0, r0] (by kernel_rfl) P0 <|
 eIf H (fun h1 H =>
 eW RI (fun _ => []) H<|gE func5 [rg [hT 1], r0] (by kernel_rfl) (P2 ((decide ((IntKind.wrap .i64 (a1 - ((ByteArray.size a0.Name : Nat) : Int))) < 0)) = true) (decide_eq_true h1)<|P0))
 (fun h1 H =>
 eBind H fun r2 hr2 H =>
 gS [rg [hF 1], rg [hC 3 true [] (RI r2) []]] (by kernel_rfl) (P2 ((decide ((IntKind.wrap .i64 (a1 - ((ByteArray.size a0.Name : Nat) : Int))) < 0)) = false) (decide_eq_false h1)<|P1 (cw_szBoard hr2)<|P0) <|
 eIf H (fun h3 H =>
 eW RI (fun _ => []) H<|gE func5 [rg [hT 1], r0] (by kernel_rfl) (P2 ((decide (r2 < 0)) = true) (decide_eq_true h3)<|P0))
 (fun h3 H =>
 eBind H fun r4 hr4 H =>
 gS [rg [hF 1], rg [hC 3 true [] (RI r4) []]] (by kernel_rfl) (P2 ((decide (r2 < 0)) = false) (decide_eq_false h3)<|P1 (cw_szCombatTable hr4)<|P0) <|
 eIf H (fun h5 H =>
 eW RI (fun _ => []) H<|gE func5 [rg [hT 1], r0] (by kernel_rfl) (P2 ((decide (r4 < 0)) = true) (decide_eq_true h5)<|P0))
 (fun h5 H =>
 eBind H fun r6 hr6 H =>
 gS [rg [hF 1], rg [hC 3 true [] (RI r6) []]] (by kernel_rfl) (P2 ((decide (r4 < 0)) = false) (decide_eq_false h5)<|P1 (cw_szState hr6)<|P0) <|
 eIf H (fun h7 H =>
 eW RI (fun _ => []) H<|gE func5 [rg [hT 1], r0] (by kernel_rfl) (P2 ((decide (r6 < 0)) = true) (decide_eq_true h7)<|P0))
 (fun h7 H =>
 eBind H fun r8 hr8 H =>
 gS [rg [hF 1], rg [hC 3 true [] (RI r8) []]] (by kernel_rfl) (P2 ((decide (r6 < 0)) = false) (decide_eq_false h7)<|P1 (cw_szConditions hr8)<|P0) <|
 eIf H (fun h9 H =>
 eW RI (fun _ => []) H<|gE func5 [rg [hT 1], r0] (by kernel_rfl) (P2 ((decide (r8 < 0)) = true) (decide_eq_true h9)<|P0))
 (fun h9 H =>
 eBind H fun r10 hr10 H =>
 gS [rg [hF 1], rg [hC 3 true [] (RI r10) []]] (by kernel_rfl) (P2 ((decide (r8 < 0)) = false) (decide_eq_false h9)<|P1 (cw_szIntS hr10)<|P0) <|
 eIf H (fun h11 H =>
 eW RI (fun _ => []) H<|gE func5 [rg [hT 1], r0] (by kernel_rfl) (P2 ((decide (r10 < 0)) = true) (decide_eq_true h11)<|P0))
 (fun h11 H =>
 eBind H fun r12 hr12 H =>
 gS [rg [hF 1], rg [hC 3 true [] (RI r12) []]] (by kernel_rfl) (P2 ((decide (r10 < 0)) = false) (decide_eq_false h11)<|P1 (cw_szIntS hr12)<|P0) <|
 eIf H (fun h13 H =>
 eW RI (fun _ => []) H<|gE func5 [rg [hT 1], r0] (by kernel_rfl) (P2 ((decide (r12 < 0)) = true) (decide_eq_true h13)<|P0))
 (fun h13 H =>
 eW RI (fun _ => []) H<|gE func5 [rg [hF 1], r0] (by kernel_rfl) (P2 ((decide (r12 < 0)) = false) (decide_eq_false h13)<|P0))))))))
def Rw_toIntS (r : (List Int)) : List D := [ow 1 I r]
noncomputable def Kw_toIntS : Sw_toIntS → List Item
 | .h1 .. => nav 300 3 [] [.code (bdy f23)]
def Zw_toIntS : Sw_toIntS → St
 | .h1 va0 i1 l2 => ⟨sts 22 [(0, sl 1 I va0), (3, .ref 0 1 none), (4, I i1)], [some ⟨false, false, 1, l2.length, List.map I l2⟩]⟩
abbrev Qw_toIntS := Nx X 23 0 Kw_toIntS Zw_toIntS Rw_toIntS (fun _ => [])
theorem nw_toIntS : ∀ s o, Bw_toIntS s = some o → Qw_toIntS (Kw_toIntS s) (Zw_toIntS s) o
 | .h1 va0 i1 l2, o, H =>
  eIf H (fun h1 H =>
  eCk H fun h2 H =>
  eBind H fun x3 hx3 H =>
  eCk H fun h4 H =>
  eBind H fun x5 hx5 H =>
  eN H fun r hn => gO [rg [hT 3], rg [hE 5 (I x3), hA 7 ((List.set l2 (Int.toNat i1) x3).length) (List.map I (List.set l2 (Int.toNat i1) x3))], r0, .canon [0] [0, 3, 4]] (by kernel_rfl) (P2 ((decide (i1 < ((va0.length : Nat) : Int))) = true) (decide_eq_true h1)<|P1 h2<|P1 (int_lt_of_at h2 hx3)<|P1 (at_map I hx3)<|P1 h4<|P1 (int_lt_of_at h4 hx5)<|P1 (lt_of_at hx5)<|P2 (setCells (List.map I l2) (Int.toNat i1) 0 [I x3] = List.map I (List.set l2 (Int.toNat i1) x3)) (setCells_map hx5 rfl)<|P1 (setLen l2 (Int.toNat i1) x3)<|P0) hn)
  (fun h1 H =>
  eN H<|gE func23 [rg [hF 3], r0] (by kernel_rfl) (P2 ((decide (i1 < ((va0.length : Nat) : Int))) = false) (decide_eq_false h1)<|P0))
theorem ww_toIntS : ∀ s r, loop Bw_toIntS s = some r → Wc X 23 0 (Kw_toIntS s) (Zw_toIntS s) (Rw_toIntS r) ((fun _ => []) r) := Nx.all (nw_toIntS)
theorem cw_toIntS {a0 : (List Int)} {r : (List Int)} (H : Dw_toIntS a0 = some r) : Ct X.P X.gl 23 [sl 1 I a0] [] (Rw_toIntS r) [] :=
 Ct.of func23 (c := bdy f23) (by kernel_rfl) (by kernel_rfl) <|
 eCk H fun h1 H =>
 gO [r0, rg [hA 2 ((List.replicate (Int.toNat ((a0.length : Nat) : Int)) (0 : Int)).length) (List.map I (List.replicate (Int.toNat ((a0.length : Nat) : Int)) (0 : Int)))], r0, .canon [0] [0, 3, 4]] (by kernel_rfl) (PI (((a0.length : Nat) : Int) : Int)<|P2 ((0 : Int) ≤ ((a0.length : Nat) : Int)) (by omega)<|P2 (Int.toNat ((a0.length : Nat) : Int) * 8 ≤ 140737488355328) h1<|P1 (repLen (Int.toNat ((a0.length : Nat) : Int)) (0 : Int))<|P1 (repMap I (Int.toNat ((a0.length : Nat) : Int)) (0 : Int))<|P0) (ww_toIntS _ _ H)
def Rw_toTerrain (r : Gi_Terrain) : List D := [.agg [.str r.Name, ow 1 I r.Cost, I r.Shift, I r.Height, .bool r.Blocks]]
theorem cw_toTerrain {a0 : Gw_Terrain} {r : Gi_Terrain} (H : Dw_toTerrain a0 = some r) : Ct X.P X.gl 150 [gw_Terrain a0] [] (Rw_toTerrain r) [] :=
 Ct.of func150 (c := bdy f150) (by kernel_rfl) (by kernel_rfl) <|
 eBind H fun r1 hr1 H =>
 eW Rw_toTerrain (fun _ => []) H<|gE func150 [r0, r0, r0, rg [hC 2 true [] (Rw_toIntS r1) []], r0, r0, r0, r0] (by kernel_rfl) (P1 (cw_toIntS hr1)<|P0)
def Rw_toTerrainS (r : (List Gi_Terrain)) : List D := [ow 5 goi_Terrain r]
noncomputable def Kw_toTerrainS : Sw_toTerrainS → List Item
 | .h1 .. => nav 300 3 [] [.code (bdy f99)]
def Zw_toTerrainS : Sw_toTerrainS → St
 | .h1 va0 i1 l2 => ⟨sts 23 [(0, sl 5 gw_Terrain va0), (3, .ref 0 5 none), (4, I i1)], [some ⟨false, false, 5, l2.length, List.map goi_Terrain l2⟩]⟩
abbrev Qw_toTerrainS := Nx X 99 0 Kw_toTerrainS Zw_toTerrainS Rw_toTerrainS (fun _ => [])
theorem nw_toTerrainS : ∀ s o, Bw_toTerrainS s = some o → Qw_toTerrainS (Kw_toTerrainS s) (Zw_toTerrainS s) o
 | .h1 va0 i1 l2, o, H =>
  eIf H (fun h1 H =>
  eCk H fun h2 H =>
  eBind H fun x3 hx3 H =>
  eBind H fun r4 hr4 H =>
  eCk H fun h5 H =>
  eBind H fun x6 hx6 H =>
  eN H fun r hn => gO [rg [hT 3], rg [hE 5 (gw_Terrain x3), hC 6 true [] (Rw_toTerrain r4) [], { i := 8, xs := List.set (List.map goi_Terrain l2) (Int.toNat i1) (.agg [.str r4.Name, .ref 2 1 none, I r4.Shift, I r4.Height, .bool r4.Blocks]), post := [.put 0 (Int.toNat i1) 1 2 (List.map goi_Terrain (List.set l2 (Int.toNat i1) r4)), .own 0 (List.set l2 (Int.toNat i1) r4).length] }], r0, .canon [0] [0, 3, 4]] (by kernel_rfl) (P2 ((decide (i1 < ((va0.length : Nat) : Int))) = true) (decide_eq_true h1)<|P1 h2<|P1 (int_lt_of_at h2 hx3)<|P1 (at_map gw_Terrain hx3)<|P1 (cw_toTerrain hr4)<|P1 h5<|P1 (int_lt_of_at h5 hx6)<|P1 (lt_of_at hx6)<|P2 (setCells (List.map goi_Terrain l2) (Int.toNat i1) 0 [.str r4.Name, .ref 2 1 none, I r4.Shift, I r4.Height, .bool r4.Blocks] = List.set (List.map goi_Terrain l2) (Int.toNat i1) (.agg [.str r4.Name, .ref 2 1 none, I r4.Shift, I r4.Height, .bool r4.Blocks])) (setCells_mapD hx6 rfl)<|P2 (getCells (List.set (List.map goi_Terrain l2) (Int.toNat i1) (.agg [.str r4.Name, .ref 2 1 none, I r4.Shift, I r4.Height, .bool r4.Blocks])) (Int.toNat i1) 1 1 = some [.ref 2 1 none]) (getCells_set hx6 rfl)<|P2 (setCells (List.set (List.map goi_Terrain l2) (Int.toNat i1) (.agg [.str r4.Name, .ref 2 1 none, I r4.Shift, I r4.Height, .bool r4.Blocks])) (Int.toNat i1) 1 [ow 1 I r4.Cost] = List.map goi_Terrain (List.set l2 (Int.toNat i1) r4)) (setCells_set hx6 rfl)<|P1 (allOw_186 (List.set l2 (Int.toNat i1) r4))<|P1 (setLen l2 (Int.toNat i1) r4)<|P0) hn)
  (fun h1 H =>
  eN H<|gE func99 [rg [hF 3], r0] (by kernel_rfl) (P2 ((decide (i1 < ((va0.length : Nat) : Int))) = false) (decide_eq_false h1)<|P0))
theorem ww_toTerrainS : ∀ s r, loop Bw_toTerrainS s = some r → Wc X 99 0 (Kw_toTerrainS s) (Zw_toTerrainS s) (Rw_toTerrainS r) ((fun _ => []) r) := Nx.all (nw_toTerrainS)
theorem cw_toTerrainS {a0 : (List Gw_Terrain)} {r : (List Gi_Terrain)} (H : Dw_toTerrainS a0 = some r) : Ct X.P X.gl 99 [sl 5 gw_Terrain a0] [] (Rw_toTerrainS r) [] :=
 Ct.of func99 (c := bdy f99) (by kernel_rfl) (by kernel_rfl) <|
 eCk H fun h1 H =>
 gO [r0, rg [{ i := 2, n := (List.replicate (Int.toNat ((a0.length : Nat) : Int)) (Gi_Terrain.mk ⟨#[]⟩ [] 0 0 false)).length, xs := List.replicate (Int.toNat ((a0.length : Nat) : Int)) (.agg [.str ⟨#[]⟩, .nil, I 0, I 0, .bool false] : D), post := [.nils 0 (List.map goi_Terrain (List.replicate (Int.toNat ((a0.length : Nat) : Int)) (Gi_Terrain.mk ⟨#[]⟩ [] 0 0 false)))] }], r0, .canon [0] [0, 3, 4]] (by kernel_rfl) (PI (((a0.length : Nat) : Int) : Int)<|P2 ((0 : Int) ≤ ((a0.length : Nat) : Int)) (by omega)<|P2 (Int.toNat ((a0.length : Nat) : Int) * 64 ≤ 140737488355328) h1<|P1 (repLen (Int.toNat ((a0.length : Nat) : Int)) (Gi_Terrain.mk ⟨#[]⟩ [] 0 0 false))<|P2 (List.replicate (Int.toNat ((a0.length : Nat) : Int)) (.agg [.str ⟨#[]⟩, .nil, I 0, I 0, .bool false] : D) = List.replicate (Int.toNat ((a0.length : Nat) : Int)) (.agg [.str ⟨#[]⟩, .nil, I 0, I 0, .bool false] : D)) rfl<|P2 (NilOk (List.replicate (Int.toNat ((a0.length : Nat) : Int)) (.agg [.str ⟨#[]⟩, .nil, I 0, I 0, .bool false] : D)) (List.map goi_Terrain (List.replicate (Int.toNat ((a0.length : Nat) : Int)) (Gi_Terrain.mk ⟨#[]⟩ [] 0 0 false)))) (nilOk_rep (f := goi_Terrain) (z := (.agg [.str ⟨#[]⟩, .nil, I 0, I 0, .bool false] : D)) (x := (Gi_Terrain.mk ⟨#[]⟩ [] 0 0 false)) (nilC_s (nilC_n (nilC_s (nilC_s (nilC_s nilC_0))))) (Int.toNat ((a0.length : Nat) : Int)))<|P0) (ww_toTerrainS _ _ H)
def Rw_toKind (r : Gi_Kind) : List D := [.agg [.str r.Name, I r.Strength, I r.Moves, I r.Steps, .bool r.Zone, I r.View]]
theorem cw_toKind {a0 : Gw_Kind} {r : Gi_Kind} (H : Dw_toKind a0 = some r) : Ct X.P X.gl 151 [gw_Kind a0] [] (Rw_toKind r) [] :=
 Ct.of func151 (c := bdy f151) (by kernel_rfl) (by kernel_rfl) <|
 eW Rw_toKind (fun _ => []) H<|gE func151 [r0, r0, r0, r0, r0, r0, r0, r0, r0] (by kernel_rfl) P0
def Rw_toKindS (r : (List Gi_Kind)) : List D := [ow 6 gi_Kind r]
noncomputable def Kw_toKindS : Sw_toKindS → List Item
 | .h1 .. => nav 300 3 [] [.code (bdy f100)]
def Zw_toKindS : Sw_toKindS → St
 | .h1 va0 i1 l2 => ⟨sts 23 [(0, sl 6 gw_Kind va0), (3, .ref 0 6 none), (4, I i1)], [some ⟨false, false, 6, l2.length, List.map gi_Kind l2⟩]⟩
abbrev Qw_toKindS := Nx X 100 0 Kw_toKindS Zw_toKindS Rw_toKindS (fun _ => [])
theorem nw_toKindS : ∀ s o, Bw_toKindS s = some o → Qw_toKindS (Kw_toKindS s) (Zw_toKindS s) o
 | .h1 va0 i1 l2, o, H =>
  eIf H (fun h1 H =>
  eCk H fun h2 H =>
  eBind H fun x3 hx3 H =>
  eBind H fun r4 hr4 H =>
  eCk H fun h5 H =>
  eBind H fun x6 hx6 H =>
  eN H fun r hn => gO [rg [hT 3], rg [hE 5 (gw_Kind x3), hC 6 true [] (Rw_toKind r4) [], hA 8 ((List.set l2 (Int.toNat i1) r4).length) (List.map gi_Kind (List.set l2 (Int.toNat i1) r4))], r0, .canon [0] [0, 3, 4]] (by kernel_rfl) (P2 ((decide (i1 < ((va0.length : Nat) : Int))) = true) (decide_eq_true h1)<|P1 h2<|P1 (int_lt_of_at h2 hx3)<|P1 (at_map gw_Kind hx3)<|P1 (cw_toKind hr4)<|P1 h5<|P1 (int_lt_of_at h5 hx6)<|P1 (lt_of_at hx6)<|P2 (setCells (List.map gi_Kind l2) (Int.toNat i1) 0 [.str r4.Name, I r4.Strength, I r4.Moves, I r4.Steps, .bool r4.Zone, I r4.View] = List.map gi_Kind (List.set l2 (Int.toNat i1) r4)) (setCells_map hx6 rfl)<|P1 (setLen l2 (Int.toNat i1) r4)<|P0) hn)
  (fun h1 H =>
  eN H<|gE func100 [rg [hF 3], r0] (by kernel_rfl) (P2 ((decide (i1 < ((va0.length : Nat) : Int))) = false) (decide_eq_false h1)<|P0))
theorem ww_toKindS : ∀ s r, loop Bw_toKindS s = some r → Wc X 100 0 (Kw_toKindS s) (Zw_toKindS s) (Rw_toKindS r) ((fun _ => []) r) := Nx.all (nw_toKindS)
theorem cw_toKindS {a0 : (List Gw_Kind)} {r : (List Gi_Kind)} (H : Dw_toKindS a0 = some r) : Ct X.P X.gl 100 [sl 6 gw_Kind a0] [] (Rw_toKindS r) [] :=
 Ct.of func100 (c := bdy f100) (by kernel_rfl) (by kernel_rfl) <|
 eCk H fun h1 H =>
 gO [r0, rg [hA 2 ((List.replicate (Int.toNat ((a0.length : Nat) : Int)) (Gi_Kind.mk ⟨#[]⟩ 0 0 0 false 0)).length) (List.map gi_Kind (List.replicate (Int.toNat ((a0.length : Nat) : Int)) (Gi_Kind.mk ⟨#[]⟩ 0 0 0 false 0)))], r0, .canon [0] [0, 3, 4]] (by kernel_rfl) (PI (((a0.length : Nat) : Int) : Int)<|P2 ((0 : Int) ≤ ((a0.length : Nat) : Int)) (by omega)<|P2 (Int.toNat ((a0.length : Nat) : Int) * 56 ≤ 140737488355328) h1<|P1 (repLen (Int.toNat ((a0.length : Nat) : Int)) (Gi_Kind.mk ⟨#[]⟩ 0 0 0 false 0))<|P1 (repMap gi_Kind (Int.toNat ((a0.length : Nat) : Int)) (Gi_Kind.mk ⟨#[]⟩ 0 0 0 false 0))<|P0) (ww_toKindS _ _ H)
def Rw_toRules (r : Gi_Rules) : List D := [.agg [ow 5 goi_Terrain r.Terrains, ow 6 gi_Kind r.Kinds, I r.Stack, I r.River, I r.Road, I r.Supply, I r.Turns]]
theorem cw_toRules {a0 : Gw_Rules} {r : Gi_Rules} (H : Dw_toRules a0 = some r) : Ct X.P X.gl 56 [gw_Rules a0] [] (Rw_toRules r) [] :=
 Ct.of func56 (c := bdy f56) (by kernel_rfl) (by kernel_rfl) <|
 eBind H fun r1 hr1 H =>
 eBind H fun r2 hr2 H =>
 eW Rw_toRules (fun _ => []) H<|gE func56 [r0, r0, rg [hC 2 true [] (Rw_toTerrainS r1) []], rg [hC 2 true [] (Rw_toKindS r2) []], r0, r0, r0, r0, r0, r0] (by kernel_rfl) (P1 (cw_toTerrainS hr1)<|P1 (cw_toKindS hr2)<|P0)
def Rw_toMap (r : Gi_Map) : List D := [.agg [I r.Width, I r.Height, ow 1 I r.Terrain, ow 1 I r.Rivers, ow 1 I r.Roads]]
theorem cw_toMap {a0 : Gw_Map} {r : Gi_Map} (H : Dw_toMap a0 = some r) : Ct X.P X.gl 57 [gw_Map a0] [] (Rw_toMap r) [] :=
 Ct.of func57 (c := bdy f57) (by kernel_rfl) (by kernel_rfl) <|
 eBind H fun r1 hr1 H =>
 eBind H fun r2 hr2 H =>
 eBind H fun r3 hr3 H =>
 eW Rw_toMap (fun _ => []) H<|gE func57 [r0, r0, r0, r0, rg [hC 2 true [] (Rw_toIntS r1) []], rg [hC 2 true [] (Rw_toIntS r2) []], rg [hC 2 true [] (Rw_toIntS r3) []], r0] (by kernel_rfl) (P1 (cw_toIntS hr1)<|P1 (cw_toIntS hr2)<|P1 (cw_toIntS hr3)<|P0)
def Rw_toBoard (r : Gi_Board) : List D := [.agg [ow 5 goi_Terrain r.Rules.Terrains, ow 6 gi_Kind r.Rules.Kinds, I r.Rules.Stack, I r.Rules.River, I r.Rules.Road, I r.Rules.Supply, I r.Rules.Turns, I r.Map.Width, I r.Map.Height, ow 1 I r.Map.Terrain, ow 1 I r.Map.Rivers, ow 1 I r.Map.Roads]]
theorem cw_toBoard {a0 : Gw_Board} {r : Gi_Board} (H : Dw_toBoard a0 = some r) : Ct X.P X.gl 19 [gw_Board a0] [] (Rw_toBoard r) [] :=
 Ct.of func19 (c := bdy f19) (by kernel_rfl) (by kernel_rfl) <|
 eBind H fun r1 hr1 H =>
 eBind H fun r2 hr2 H =>
 eW Rw_toBoard (fun _ => []) H<|gE func19 [r0, r0, rg [hC 2 true [] (Rw_toRules r1) []], rg [hC 2 true [] (Rw_toMap r2) []], r0] (by kernel_rfl) (P1 (cw_toRules hr1)<|P1 (cw_toMap hr2)<|P0)
def Rw_toOdds (r : Gi_Odds) : List D := [.agg [I r.Num, I r.Den]]
theorem cw_toOdds {a0 : Gw_Odds} {r : Gi_Odds} (H : Dw_toOdds a0 = some r) : Ct X.P X.gl 101 [gw_Odds a0] [] (Rw_toOdds r) [] :=
 Ct.of func101 (c := bdy f101) (by kernel_rfl) (by kernel_rfl) <|
 eW Rw_toOdds (fun _ => []) H<|gE func101 [r0, r0, r0, r0, r0] (by kernel_rfl) P0
def Rw_toOddsS (r : (List Gi_Odds)) : List D := [ow 2 gi_Odds r]
noncomputable def Kw_toOddsS : Sw_toOddsS → List Item
 | .h1 .. => nav 300 3 [] [.code (bdy f58)]
def Zw_toOddsS : Sw_toOddsS → St
 | .h1 va0 i1 l2 => ⟨sts 23 [(0, sl 2 gw_Odds va0), (3, .ref 0 2 none), (4, I i1)], [some ⟨false, false, 2, l2.length, List.map gi_Odds l2⟩]⟩
abbrev Qw_toOddsS := Nx X 58 0 Kw_toOddsS Zw_toOddsS Rw_toOddsS (fun _ => [])
theorem nw_toOddsS : ∀ s o, Bw_toOddsS s = some o → Qw_toOddsS (Kw_toOddsS s) (Zw_toOddsS s) o
 | .h1 va0 i1 l2, o, H =>
  eIf H (fun h1 H =>
  eCk H fun h2 H =>
  eBind H fun x3 hx3 H =>
  eBind H fun r4 hr4 H =>
  eCk H fun h5 H =>
  eBind H fun x6 hx6 H =>
  eN H fun r hn => gO [rg [hT 3], rg [hE 5 (gw_Odds x3), hC 6 true [] (Rw_toOdds r4) [], hA 8 ((List.set l2 (Int.toNat i1) r4).length) (List.map gi_Odds (List.set l2 (Int.toNat i1) r4))], r0, .canon [0] [0, 3, 4]] (by kernel_rfl) (P2 ((decide (i1 < ((va0.length : Nat) : Int))) = true) (decide_eq_true h1)<|P1 h2<|P1 (int_lt_of_at h2 hx3)<|P1 (at_map gw_Odds hx3)<|P1 (cw_toOdds hr4)<|P1 h5<|P1 (int_lt_of_at h5 hx6)<|P1 (lt_of_at hx6)<|P2 (setCells (List.map gi_Odds l2) (Int.toNat i1) 0 [I r4.Num, I r4.Den] = List.map gi_Odds (List.set l2 (Int.toNat i1) r4)) (setCells_map hx6 rfl)<|P1 (setLen l2 (Int.toNat i1) r4)<|P0) hn)
  (fun h1 H =>
  eN H<|gE func58 [rg [hF 3], r0] (by kernel_rfl) (P2 ((decide (i1 < ((va0.length : Nat) : Int))) = false) (decide_eq_false h1)<|P0))
theorem ww_toOddsS : ∀ s r, loop Bw_toOddsS s = some r → Wc X 58 0 (Kw_toOddsS s) (Zw_toOddsS s) (Rw_toOddsS r) ((fun _ => []) r) := Nx.all (nw_toOddsS)
theorem cw_toOddsS {a0 : (List Gw_Odds)} {r : (List Gi_Odds)} (H : Dw_toOddsS a0 = some r) : Ct X.P X.gl 58 [sl 2 gw_Odds a0] [] (Rw_toOddsS r) [] :=
 Ct.of func58 (c := bdy f58) (by kernel_rfl) (by kernel_rfl) <|
 eCk H fun h1 H =>
 gO [r0, rg [hA 2 ((List.replicate (Int.toNat ((a0.length : Nat) : Int)) (Gi_Odds.mk 0 0)).length) (List.map gi_Odds (List.replicate (Int.toNat ((a0.length : Nat) : Int)) (Gi_Odds.mk 0 0)))], r0, .canon [0] [0, 3, 4]] (by kernel_rfl) (PI (((a0.length : Nat) : Int) : Int)<|P2 ((0 : Int) ≤ ((a0.length : Nat) : Int)) (by omega)<|P2 (Int.toNat ((a0.length : Nat) : Int) * 16 ≤ 140737488355328) h1<|P1 (repLen (Int.toNat ((a0.length : Nat) : Int)) (Gi_Odds.mk 0 0))<|P1 (repMap gi_Odds (Int.toNat ((a0.length : Nat) : Int)) (Gi_Odds.mk 0 0))<|P0) (ww_toOddsS _ _ H)
def Rw_toIntSS (r : (List (List Int))) : List D := [ow 1 (ow 1 I) r]
noncomputable def Kw_toIntSS : Sw_toIntSS → List Item
 | .h1 .. => nav 300 3 [] [.code (bdy f59)]
def Zw_toIntSS : Sw_toIntSS → St
 | .h1 va0 i1 l2 => ⟨sts 23 [(0, sl 1 (sl 1 I) va0), (3, .ref 0 1 none), (4, I i1)], [some ⟨false, false, 1, l2.length, List.map (ow 1 I) l2⟩]⟩
abbrev Qw_toIntSS := Nx X 59 0 Kw_toIntSS Zw_toIntSS Rw_toIntSS (fun _ => [])
theorem nw_toIntSS : ∀ s o, Bw_toIntSS s = some o → Qw_toIntSS (Kw_toIntSS s) (Zw_toIntSS s) o
 | .h1 va0 i1 l2, o, H =>
  eIf H (fun h1 H =>
  eCk H fun h2 H =>
  eBind H fun x3 hx3 H =>
  eBind H fun r4 hr4 H =>
  eCk H fun h5 H =>
  eBind H fun x6 hx6 H =>
  eN H fun r hn => gO [rg [hT 3], rg [hE 5 ((sl 1 I) x3), hC 6 true [] (Rw_toIntS r4) [], { i := 8, xs := List.set (List.map (ow 1 I) l2) (Int.toNat i1) (.ref 1 1 none), post := [.put 0 (Int.toNat i1) 0 1 (List.map (ow 1 I) (List.set l2 (Int.toNat i1) r4)), .own 0 (List.set l2 (Int.toNat i1) r4).length] }], r0, .canon [0] [0, 3, 4]] (by kernel_rfl) (P2 ((decide (i1 < ((va0.length : Nat) : Int))) = true) (decide_eq_true h1)<|P1 h2<|P1 (int_lt_of_at h2 hx3)<|P1 (at_map (sl 1 I) hx3)<|P1 (cw_toIntS hr4)<|P1 h5<|P1 (int_lt_of_at h5 hx6)<|P1 (lt_of_at hx6)<|P2 (setCells (List.map (ow 1 I) l2) (Int.toNat i1) 0 [.ref 1 1 none] = List.set (List.map (ow 1 I) l2) (Int.toNat i1) (.ref 1 1 none)) (setCells_mapD hx6 rfl)<|P2 (getCells (List.set (List.map (ow 1 I) l2) (Int.toNat i1) (.ref 1 1 none)) (Int.toNat i1) 0 1 = some [.ref 1 1 none]) (getCells_set hx6 rfl)<|P2 (setCells (List.set (List.map (ow 1 I) l2) (Int.toNat i1) (.ref 1 1 none)) (Int.toNat i1) 0 [ow 1 I r4] = List.map (ow 1 I) (List.set l2 (Int.toNat i1) r4)) (setCells_set hx6 rfl)<|P1 (allOw_26 (List.set l2 (Int.toNat i1) r4))<|P1 (setLen l2 (Int.toNat i1) r4)<|P0) hn)
  (fun h1 H =>
  eN H<|gE func59 [rg [hF 3], r0] (by kernel_rfl) (P2 ((decide (i1 < ((va0.length : Nat) : Int))) = false) (decide_eq_false h1)<|P0))
theorem ww_toIntSS : ∀ s r, loop Bw_toIntSS s = some r → Wc X 59 0 (Kw_toIntSS s) (Zw_toIntSS s) (Rw_toIntSS r) ((fun _ => []) r) := Nx.all (nw_toIntSS)
theorem cw_toIntSS {a0 : (List (List Int))} {r : (List (List Int))} (H : Dw_toIntSS a0 = some r) : Ct X.P X.gl 59 [sl 1 (sl 1 I) a0] [] (Rw_toIntSS r) [] :=
 Ct.of func59 (c := bdy f59) (by kernel_rfl) (by kernel_rfl) <|
 eCk H fun h1 H =>
 gO [r0, rg [{ i := 2, n := (List.replicate (Int.toNat ((a0.length : Nat) : Int)) ([] : (List Int))).length, xs := List.replicate (Int.toNat ((a0.length : Nat) : Int)) (.nil : D), post := [.nils 0 (List.map (ow 1 I) (List.replicate (Int.toNat ((a0.length : Nat) : Int)) ([] : (List Int))))] }], r0, .canon [0] [0, 3, 4]] (by kernel_rfl) (PI (((a0.length : Nat) : Int) : Int)<|P2 ((0 : Int) ≤ ((a0.length : Nat) : Int)) (by omega)<|P2 (Int.toNat ((a0.length : Nat) : Int) * 24 ≤ 140737488355328) h1<|P1 (repLen (Int.toNat ((a0.length : Nat) : Int)) ([] : (List Int)))<|P2 (List.replicate (Int.toNat ((a0.length : Nat) : Int)) (.nil : D) = List.replicate (Int.toNat ((a0.length : Nat) : Int)) (.nil : D)) rfl<|P2 (NilOk (List.replicate (Int.toNat ((a0.length : Nat) : Int)) (.nil : D)) (List.map (ow 1 I) (List.replicate (Int.toNat ((a0.length : Nat) : Int)) ([] : (List Int))))) (nilOk_rep (f := (ow 1 I)) (z := (.nil : D)) (x := ([] : (List Int))) (nilC_n nilC_0) (Int.toNat ((a0.length : Nat) : Int)))<|P0) (ww_toIntSS _ _ H)
def Rw_toCombatTable (r : Gi_CombatTable) : List D := [.agg [ow 2 gi_Odds r.Columns, I r.Dice, ow 1 (ow 1 I) r.Results]]
theorem cw_toCombatTable {a0 : Gw_CombatTable} {r : Gi_CombatTable} (H : Dw_toCombatTable a0 = some r) : Ct X.P X.gl 20 [gw_CombatTable a0] [] (Rw_toCombatTable r) [] :=
 Ct.of func20 (c := bdy f20) (by kernel_rfl) (by kernel_rfl) <|
 eBind H fun r1 hr1 H =>
 eBind H fun r2 hr2 H =>
 eW Rw_toCombatTable (fun _ => []) H<|gE func20 [r0, r0, rg [hC 2 true [] (Rw_toOddsS r1) []], r0, rg [hC 2 true [] (Rw_toIntSS r2) []], r0] (by kernel_rfl) (P1 (cw_toOddsS hr1)<|P1 (cw_toIntSS hr2)<|P0)
def Rw_toUnit (r : Gi_Unit) : List D := [.agg [I r.Side, I r.Kind, I r.At, I r.Steps]]
theorem cw_toUnit {a0 : Gw_Unit} {r : Gi_Unit} (H : Dw_toUnit a0 = some r) : Ct X.P X.gl 102 [gw_Unit a0] [] (Rw_toUnit r) [] :=
 Ct.of func102 (c := bdy f102) (by kernel_rfl) (by kernel_rfl) <|
 eW Rw_toUnit (fun _ => []) H<|gE func102 [r0, r0, r0, r0, r0, r0, r0] (by kernel_rfl) P0
def Rw_toUnitS (r : (List Gi_Unit)) : List D := [ow 4 gi_Unit r]
noncomputable def Kw_toUnitS : Sw_toUnitS → List Item
 | .h1 .. => nav 300 3 [] [.code (bdy f60)]
def Zw_toUnitS : Sw_toUnitS → St
 | .h1 va0 i1 l2 => ⟨sts 23 [(0, sl 4 gw_Unit va0), (3, .ref 0 4 none), (4, I i1)], [some ⟨false, false, 4, l2.length, List.map gi_Unit l2⟩]⟩
abbrev Qw_toUnitS := Nx X 60 0 Kw_toUnitS Zw_toUnitS Rw_toUnitS (fun _ => [])
theorem nw_toUnitS : ∀ s o, Bw_toUnitS s = some o → Qw_toUnitS (Kw_toUnitS s) (Zw_toUnitS s) o
 | .h1 va0 i1 l2, o, H =>
  eIf H (fun h1 H =>
  eCk H fun h2 H =>
  eBind H fun x3 hx3 H =>
  eBind H fun r4 hr4 H =>
  eCk H fun h5 H =>
  eBind H fun x6 hx6 H =>
  eN H fun r hn => gO [rg [hT 3], rg [hE 5 (gw_Unit x3), hC 6 true [] (Rw_toUnit r4) [], hA 8 ((List.set l2 (Int.toNat i1) r4).length) (List.map gi_Unit (List.set l2 (Int.toNat i1) r4))], r0, .canon [0] [0, 3, 4]] (by kernel_rfl) (P2 ((decide (i1 < ((va0.length : Nat) : Int))) = true) (decide_eq_true h1)<|P1 h2<|P1 (int_lt_of_at h2 hx3)<|P1 (at_map gw_Unit hx3)<|P1 (cw_toUnit hr4)<|P1 h5<|P1 (int_lt_of_at h5 hx6)<|P1 (lt_of_at hx6)<|P2 (setCells (List.map gi_Unit l2) (Int.toNat i1) 0 [I r4.Side, I r4.Kind, I r4.At, I r4.Steps] = List.map gi_Unit (List.set l2 (Int.toNat i1) r4)) (setCells_map hx6 rfl)<|P1 (setLen l2 (Int.toNat i1) r4)<|P0) hn)
  (fun h1 H =>
  eN H<|gE func60 [rg [hF 3], r0] (by kernel_rfl) (P2 ((decide (i1 < ((va0.length : Nat) : Int))) = false) (decide_eq_false h1)<|P0))
theorem ww_toUnitS : ∀ s r, loop Bw_toUnitS s = some r → Wc X 60 0 (Kw_toUnitS s) (Zw_toUnitS s) (Rw_toUnitS r) ((fun _ => []) r) := Nx.all (nw_toUnitS)
theorem cw_toUnitS {a0 : (List Gw_Unit)} {r : (List Gi_Unit)} (H : Dw_toUnitS a0 = some r) : Ct X.P X.gl 60 [sl 4 gw_Unit a0] [] (Rw_toUnitS r) [] :=
 Ct.of func60 (c := bdy f60) (by kernel_rfl) (by kernel_rfl) <|
 eCk H fun h1 H =>
 gO [r0, rg [hA 2 ((List.replicate (Int.toNat ((a0.length : Nat) : Int)) (Gi_Unit.mk 0 0 0 0)).length) (List.map gi_Unit (List.replicate (Int.toNat ((a0.length : Nat) : Int)) (Gi_Unit.mk 0 0 0 0)))], r0, .canon [0] [0, 3, 4]] (by kernel_rfl) (PI (((a0.length : Nat) : Int) : Int)<|P2 ((0 : Int) ≤ ((a0.length : Nat) : Int)) (by omega)<|P2 (Int.toNat ((a0.length : Nat) : Int) * 32 ≤ 140737488355328) h1<|P1 (repLen (Int.toNat ((a0.length : Nat) : Int)) (Gi_Unit.mk 0 0 0 0))<|P1 (repMap gi_Unit (Int.toNat ((a0.length : Nat) : Int)) (Gi_Unit.mk 0 0 0 0))<|P0) (ww_toUnitS _ _ H)
def Rw_toState (r : Gi_State) : List D := [.agg [I r.Turn, I r.Weather, ow 4 gi_Unit r.Units]]
theorem cw_toState {a0 : Gw_State} {r : Gi_State} (H : Dw_toState a0 = some r) : Ct X.P X.gl 21 [gw_State a0] [] (Rw_toState r) [] :=
 Ct.of func21 (c := bdy f21) (by kernel_rfl) (by kernel_rfl) <|
 eBind H fun r1 hr1 H =>
 eW Rw_toState (fun _ => []) H<|gE func21 [r0, r0, r0, r0, rg [hC 2 true [] (Rw_toUnitS r1) []], r0] (by kernel_rfl) (P1 (cw_toUnitS hr1)<|P0)
def Rw_toGoal (r : Gi_Goal) : List D := [.agg [I r.At, I r.Points]]
theorem cw_toGoal {a0 : Gw_Goal} {r : Gi_Goal} (H : Dw_toGoal a0 = some r) : Ct X.P X.gl 103 [gw_Goal a0] [] (Rw_toGoal r) [] :=
 Ct.of func103 (c := bdy f103) (by kernel_rfl) (by kernel_rfl) <|
 eW Rw_toGoal (fun _ => []) H<|gE func103 [r0, r0, r0, r0, r0] (by kernel_rfl) P0
def Rw_toGoalS (r : (List Gi_Goal)) : List D := [ow 2 gi_Goal r]
noncomputable def Kw_toGoalS : Sw_toGoalS → List Item
 | .h1 .. => nav 300 3 [] [.code (bdy f61)]
def Zw_toGoalS : Sw_toGoalS → St
 | .h1 va0 i1 l2 => ⟨sts 23 [(0, sl 2 gw_Goal va0), (3, .ref 0 2 none), (4, I i1)], [some ⟨false, false, 2, l2.length, List.map gi_Goal l2⟩]⟩
abbrev Qw_toGoalS := Nx X 61 0 Kw_toGoalS Zw_toGoalS Rw_toGoalS (fun _ => [])
theorem nw_toGoalS : ∀ s o, Bw_toGoalS s = some o → Qw_toGoalS (Kw_toGoalS s) (Zw_toGoalS s) o
 | .h1 va0 i1 l2, o, H =>
  eIf H (fun h1 H =>
  eCk H fun h2 H =>
  eBind H fun x3 hx3 H =>
  eBind H fun r4 hr4 H =>
  eCk H fun h5 H =>
  eBind H fun x6 hx6 H =>
  eN H fun r hn => gO [rg [hT 3], rg [hE 5 (gw_Goal x3), hC 6 true [] (Rw_toGoal r4) [], hA 8 ((List.set l2 (Int.toNat i1) r4).length) (List.map gi_Goal (List.set l2 (Int.toNat i1) r4))], r0, .canon [0] [0, 3, 4]] (by kernel_rfl) (P2 ((decide (i1 < ((va0.length : Nat) : Int))) = true) (decide_eq_true h1)<|P1 h2<|P1 (int_lt_of_at h2 hx3)<|P1 (at_map gw_Goal hx3)<|P1 (cw_toGoal hr4)<|P1 h5<|P1 (int_lt_of_at h5 hx6)<|P1 (lt_of_at hx6)<|P2 (setCells (List.map gi_Goal l2) (Int.toNat i1) 0 [I r4.At, I r4.Points] = List.map gi_Goal (List.set l2 (Int.toNat i1) r4)) (setCells_map hx6 rfl)<|P1 (setLen l2 (Int.toNat i1) r4)<|P0) hn)
  (fun h1 H =>
  eN H<|gE func61 [rg [hF 3], r0] (by kernel_rfl) (P2 ((decide (i1 < ((va0.length : Nat) : Int))) = false) (decide_eq_false h1)<|P0))
theorem ww_toGoalS : ∀ s r, loop Bw_toGoalS s = some r → Wc X 61 0 (Kw_toGoalS s) (Zw_toGoalS s) (Rw_toGoalS r) ((fun _ => []) r) := Nx.all (nw_toGoalS)
theorem cw_toGoalS {a0 : (List Gw_Goal)} {r : (List Gi_Goal)} (H : Dw_toGoalS a0 = some r) : Ct X.P X.gl 61 [sl 2 gw_Goal a0] [] (Rw_toGoalS r) [] :=
 Ct.of func61 (c := bdy f61) (by kernel_rfl) (by kernel_rfl) <|
 eCk H fun h1 H =>
 gO [r0, rg [hA 2 ((List.replicate (Int.toNat ((a0.length : Nat) : Int)) (Gi_Goal.mk 0 0)).length) (List.map gi_Goal (List.replicate (Int.toNat ((a0.length : Nat) : Int)) (Gi_Goal.mk 0 0)))], r0, .canon [0] [0, 3, 4]] (by kernel_rfl) (PI (((a0.length : Nat) : Int) : Int)<|P2 ((0 : Int) ≤ ((a0.length : Nat) : Int)) (by omega)<|P2 (Int.toNat ((a0.length : Nat) : Int) * 16 ≤ 140737488355328) h1<|P1 (repLen (Int.toNat ((a0.length : Nat) : Int)) (Gi_Goal.mk 0 0))<|P1 (repMap gi_Goal (Int.toNat ((a0.length : Nat) : Int)) (Gi_Goal.mk 0 0))<|P0) (ww_toGoalS _ _ H)
def Rw_toConditions (r : Gi_Conditions) : List D := [.agg [ow 2 gi_Goal r.Goals, I r.Step, I r.Margin]]
theorem cw_toConditions {a0 : Gw_Conditions} {r : Gi_Conditions} (H : Dw_toConditions a0 = some r) : Ct X.P X.gl 22 [gw_Conditions a0] [] (Rw_toConditions r) [] :=
 Ct.of func22 (c := bdy f22) (by kernel_rfl) (by kernel_rfl) <|
 eBind H fun r1 hr1 H =>
 eW Rw_toConditions (fun _ => []) H<|gE func22 [r0, r0, rg [hC 2 true [] (Rw_toGoalS r1) []], r0, r0, r0] (by kernel_rfl) (P1 (cw_toGoalS hr1)<|P0)
def Rw_toScenario (r : Gi_Scenario) : List D := [.agg [.str r.Name, ow 5 goi_Terrain r.Board.Rules.Terrains, ow 6 gi_Kind r.Board.Rules.Kinds, I r.Board.Rules.Stack, I r.Board.Rules.River, I r.Board.Rules.Road, I r.Board.Rules.Supply, I r.Board.Rules.Turns, I r.Board.Map.Width, I r.Board.Map.Height, ow 1 I r.Board.Map.Terrain, ow 1 I r.Board.Map.Rivers, ow 1 I r.Board.Map.Roads, ow 2 gi_Odds r.Table.Columns, I r.Table.Dice, ow 1 (ow 1 I) r.Table.Results, I r.Start.Turn, I r.Start.Weather, ow 4 gi_Unit r.Start.Units, ow 2 gi_Goal r.Conditions.Goals, I r.Conditions.Step, I r.Conditions.Margin, ow 1 I r.First, ow 1 I r.Other]]
theorem cw_toScenario {a0 : Gw_Scenario} {r : Gi_Scenario} (H : Dw_toScenario a0 = some r) : Ct X.P X.gl 7 [gw_Scenario a0] [] (Rw_toScenario r) [] :=
 Ct.of func7 (c := bdy f7) (by kernel_rfl) (by kernel_rfl) <|
 eBind H fun r1 hr1 H =>
 eBind H fun r2 hr2 H =>
 eBind H fun r3 hr3 H =>
 eBind H fun r4 hr4 H =>
 eBind H fun r5 hr5 H =>
 eBind H fun r6 hr6 H =>
 eW Rw_toScenario (fun _ => []) H<|gE func7 [r0, r0, r0, rg [hC 2 true [] (Rw_toBoard r1) []], rg [hC 2 true [] (Rw_toCombatTable r2) []], rg [hC 2 true [] (Rw_toState r3) []], rg [hC 2 true [] (Rw_toConditions r4) []], rg [hC 2 true [] (Rw_toIntS r5) []], rg [hC 2 true [] (Rw_toIntS r6) []], r0] (by kernel_rfl) (P1 (cw_toBoard hr1)<|P1 (cw_toCombatTable hr2)<|P1 (cw_toState hr3)<|P1 (cw_toConditions hr4)<|P1 (cw_toIntS hr5)<|P1 (cw_toIntS hr6)<|P0)
theorem cs_l1In {a0 : Int} {a1 : Int} {a2 : Int} {r : Bool} (H : Ds_l1In a0 a1 a2 = some r) : Ct X.P X.gl 141 [I a0, I a1, I a2] [] (RB r) [] :=
 Ct.of func141 (c := bdy f141) (by kernel_rfl) (by kernel_rfl) <|
 gS [r0] (by kernel_rfl) P0 <|
 eIf H (fun h1 H =>
 eW RB (fun _ => []) H<|gE func141 [rg [hT 2]] (by kernel_rfl) (P2 ((decide (a0 ≥ a1)) = true) (decide_eq_true h1)<|P0))
 (fun h1 H =>
 eW RB (fun _ => []) H<|gE func141 [rg [hF 2]] (by kernel_rfl) (P2 ((decide (a0 ≥ a1)) = false) (decide_eq_false h1)<|P0))
noncomputable def Ks_rName : Ss_rName → List Item
 | .h1 .. => nav 300 2 [] [.code (bdy f92)]
def Zs_rName : Ss_rName → St
 | .h1 s0 i1 => ⟨sts 23 [(0, .str s0), (3, I i1)], []⟩
abbrev Qs_rName := Nx X 92 0 Ks_rName Zs_rName RB (fun _ => [])
theorem ns_rName : ∀ s o, Bs_rName s = some o → Qs_rName (Ks_rName s) (Zs_rName s) o
 | .h1 s0 i1, o, H =>
  eIf H (fun h1 H =>
  eCk H fun h2 H =>
  eCk H fun h3 H =>
  gN [rg [hT 3]] (by kernel_rfl) (P2 ((decide (i1 < ((ByteArray.size s0 : Nat) : Int))) = true) (decide_eq_true h1)<|P0) <|
  eIf H (fun h4 H =>
  eN H<|gE func92 [rg [{ i := 2, n := byteAt s0 (Int.toNat i1) }, hT 3], r0] (by kernel_rfl) (P2 ((0 : Int) ≤ i1) h2<|P2 (i1 < (ByteArray.size s0 : Int)) h3<|P2 ((s0.data.toList[(Int.toNat i1)]?.map fun b => (b.toNat : Int)) = some ((byteAt s0 (Int.toNat i1) : Nat) : Int)) (byteAt_ok (by omega))<|P2 ((decide (((byteAt s0 (Int.toNat i1) : Nat) : Int) < 97)) = true) (decide_eq_true h4)<|P0))
  (fun h4 H =>
  eCk H fun h5 H =>
  eCk H fun h6 H =>
  eIf H (fun h7 H =>
  eN H<|gE func92 [rg [{ i := 2, n := byteAt s0 (Int.toNat i1) }, hF 3, { i := 7, n := byteAt s0 (Int.toNat i1) }, hT 8], r0] (by kernel_rfl) (P2 ((0 : Int) ≤ i1) h2<|P2 (i1 < (ByteArray.size s0 : Int)) h3<|P2 ((s0.data.toList[(Int.toNat i1)]?.map fun b => (b.toNat : Int)) = some ((byteAt s0 (Int.toNat i1) : Nat) : Int)) (byteAt_ok (by omega))<|P2 ((decide (((byteAt s0 (Int.toNat i1) : Nat) : Int) < 97)) = false) (decide_eq_false h4)<|P2 ((0 : Int) ≤ i1) h5<|P2 (i1 < (ByteArray.size s0 : Int)) h6<|P2 ((s0.data.toList[(Int.toNat i1)]?.map fun b => (b.toNat : Int)) = some ((byteAt s0 (Int.toNat i1) : Nat) : Int)) (byteAt_ok (by omega))<|P2 ((decide (((byteAt s0 (Int.toNat i1) : Nat) : Int) > 122)) = true) (decide_eq_true h7)<|P0))
  (fun h7 H =>
  eN H fun r hn => gO [rg [{ i := 2, n := byteAt s0 (Int.toNat i1) }, hF 3, { i := 7, n := byteAt s0 (Int.toNat i1) }, hF 8], r0, .canon [] [0, 3]] (by kernel_rfl) (P2 ((0 : Int) ≤ i1) h2<|P2 (i1 < (ByteArray.size s0 : Int)) h3<|P2 ((s0.data.toList[(Int.toNat i1)]?.map fun b => (b.toNat : Int)) = some ((byteAt s0 (Int.toNat i1) : Nat) : Int)) (byteAt_ok (by omega))<|P2 ((decide (((byteAt s0 (Int.toNat i1) : Nat) : Int) < 97)) = false) (decide_eq_false h4)<|P2 ((0 : Int) ≤ i1) h5<|P2 (i1 < (ByteArray.size s0 : Int)) h6<|P2 ((s0.data.toList[(Int.toNat i1)]?.map fun b => (b.toNat : Int)) = some ((byteAt s0 (Int.toNat i1) : Nat) : Int)) (byteAt_ok (by omega))<|P2 ((decide (((byteAt s0 (Int.toNat i1) : Nat) : Int) > 122)) = false) (decide_eq_false h7)<|P0) hn)))
  (fun h1 H =>
  eBind H fun r2 hr2 H =>
  eN H<|gE func92 [rg [hF 3], rg [hC 2 true [] (RB r2) []]] (by kernel_rfl) (P2 ((decide (i1 < ((ByteArray.size s0 : Nat) : Int))) = false) (decide_eq_false h1)<|P1 (cs_l1In hr2)<|P0))
theorem ws_rName : ∀ s r, loop Bs_rName s = some r → Wc X 92 0 (Ks_rName s) (Zs_rName s) (RB r) ((fun _ => []) r) := Nx.all (ns_rName)
theorem cs_rName {a0 : ByteArray} {r : Bool} (H : Ds_rName a0 = some r) : Ct X.P X.gl 92 [.str a0] [] (RB r) [] :=
 Ct.of func92 (c := bdy f92) (by kernel_rfl) (by kernel_rfl) <|
 gO [r0, r0, .canon [] [0, 3]] (by kernel_rfl) P0 (ws_rName _ _ H)
noncomputable def Ks_rTerrain : Ss_rTerrain → List Item
 | .h1 .. => nav 300 2 [] [.code (bdy f197)]
def Zs_rTerrain : Ss_rTerrain → St
 | .h1 name0 t1 t2 t3 => ⟨sts 20 [(1, .str name0), (7, sl 5 gi_Terrain t1), (8, I t2), (9, I t3)], []⟩
abbrev Qs_rTerrain := Nx X 197 0 Ks_rTerrain Zs_rTerrain RI (fun _ => [])
theorem ns_rTerrain : ∀ s o, Bs_rTerrain s = some o → Qs_rTerrain (Ks_rTerrain s) (Zs_rTerrain s) o
 | .h1 name0 t1 t2 t3, o, H =>
  eIf H (fun h1 H =>
  eCk H fun h2 H =>
  eBind H fun x3 hx3 H =>
  gN [rg [hT 0], rg [hE 2 (gi_Terrain x3)]] (by kernel_rfl) (P2 ((decide (t3 < t2)) = true) (decide_eq_true h1)<|P1 h2<|P1 (int_lt_of_at h2 hx3)<|P1 (at_map gi_Terrain hx3)<|P0) <|
  eIf H (fun h4 H =>
  eN H<|gE func197 [rg [hT 3], r0] (by kernel_rfl) (P2 ((x3.Name == name0) = true) (beqT h4)<|P0))
  (fun h4 H =>
  eN H fun r hn => gO [rg [hF 3], r0, .canon [] [1, 7, 8, 9]] (by kernel_rfl) (P2 ((x3.Name == name0) = false) (beqF h4)<|P0) hn))
  (fun h1 H =>
  eN H<|gE func197 [rg [hF 0], r0] (by kernel_rfl) (P2 ((decide (t3 < t2)) = false) (decide_eq_false h1)<|P0))
theorem ws_rTerrain : ∀ s r, loop Bs_rTerrain s = some r → Wc X 197 0 (Ks_rTerrain s) (Zs_rTerrain s) (RI r) ((fun _ => []) r) := Nx.all (ns_rTerrain)
theorem cs_rTerrain {a0 : (List Gi_Terrain)} {a1 : ByteArray} {r : Int} (H : Ds_rTerrain a0 a1 = some r) : Ct X.P X.gl 197 [sl 5 gi_Terrain a0, .str a1] [] (RI r) [] :=
 Ct.of func197 (c := bdy f197) (by kernel_rfl) (by kernel_rfl) <|
 gO [r0, r0, .canon [] [1, 7, 8, 9]] (by kernel_rfl) P0 (ws_rTerrain _ _ H)
noncomputable def Ks_l1All : Ss_l1All → List Item
 | .h1 .. => nav 300 2 [] [.code (bdy f144)]
def Zs_l1All : Ss_l1All → St
 | .h1 lo0 vhi1 t2 t3 t4 => ⟨sts 21 [(1, I lo0), (2, I vhi1), (9, sl 1 I t2), (10, I t3), (11, I t4)], []⟩
abbrev Qs_l1All := Nx X 144 0 Ks_l1All Zs_l1All RB (fun _ => [])
theorem ns_l1All : ∀ s o, Bs_l1All s = some o → Qs_l1All (Ks_l1All s) (Zs_l1All s) o
 | .h1 lo0 vhi1 t2 t3 t4, o, H =>
  eIf H (fun h1 H =>
  eCk H fun h2 H =>
  eBind H fun x3 hx3 H =>
  eBind H fun r4 hr4 H =>
  gN [rg [hT 0], rg [hE 1 (I x3)]] (by kernel_rfl) (P2 ((decide (t4 < t3)) = true) (decide_eq_true h1)<|P1 h2<|P1 (int_lt_of_at h2 hx3)<|P1 (at_map I hx3)<|P0) <|
  eIf H (fun h5 H =>
  eN H fun r hn => gO [rg [{ i := 3, call := some { cl := true, auto := true, ins := [], res := (RB r4), G' := [] }, dec := some true }], r0, .canon [] [1, 2, 9, 10, 11]] (by kernel_rfl) (P1 (cs_l1In hr4)<|P2 (r4 = true) (h5)<|P0) hn)
  (fun h5 H =>
  eN H<|gE func144 [rg [{ i := 3, call := some { cl := true, auto := true, ins := [], res := (RB r4), G' := [] }, dec := some false }], r0] (by kernel_rfl) (P1 (cs_l1In hr4)<|P2 (r4 = false) (eqF h5)<|P0)))
  (fun h1 H =>
  eN H<|gE func144 [rg [hF 0], r0] (by kernel_rfl) (P2 ((decide (t4 < t3)) = false) (decide_eq_false h1)<|P0))
theorem ws_l1All : ∀ s r, loop Bs_l1All s = some r → Wc X 144 0 (Ks_l1All s) (Zs_l1All s) (RB r) ((fun _ => []) r) := Nx.all (ns_l1All)
theorem cs_l1All {a0 : (List Int)} {a1 : Int} {a2 : Int} {r : Bool} (H : Ds_l1All a0 a1 a2 = some r) : Ct X.P X.gl 144 [sl 1 I a0, I a1, I a2] [] (RB r) [] :=
 Ct.of func144 (c := bdy f144) (by kernel_rfl) (by kernel_rfl) <|
 gO [r0, r0, .canon [] [1, 2, 9, 10, 11]] (by kernel_rfl) P0 (ws_l1All _ _ H)
noncomputable def Ks_rKind : Ss_rKind → List Item
 | .h1 .. => nav 300 2 [] [.code (bdy f198)]
def Zs_rKind : Ss_rKind → St
 | .h1 name0 t1 t2 t3 => ⟨sts 20 [(1, .str name0), (7, sl 6 gi_Kind t1), (8, I t2), (9, I t3)], []⟩
abbrev Qs_rKind := Nx X 198 0 Ks_rKind Zs_rKind RI (fun _ => [])
theorem ns_rKind : ∀ s o, Bs_rKind s = some o → Qs_rKind (Ks_rKind s) (Zs_rKind s) o
 | .h1 name0 t1 t2 t3, o, H =>
  eIf H (fun h1 H =>
  eCk H fun h2 H =>
  eBind H fun x3 hx3 H =>
  gN [rg [hT 0], rg [hE 2 (gi_Kind x3)]] (by kernel_rfl) (P2 ((decide (t3 < t2)) = true) (decide_eq_true h1)<|P1 h2<|P1 (int_lt_of_at h2 hx3)<|P1 (at_map gi_Kind hx3)<|P0) <|
  eIf H (fun h4 H =>
  eN H<|gE func198 [rg [hT 3], r0] (by kernel_rfl) (P2 ((x3.Name == name0) = true) (beqT h4)<|P0))
  (fun h4 H =>
  eN H fun r hn => gO [rg [hF 3], r0, .canon [] [1, 7, 8, 9]] (by kernel_rfl) (P2 ((x3.Name == name0) = false) (beqF h4)<|P0) hn))
  (fun h1 H =>
  eN H<|gE func198 [rg [hF 0], r0] (by kernel_rfl) (P2 ((decide (t3 < t2)) = false) (decide_eq_false h1)<|P0))
theorem ws_rKind : ∀ s r, loop Bs_rKind s = some r → Wc X 198 0 (Ks_rKind s) (Zs_rKind s) (RI r) ((fun _ => []) r) := Nx.all (ns_rKind)
theorem cs_rKind {a0 : (List Gi_Kind)} {a1 : ByteArray} {r : Int} (H : Ds_rKind a0 a1 = some r) : Ct X.P X.gl 198 [sl 6 gi_Kind a0, .str a1] [] (RI r) [] :=
 Ct.of func198 (c := bdy f198) (by kernel_rfl) (by kernel_rfl) <|
 gO [r0, r0, .canon [] [1, 7, 8, 9]] (by kernel_rfl) P0 (ws_rKind _ _ H)
noncomputable def Ks_rGood : Ss_rGood → List Item
 | .h1 .. => nav 300 3 [false] [.code (bdy f142)]
 | .h2 .. => nav 300 5 [false, false] [.code (bdy f142)]
def Zs_rGood : Ss_rGood → St
 | .h1 t0 t1 t2 b3 => ⟨sts 137 [(1, .ptr 0 7 0 0), (20, sl 5 gi_Terrain t0), (21, I t1), (22, I t2)], [some ⟨false, true, 7, 1, [gi_Rules b3]⟩]⟩
 | .h2 t0 t1 t2 b3 => ⟨sts 137 [(1, .ptr 0 7 0 0), (69, sl 6 gi_Kind t0), (70, I t1), (71, I t2)], [some ⟨false, true, 7, 1, [gi_Rules b3]⟩]⟩
abbrev Qs_rGood := Nx X 142 0 Ks_rGood Zs_rGood RB (fun _ => [])
theorem ns_rGood : ∀ s o, Bs_rGood s = some o → Qs_rGood (Ks_rGood s) (Zs_rGood s) o
 | .h1 t0 t1 t2 b3, o, H =>
  eIf H (fun h1 H =>
  eCk H fun h2 H =>
  eBind H fun x3 hx3 H =>
  eBind H fun r4 hr4 H =>
  gN [rg [hT 0], rg [hE 2 (gi_Terrain x3)]] (by kernel_rfl) (P2 ((decide (t2 < t1)) = true) (decide_eq_true h1)<|P1 h2<|P1 (int_lt_of_at h2 hx3)<|P1 (at_map gi_Terrain hx3)<|P0) <|
  eIf H (fun h5 H =>
  eBind H fun r6 hr6 H =>
  eIf H (fun h7 H =>
  eIf H (fun h8 H =>
  eBind H fun r9 hr9 H =>
  eIf H (fun h10 H =>
  eBind H fun r11 hr11 H =>
  eIf H (fun h12 H =>
  eBind H fun r13 hr13 H =>
  eIf H (fun h14 H =>
  eN H fun r hn => gO [rg [{ i := 2, call := some { cl := true, auto := true, ins := [], res := (RB r4), G' := [] }, dec := some true }, hC 9 true [] (RI r6) [], hF 11, hF 20, { i := 25, call := some { cl := true, auto := true, ins := [], res := (RB r9), G' := [] }, dec := some true }, { i := 31, call := some { cl := true, auto := true, ins := [], res := (RB r11), G' := [] }, dec := some true }, { i := 37, call := some { cl := true, auto := true, ins := [], res := (RB r13), G' := [] }, dec := some true }], r0, .canon [0] [1, 20, 21, 22]] (by kernel_rfl) (P1 (cs_rName hr4)<|P2 (r4 = true) (h5)<|P1 (cs_rTerrain hr6)<|P2 (((r6 : Int) != t2) = false) (bneF h7)<|P2 (((((x3.Cost.length : Nat) : Int) : Int) != ((b3.Kinds.length : Nat) : Int)) = false) (bneF h8)<|P1 (cs_l1All hr9)<|P2 (r9 = true) (h10)<|P1 (cs_l1In hr11)<|P2 (r11 = true) (h12)<|P1 (cs_l1In hr13)<|P2 (r13 = true) (h14)<|P0) hn)
  (fun h14 H =>
  eN H<|gE func142 [rg [{ i := 2, call := some { cl := true, auto := true, ins := [], res := (RB r4), G' := [] }, dec := some true }, hC 9 true [] (RI r6) [], hF 11, hF 20, { i := 25, call := some { cl := true, auto := true, ins := [], res := (RB r9), G' := [] }, dec := some true }, { i := 31, call := some { cl := true, auto := true, ins := [], res := (RB r11), G' := [] }, dec := some true }, { i := 37, call := some { cl := true, auto := true, ins := [], res := (RB r13), G' := [] }, dec := some false }], r0] (by kernel_rfl) (P1 (cs_rName hr4)<|P2 (r4 = true) (h5)<|P1 (cs_rTerrain hr6)<|P2 (((r6 : Int) != t2) = false) (bneF h7)<|P2 (((((x3.Cost.length : Nat) : Int) : Int) != ((b3.Kinds.length : Nat) : Int)) = false) (bneF h8)<|P1 (cs_l1All hr9)<|P2 (r9 = true) (h10)<|P1 (cs_l1In hr11)<|P2 (r11 = true) (h12)<|P1 (cs_l1In hr13)<|P2 (r13 = false) (eqF h14)<|P0)))
  (fun h12 H =>
  eN H<|gE func142 [rg [{ i := 2, call := some { cl := true, auto := true, ins := [], res := (RB r4), G' := [] }, dec := some true }, hC 9 true [] (RI r6) [], hF 11, hF 20, { i := 25, call := some { cl := true, auto := true, ins := [], res := (RB r9), G' := [] }, dec := some true }, { i := 31, call := some { cl := true, auto := true, ins := [], res := (RB r11), G' := [] }, dec := some false }], r0] (by kernel_rfl) (P1 (cs_rName hr4)<|P2 (r4 = true) (h5)<|P1 (cs_rTerrain hr6)<|P2 (((r6 : Int) != t2) = false) (bneF h7)<|P2 (((((x3.Cost.length : Nat) : Int) : Int) != ((b3.Kinds.length : Nat) : Int)) = false) (bneF h8)<|P1 (cs_l1All hr9)<|P2 (r9 = true) (h10)<|P1 (cs_l1In hr11)<|P2 (r11 = false) (eqF h12)<|P0)))
  (fun h10 H =>
  eN H<|gE func142 [rg [{ i := 2, call := some { cl := true, auto := true, ins := [], res := (RB r4), G' := [] }, dec := some true }, hC 9 true [] (RI r6) [], hF 11, hF 20, { i := 25, call := some { cl := true, auto := true, ins := [], res := (RB r9), G' := [] }, dec := some false }], r0] (by kernel_rfl) (P1 (cs_rName hr4)<|P2 (r4 = true) (h5)<|P1 (cs_rTerrain hr6)<|P2 (((r6 : Int) != t2) = false) (bneF h7)<|P2 (((((x3.Cost.length : Nat) : Int) : Int) != ((b3.Kinds.length : Nat) : Int)) = false) (bneF h8)<|P1 (cs_l1All hr9)<|P2 (r9 = false) (eqF h10)<|P0)))
  (fun h8 H =>
  eN H<|gE func142 [rg [{ i := 2, call := some { cl := true, auto := true, ins := [], res := (RB r4), G' := [] }, dec := some true }, hC 9 true [] (RI r6) [], hF 11, hT 20], r0] (by kernel_rfl) (P1 (cs_rName hr4)<|P2 (r4 = true) (h5)<|P1 (cs_rTerrain hr6)<|P2 (((r6 : Int) != t2) = false) (bneF h7)<|P2 (((((x3.Cost.length : Nat) : Int) : Int) != ((b3.Kinds.length : Nat) : Int)) = true) (bneT h8)<|P0)))
  (fun h7 H =>
  eN H<|gE func142 [rg [{ i := 2, call := some { cl := true, auto := true, ins := [], res := (RB r4), G' := [] }, dec := some true }, hC 9 true [] (RI r6) [], hT 11], r0] (by kernel_rfl) (P1 (cs_rName hr4)<|P2 (r4 = true) (h5)<|P1 (cs_rTerrain hr6)<|P2 (((r6 : Int) != t2) = true) (bneT h7)<|P0)))
  (fun h5 H =>
  eN H<|gE func142 [rg [{ i := 2, call := some { cl := true, auto := true, ins := [], res := (RB r4), G' := [] }, dec := some false }], r0] (by kernel_rfl) (P1 (cs_rName hr4)<|P2 (r4 = false) (eqF h5)<|P0)))
  (fun h1 H =>
  eN H fun r hn => gO [rg [hF 0], r0, .canon [0] [1, 69, 70, 71]] (by kernel_rfl) (P2 ((decide (t2 < t1)) = false) (decide_eq_false h1)<|P0) hn)
 | .h2 t0 t1 t2 b3, o, H =>
  eIf H (fun h1 H =>
  eCk H fun h2 H =>
  eBind H fun x3 hx3 H =>
  eBind H fun r4 hr4 H =>
  gN [rg [hT 0], rg [hE 2 (gi_Kind x3)]] (by kernel_rfl) (P2 ((decide (t2 < t1)) = true) (decide_eq_true h1)<|P1 h2<|P1 (int_lt_of_at h2 hx3)<|P1 (at_map gi_Kind hx3)<|P0) <|
  eIf H (fun h5 H =>
  eBind H fun r6 hr6 H =>
  eIf H (fun h7 H =>
  eBind H fun r8 hr8 H =>
  eIf H (fun h9 H =>
  eBind H fun r10 hr10 H =>
  eIf H (fun h11 H =>
  eBind H fun r12 hr12 H =>
  eIf H (fun h13 H =>
  eBind H fun r14 hr14 H =>
  eIf H (fun h15 H =>
  eN H fun r hn => gO [rg [{ i := 2, call := some { cl := true, auto := true, ins := [], res := (RB r4), G' := [] }, dec := some true }, hC 9 true [] (RI r6) [], hF 11, { i := 16, call := some { cl := true, auto := true, ins := [], res := (RB r8), G' := [] }, dec := some true }, { i := 22, call := some { cl := true, auto := true, ins := [], res := (RB r10), G' := [] }, dec := some true }, { i := 28, call := some { cl := true, auto := true, ins := [], res := (RB r12), G' := [] }, dec := some true }, { i := 34, call := some { cl := true, auto := true, ins := [], res := (RB r14), G' := [] }, dec := some true }], r0, .canon [0] [1, 69, 70, 71]] (by kernel_rfl) (P1 (cs_rName hr4)<|P2 (r4 = true) (h5)<|P1 (cs_rKind hr6)<|P2 (((r6 : Int) != t2) = false) (bneF h7)<|P1 (cs_l1In hr8)<|P2 (r8 = true) (h9)<|P1 (cs_l1In hr10)<|P2 (r10 = true) (h11)<|P1 (cs_l1In hr12)<|P2 (r12 = true) (h13)<|P1 (cs_l1In hr14)<|P2 (r14 = true) (h15)<|P0) hn)
  (fun h15 H =>
  eN H<|gE func142 [rg [{ i := 2, call := some { cl := true, auto := true, ins := [], res := (RB r4), G' := [] }, dec := some true }, hC 9 true [] (RI r6) [], hF 11, { i := 16, call := some { cl := true, auto := true, ins := [], res := (RB r8), G' := [] }, dec := some true }, { i := 22, call := some { cl := true, auto := true, ins := [], res := (RB r10), G' := [] }, dec := some true }, { i := 28, call := some { cl := true, auto := true, ins := [], res := (RB r12), G' := [] }, dec := some true }, { i := 34, call := some { cl := true, auto := true, ins := [], res := (RB r14), G' := [] }, dec := some false }], r0] (by kernel_rfl) (P1 (cs_rName hr4)<|P2 (r4 = true) (h5)<|P1 (cs_rKind hr6)<|P2 (((r6 : Int) != t2) = false) (bneF h7)<|P1 (cs_l1In hr8)<|P2 (r8 = true) (h9)<|P1 (cs_l1In hr10)<|P2 (r10 = true) (h11)<|P1 (cs_l1In hr12)<|P2 (r12 = true) (h13)<|P1 (cs_l1In hr14)<|P2 (r14 = false) (eqF h15)<|P0)))
  (fun h13 H =>
  eN H<|gE func142 [rg [{ i := 2, call := some { cl := true, auto := true, ins := [], res := (RB r4), G' := [] }, dec := some true }, hC 9 true [] (RI r6) [], hF 11, { i := 16, call := some { cl := true, auto := true, ins := [], res := (RB r8), G' := [] }, dec := some true }, { i := 22, call := some { cl := true, auto := true, ins := [], res := (RB r10), G' := [] }, dec := some true }, { i := 28, call := some { cl := true, auto := true, ins := [], res := (RB r12), G' := [] }, dec := some false }], r0] (by kernel_rfl) (P1 (cs_rName hr4)<|P2 (r4 = true) (h5)<|P1 (cs_rKind hr6)<|P2 (((r6 : Int) != t2) = false) (bneF h7)<|P1 (cs_l1In hr8)<|P2 (r8 = true) (h9)<|P1 (cs_l1In hr10)<|P2 (r10 = true) (h11)<|P1 (cs_l1In hr12)<|P2 (r12 = false) (eqF h13)<|P0)))
  (fun h11 H =>
  eN H<|gE func142 [rg [{ i := 2, call := some { cl := true, auto := true, ins := [], res := (RB r4), G' := [] }, dec := some true }, hC 9 true [] (RI r6) [], hF 11, { i := 16, call := some { cl := true, auto := true, ins := [], res := (RB r8), G' := [] }, dec := some true }, { i := 22, call := some { cl := true, auto := true, ins := [], res := (RB r10), G' := [] }, dec := some false }], r0] (by kernel_rfl) (P1 (cs_rName hr4)<|P2 (r4 = true) (h5)<|P1 (cs_rKind hr6)<|P2 (((r6 : Int) != t2) = false) (bneF h7)<|P1 (cs_l1In hr8)<|P2 (r8 = true) (h9)<|P1 (cs_l1In hr10)<|P2 (r10 = false) (eqF h11)<|P0)))
  (fun h9 H =>
  eN H<|gE func142 [rg [{ i := 2, call := some { cl := true, auto := true, ins := [], res := (RB r4), G' := [] }, dec := some true }, hC 9 true [] (RI r6) [], hF 11, { i := 16, call := some { cl := true, auto := true, ins := [], res := (RB r8), G' := [] }, dec := some false }], r0] (by kernel_rfl) (P1 (cs_rName hr4)<|P2 (r4 = true) (h5)<|P1 (cs_rKind hr6)<|P2 (((r6 : Int) != t2) = false) (bneF h7)<|P1 (cs_l1In hr8)<|P2 (r8 = false) (eqF h9)<|P0)))
  (fun h7 H =>
  eN H<|gE func142 [rg [{ i := 2, call := some { cl := true, auto := true, ins := [], res := (RB r4), G' := [] }, dec := some true }, hC 9 true [] (RI r6) [], hT 11], r0] (by kernel_rfl) (P1 (cs_rName hr4)<|P2 (r4 = true) (h5)<|P1 (cs_rKind hr6)<|P2 (((r6 : Int) != t2) = true) (bneT h7)<|P0)))
  (fun h5 H =>
  eN H<|gE func142 [rg [{ i := 2, call := some { cl := true, auto := true, ins := [], res := (RB r4), G' := [] }, dec := some false }], r0] (by kernel_rfl) (P1 (cs_rName hr4)<|P2 (r4 = false) (eqF h5)<|P0)))
  (fun h1 H =>
  eBind H fun r2 hr2 H =>
  gN [rg [hF 0]] (by kernel_rfl) (P2 ((decide (t2 < t1)) = false) (decide_eq_false h1)<|P0) <|
  eIf H (fun h3 H =>
  eBind H fun r4 hr4 H =>
  eIf H (fun h5 H =>
  eBind H fun r6 hr6 H =>
  eIf H (fun h7 H =>
  eBind H fun r8 hr8 H =>
  eIf H (fun h9 H =>
  eBind H fun r10 hr10 H =>
  eN H<|gE func142 [rg [{ i := 2, call := some { cl := true, auto := true, ins := [], res := (RB r2), G' := [] }, dec := some true }, { i := 6, call := some { cl := true, auto := true, ins := [], res := (RB r4), G' := [] }, dec := some true }, { i := 11, call := some { cl := true, auto := true, ins := [], res := (RB r6), G' := [] }, dec := some true }, { i := 16, call := some { cl := true, auto := true, ins := [], res := (RB r8), G' := [] }, dec := some true }, hC 21 true [] (RB r10) []]] (by kernel_rfl) (P1 (cs_l1In hr2)<|P2 (r2 = true) (h3)<|P1 (cs_l1In hr4)<|P2 (r4 = true) (h5)<|P1 (cs_l1In hr6)<|P2 (r6 = true) (h7)<|P1 (cs_l1In hr8)<|P2 (r8 = true) (h9)<|P1 (cs_l1In hr10)<|P0))
  (fun h9 H =>
  eN H<|gE func142 [rg [{ i := 2, call := some { cl := true, auto := true, ins := [], res := (RB r2), G' := [] }, dec := some true }, { i := 6, call := some { cl := true, auto := true, ins := [], res := (RB r4), G' := [] }, dec := some true }, { i := 11, call := some { cl := true, auto := true, ins := [], res := (RB r6), G' := [] }, dec := some true }, { i := 16, call := some { cl := true, auto := true, ins := [], res := (RB r8), G' := [] }, dec := some false }]] (by kernel_rfl) (P1 (cs_l1In hr2)<|P2 (r2 = true) (h3)<|P1 (cs_l1In hr4)<|P2 (r4 = true) (h5)<|P1 (cs_l1In hr6)<|P2 (r6 = true) (h7)<|P1 (cs_l1In hr8)<|P2 (r8 = false) (eqF h9)<|P0)))
  (fun h7 H =>
  eN H<|gE func142 [rg [{ i := 2, call := some { cl := true, auto := true, ins := [], res := (RB r2), G' := [] }, dec := some true }, { i := 6, call := some { cl := true, auto := true, ins := [], res := (RB r4), G' := [] }, dec := some true }, { i := 11, call := some { cl := true, auto := true, ins := [], res := (RB r6), G' := [] }, dec := some false }]] (by kernel_rfl) (P1 (cs_l1In hr2)<|P2 (r2 = true) (h3)<|P1 (cs_l1In hr4)<|P2 (r4 = true) (h5)<|P1 (cs_l1In hr6)<|P2 (r6 = false) (eqF h7)<|P0)))
  (fun h5 H =>
  eN H<|gE func142 [rg [{ i := 2, call := some { cl := true, auto := true, ins := [], res := (RB r2), G' := [] }, dec := some true }, { i := 6, call := some { cl := true, auto := true, ins := [], res := (RB r4), G' := [] }, dec := some false }]] (by kernel_rfl) (P1 (cs_l1In hr2)<|P2 (r2 = true) (h3)<|P1 (cs_l1In hr4)<|P2 (r4 = false) (eqF h5)<|P0)))
  (fun h3 H =>
  eN H<|gE func142 [rg [{ i := 2, call := some { cl := true, auto := true, ins := [], res := (RB r2), G' := [] }, dec := some false }]] (by kernel_rfl) (P1 (cs_l1In hr2)<|P2 (r2 = false) (eqF h3)<|P0)))
theorem ws_rGood : ∀ s r, loop Bs_rGood s = some r → Wc X 142 0 (Ks_rGood s) (Zs_rGood s) (RB r) ((fun _ => []) r) := Nx.all (ns_rGood)
theorem cs_rGood {a0 : Gi_Rules} {r : Bool} (H : Ds_rGood a0 = some r) : Ct X.P X.gl 142 [gi_Rules a0] [] (RB r) [] :=
 Ct.of func142 (c := bdy f142) (by kernel_rfl) (by kernel_rfl) <|
 eBind H fun r1 hr1 H =>
 gS [r0] (by kernel_rfl) P0 <|
 eIf H (fun h2 H =>
 eBind H fun r3 hr3 H =>
 eIf H (fun h4 H =>
 gO [rg [{ i := 3, call := some { cl := true, auto := true, ins := [], res := (RB r1), G' := [] }, dec := some true }, { i := 9, call := some { cl := true, auto := true, ins := [], res := (RB r3), G' := [] }, dec := some true }], r0, .canon [0] [1, 20, 21, 22]] (by kernel_rfl) (P1 (cs_l1In hr1)<|P2 (r1 = true) (h2)<|P1 (cs_l1In hr3)<|P2 (r3 = true) (h4)<|P0) (ws_rGood _ _ H))
 (fun h4 H =>
 eW RB (fun _ => []) H<|gE func142 [rg [{ i := 3, call := some { cl := true, auto := true, ins := [], res := (RB r1), G' := [] }, dec := some true }, { i := 9, call := some { cl := true, auto := true, ins := [], res := (RB r3), G' := [] }, dec := some false }], r0] (by kernel_rfl) (P1 (cs_l1In hr1)<|P2 (r1 = true) (h2)<|P1 (cs_l1In hr3)<|P2 (r3 = false) (eqF h4)<|P0)))
 (fun h2 H =>
 eW RB (fun _ => []) H<|gE func142 [rg [{ i := 3, call := some { cl := true, auto := true, ins := [], res := (RB r1), G' := [] }, dec := some false }], r0] (by kernel_rfl) (P1 (cs_l1In hr1)<|P2 (r1 = false) (eqF h2)<|P0))
theorem cs_mSize {a0 : Gi_Map} {r : Int} (H : Ds_mSize a0 = some r) : Ct X.P X.gl 123 [gi_Map a0] [] (RI r) [] :=
 Ct.of func123 (c := bdy f123) (by kernel_rfl) (by kernel_rfl) <|
 eW RI (fun _ => []) H<|gE func123 [r0, r0] (by kernel_rfl) P0
def Rs_mHex (r : Gi_Hex) : List D := [.agg [I r.Q, I r.R]]
theorem cs_mHex {a0 : Gi_Map} {a1 : Int} {r : Gi_Hex} (H : Ds_mHex a0 a1 = some r) : Ct X.P X.gl 125 [gi_Map a0, I a1] [] (Rs_mHex r) [] :=
 Ct.of func125 (c := bdy f125) (by kernel_rfl) (by kernel_rfl) <|
 eCk H fun h1 H =>
 eCk H fun h2 H =>
 eW Rs_mHex (fun _ => []) H<|gE func125 [r0, r0] (by kernel_rfl) (P2 (¬ (a0.Width : Int) = 0) h1<|P2 (¬ (a0.Width : Int) = 0) h2<|P0)
def Rs_hStep (r : Gi_Hex) : List D := [.agg [I r.Q, I r.R]]
theorem cs_hStep {a0 : Gi_Hex} {a1 : Int} {r : Gi_Hex} (H : Ds_hStep a0 a1 = some r) : Ct X.P X.gl 252 [gi_Hex a0, I a1] [] (Rs_hStep r) [] :=
 Ct.of func252 (c := bdy f252) (by kernel_rfl) (by kernel_rfl) <|
 eCk H fun h1 H =>
 eBind H fun x2 hx2 H =>
 eCk H fun h3 H =>
 eBind H fun x4 hx4 H =>
 eW Rs_hStep (fun _ => []) H<|gE func252 [r0, rg [hE 5 (I x2), hE 12 (I x4)]] (by kernel_rfl) (P1 h1<|P1 (int_lt_of_at h1 hx2)<|P1 (at_map I hx2)<|P1 h3<|P1 (int_lt_of_at h3 hx4)<|P1 (at_map I hx4)<|P0)
theorem cs_mIndex {a0 : Gi_Map} {a1 : Gi_Hex} {r : Int} (H : Ds_mIndex a0 a1 = some r) : Ct X.P X.gl 251 [gi_Map a0, gi_Hex a1] [] (RI r) [] :=
 Ct.of func251 (c := bdy f251) (by kernel_rfl) (by kernel_rfl) <|
 eBind H fun r1 hr1 H =>
 gS [r0] (by kernel_rfl) P0 <|
 eIf H (fun h2 H =>
 eBind H fun r3 hr3 H =>
 eIf H (fun h4 H =>
 eW RI (fun _ => []) H<|gE func251 [rg [{ i := 5, call := some { cl := true, auto := true, ins := [], res := (RB r1), G' := [] }, dec := some true }, { i := 13, call := some { cl := true, auto := true, ins := [], res := (RB r3), G' := [] }, dec := some true }], r0] (by kernel_rfl) (P1 (cs_l1In hr1)<|P2 (r1 = true) (h2)<|P1 (cs_l1In hr3)<|P2 (r3 = true) (h4)<|P0))
 (fun h4 H =>
 eW RI (fun _ => []) H<|gE func251 [rg [{ i := 5, call := some { cl := true, auto := true, ins := [], res := (RB r1), G' := [] }, dec := some true }, { i := 13, call := some { cl := true, auto := true, ins := [], res := (RB r3), G' := [] }, dec := some false }], r0] (by kernel_rfl) (P1 (cs_l1In hr1)<|P2 (r1 = true) (h2)<|P1 (cs_l1In hr3)<|P2 (r3 = false) (eqF h4)<|P0)))
 (fun h2 H =>
 eW RI (fun _ => []) H<|gE func251 [rg [{ i := 5, call := some { cl := true, auto := true, ins := [], res := (RB r1), G' := [] }, dec := some false }], r0] (by kernel_rfl) (P1 (cs_l1In hr1)<|P2 (r1 = false) (eqF h2)<|P0))
theorem cs_mNext {a0 : Gi_Map} {a1 : Int} {a2 : Int} {r : Int} (H : Ds_mNext a0 a1 a2 = some r) : Ct X.P X.gl 215 [gi_Map a0, I a1, I a2] [] (RI r) [] :=
 Ct.of func215 (c := bdy f215) (by kernel_rfl) (by kernel_rfl) <|
 eBind H fun r1 hr1 H =>
 eBind H fun r2 hr2 H =>
 eBind H fun r3 hr3 H =>
 eW RI (fun _ => []) H<|gE func215 [r0, rg [hC 3 true [] (Rs_mHex r1) [], hC 5 true [] (Rs_hStep r2) [], hC 6 true [] (RI r3) []]] (by kernel_rfl) (P1 (cs_mHex hr1)<|P1 (cs_hStep hr2)<|P1 (cs_mIndex hr3)<|P0)
noncomputable def Ks_l1Rising : Ss_l1Rising → List Item
 | .h1 .. => nav 300 2 [] [.code (bdy f148)]
def Zs_l1Rising : Ss_l1Rising → St
 | .h1 l0 lo1 vhi2 t3 t4 t5 => ⟨sts 35 [(0, sl 1 I l0), (1, I lo1), (2, I vhi2), (9, sl 1 I t3), (10, I t4), (11, I t5)], []⟩
abbrev Qs_l1Rising := Nx X 148 0 Ks_l1Rising Zs_l1Rising RB (fun _ => [])
theorem ns_l1Rising : ∀ s o, Bs_l1Rising s = some o → Qs_l1Rising (Ks_l1Rising s) (Zs_l1Rising s) o
 | .h1 l0 lo1 vhi2 t3 t4 t5, o, H =>
  eIf H (fun h1 H =>
  eCk H fun h2 H =>
  eBind H fun x3 hx3 H =>
  eBind H fun r4 hr4 H =>
  gN [rg [hT 0], rg [hE 2 (I x3)]] (by kernel_rfl) (P2 ((decide (t5 < t4)) = true) (decide_eq_true h1)<|P1 h2<|P1 (int_lt_of_at h2 hx3)<|P1 (at_map I hx3)<|P0) <|
  eIf H (fun h5 H =>
  eIf H (fun h6 H =>
  eCk H fun h7 H =>
  eBind H fun x8 hx8 H =>
  eIf H (fun h9 H =>
  eN H<|gE func148 [rg [{ i := 3, call := some { cl := true, auto := true, ins := [], res := (RB r4), G' := [] }, dec := some true }, hT 7, hE 13 (I x8), hT 15], r0] (by kernel_rfl) (P1 (cs_l1In hr4)<|P2 (r4 = true) (h5)<|P2 ((decide (t5 > 0)) = true) (decide_eq_true h6)<|P1 h7<|P1 (int_lt_of_at h7 hx8)<|P1 (at_map I hx8)<|P2 ((decide (x8 ≥ x3)) = true) (decide_eq_true h9)<|P0))
  (fun h9 H =>
  eN H fun r hn => gO [rg [{ i := 3, call := some { cl := true, auto := true, ins := [], res := (RB r4), G' := [] }, dec := some true }, hT 7, hE 13 (I x8), hF 15], r0, .canon [] [0, 1, 2, 9, 10, 11]] (by kernel_rfl) (P1 (cs_l1In hr4)<|P2 (r4 = true) (h5)<|P2 ((decide (t5 > 0)) = true) (decide_eq_true h6)<|P1 h7<|P1 (int_lt_of_at h7 hx8)<|P1 (at_map I hx8)<|P2 ((decide (x8 ≥ x3)) = false) (decide_eq_false h9)<|P0) hn))
  (fun h6 H =>
  eN H fun r hn => gO [rg [{ i := 3, call := some { cl := true, auto := true, ins := [], res := (RB r4), G' := [] }, dec := some true }, hF 7], r0, .canon [] [0, 1, 2, 9, 10, 11]] (by kernel_rfl) (P1 (cs_l1In hr4)<|P2 (r4 = true) (h5)<|P2 ((decide (t5 > 0)) = false) (decide_eq_false h6)<|P0) hn))
  (fun h5 H =>
  eN H<|gE func148 [rg [{ i := 3, call := some { cl := true, auto := true, ins := [], res := (RB r4), G' := [] }, dec := some false }], r0] (by kernel_rfl) (P1 (cs_l1In hr4)<|P2 (r4 = false) (eqF h5)<|P0)))
  (fun h1 H =>
  eN H<|gE func148 [rg [hF 0], r0] (by kernel_rfl) (P2 ((decide (t5 < t4)) = false) (decide_eq_false h1)<|P0))
theorem ws_l1Rising : ∀ s r, loop Bs_l1Rising s = some r → Wc X 148 0 (Ks_l1Rising s) (Zs_l1Rising s) (RB r) ((fun _ => []) r) := Nx.all (ns_l1Rising)
theorem cs_l1Rising {a0 : (List Int)} {a1 : Int} {a2 : Int} {r : Bool} (H : Ds_l1Rising a0 a1 a2 = some r) : Ct X.P X.gl 148 [sl 1 I a0, I a1, I a2] [] (RB r) [] :=
 Ct.of func148 (c := bdy f148) (by kernel_rfl) (by kernel_rfl) <|
 gO [r0, r0, .canon [] [0, 1, 2, 9, 10, 11]] (by kernel_rfl) P0 (ws_l1Rising _ _ H)
noncomputable def Ks_mEdges : Ss_mEdges → List Item
 | .h1 .. => nav 300 2 [] [.code (bdy f199)]
def Zs_mEdges : Ss_mEdges → St
 | .h1 l0 t1 t2 t3 b4 => ⟨sts 36 [(1, sl 1 I l0), (2, .ptr 0 5 0 0), (7, sl 1 I t1), (8, I t2), (9, I t3)], [some ⟨false, true, 5, 1, [gi_Map b4]⟩]⟩
abbrev Qs_mEdges := Nx X 199 0 Ks_mEdges Zs_mEdges RB (fun _ => [])
theorem ns_mEdges : ∀ s o, Bs_mEdges s = some o → Qs_mEdges (Ks_mEdges s) (Zs_mEdges s) o
 | .h1 l0 t1 t2 t3 b4, o, H =>
  eIf H (fun h1 H =>
  eCk H fun h2 H =>
  eBind H fun x3 hx3 H =>
  eBind H fun r4 hr4 H =>
  eBind H fun r5 hr5 H =>
  gN [rg [hT 0], rg [hE 1 (I x3)]] (by kernel_rfl) (P2 ((decide (t3 < t2)) = true) (decide_eq_true h1)<|P1 h2<|P1 (int_lt_of_at h2 hx3)<|P1 (at_map I hx3)<|P0) <|
  eIf H (fun h6 H =>
  eBind H fun r7 hr7 H =>
  eIf H (fun h8 H =>
  eN H<|gE func199 [rg [hC 2 true [] (RI r4) [], { i := 5, call := some { cl := true, auto := true, ins := [], res := (RB r5), G' := [] }, dec := some true }, hC 13 true [] (RI r7) [], hT 14], r0] (by kernel_rfl) (P1 (cs_mSize hr4)<|P1 (cs_l1In hr5)<|P2 (r5 = true) (h6)<|P2 (¬ (3 : Int) = 0) (by decide)<|P2 (¬ (3 : Int) = 0) (by decide)<|P1 (cs_mNext hr7)<|P2 ((decide (r7 < 0)) = true) (decide_eq_true h8)<|P0))
  (fun h8 H =>
  eN H fun r hn => gO [rg [hC 2 true [] (RI r4) [], { i := 5, call := some { cl := true, auto := true, ins := [], res := (RB r5), G' := [] }, dec := some true }, hC 13 true [] (RI r7) [], hF 14], r0, .canon [0] [1, 2, 7, 8, 9]] (by kernel_rfl) (P1 (cs_mSize hr4)<|P1 (cs_l1In hr5)<|P2 (r5 = true) (h6)<|P2 (¬ (3 : Int) = 0) (by decide)<|P2 (¬ (3 : Int) = 0) (by decide)<|P1 (cs_mNext hr7)<|P2 ((decide (r7 < 0)) = false) (decide_eq_false h8)<|P0) hn))
  (fun h6 H =>
  eN H<|gE func199 [rg [hC 2 true [] (RI r4) [], { i := 5, call := some { cl := true, auto := true, ins := [], res := (RB r5), G' := [] }, dec := some false }], r0] (by kernel_rfl) (P1 (cs_mSize hr4)<|P1 (cs_l1In hr5)<|P2 (r5 = false) (eqF h6)<|P0)))
  (fun h1 H =>
  eBind H fun r2 hr2 H =>
  eBind H fun r3 hr3 H =>
  eN H<|gE func199 [rg [hF 0], rg [hC 2 true [] (RI r2) [], hC 5 true [] (RB r3) []]] (by kernel_rfl) (P2 ((decide (t3 < t2)) = false) (decide_eq_false h1)<|P1 (cs_mSize hr2)<|P1 (cs_l1Rising hr3)<|P0))
theorem ws_mEdges : ∀ s r, loop Bs_mEdges s = some r → Wc X 199 0 (Ks_mEdges s) (Zs_mEdges s) (RB r) ((fun _ => []) r) := Nx.all (ns_mEdges)
theorem cs_mEdges {a0 : Gi_Map} {a1 : (List Int)} {r : Bool} (H : Ds_mEdges a0 a1 = some r) : Ct X.P X.gl 199 [gi_Map a0, sl 1 I a1] [] (RB r) [] :=
 Ct.of func199 (c := bdy f199) (by kernel_rfl) (by kernel_rfl) <|
 gO [r0, r0, .canon [0] [1, 2, 7, 8, 9]] (by kernel_rfl) P0 (ws_mEdges _ _ H)
theorem cs_mGood {a0 : Gi_Map} {r : Bool} (H : Ds_mGood a0 = some r) : Ct X.P X.gl 143 [gi_Map a0] [] (RB r) [] :=
 Ct.of func143 (c := bdy f143) (by kernel_rfl) (by kernel_rfl) <|
 eBind H fun r1 hr1 H =>
 gS [r0] (by kernel_rfl) P0 <|
 eIf H (fun h2 H =>
 eBind H fun r3 hr3 H =>
 eIf H (fun h4 H =>
 eBind H fun r5 hr5 H =>
 eIf H (fun h6 H =>
 eBind H fun r7 hr7 H =>
 eIf H (fun h8 H =>
 eBind H fun r9 hr9 H =>
 eIf H (fun h10 H =>
 eBind H fun r11 hr11 H =>
 eW RB (fun _ => []) H<|gE func143 [rg [{ i := 2, call := some { cl := true, auto := true, ins := [], res := (RB r1), G' := [] }, dec := some true }, { i := 6, call := some { cl := true, auto := true, ins := [], res := (RB r3), G' := [] }, dec := some true }, hC 13 true [] (RI r5) [], hT 14, { i := 19, call := some { cl := true, auto := true, ins := [], res := (RB r7), G' := [] }, dec := some true }, { i := 25, call := some { cl := true, auto := true, ins := [], res := (RB r9), G' := [] }, dec := some true }, hC 31 true [] (RB r11) []]] (by kernel_rfl) (P1 (cs_l1In hr1)<|P2 (r1 = true) (h2)<|P1 (cs_l1In hr3)<|P2 (r3 = true) (h4)<|P1 (cs_mSize hr5)<|P2 (((((a0.Terrain.length : Nat) : Int) : Int) == r5) = true) (beqT h6)<|P1 (cs_l1All hr7)<|P2 (r7 = true) (h8)<|P1 (cs_mEdges hr9)<|P2 (r9 = true) (h10)<|P1 (cs_mEdges hr11)<|P0))
 (fun h10 H =>
 eW RB (fun _ => []) H<|gE func143 [rg [{ i := 2, call := some { cl := true, auto := true, ins := [], res := (RB r1), G' := [] }, dec := some true }, { i := 6, call := some { cl := true, auto := true, ins := [], res := (RB r3), G' := [] }, dec := some true }, hC 13 true [] (RI r5) [], hT 14, { i := 19, call := some { cl := true, auto := true, ins := [], res := (RB r7), G' := [] }, dec := some true }, { i := 25, call := some { cl := true, auto := true, ins := [], res := (RB r9), G' := [] }, dec := some false }]] (by kernel_rfl) (P1 (cs_l1In hr1)<|P2 (r1 = true) (h2)<|P1 (cs_l1In hr3)<|P2 (r3 = true) (h4)<|P1 (cs_mSize hr5)<|P2 (((((a0.Terrain.length : Nat) : Int) : Int) == r5) = true) (beqT h6)<|P1 (cs_l1All hr7)<|P2 (r7 = true) (h8)<|P1 (cs_mEdges hr9)<|P2 (r9 = false) (eqF h10)<|P0)))
 (fun h8 H =>
 eW RB (fun _ => []) H<|gE func143 [rg [{ i := 2, call := some { cl := true, auto := true, ins := [], res := (RB r1), G' := [] }, dec := some true }, { i := 6, call := some { cl := true, auto := true, ins := [], res := (RB r3), G' := [] }, dec := some true }, hC 13 true [] (RI r5) [], hT 14, { i := 19, call := some { cl := true, auto := true, ins := [], res := (RB r7), G' := [] }, dec := some false }]] (by kernel_rfl) (P1 (cs_l1In hr1)<|P2 (r1 = true) (h2)<|P1 (cs_l1In hr3)<|P2 (r3 = true) (h4)<|P1 (cs_mSize hr5)<|P2 (((((a0.Terrain.length : Nat) : Int) : Int) == r5) = true) (beqT h6)<|P1 (cs_l1All hr7)<|P2 (r7 = false) (eqF h8)<|P0)))
 (fun h6 H =>
 eW RB (fun _ => []) H<|gE func143 [rg [{ i := 2, call := some { cl := true, auto := true, ins := [], res := (RB r1), G' := [] }, dec := some true }, { i := 6, call := some { cl := true, auto := true, ins := [], res := (RB r3), G' := [] }, dec := some true }, hC 13 true [] (RI r5) [], hF 14]] (by kernel_rfl) (P1 (cs_l1In hr1)<|P2 (r1 = true) (h2)<|P1 (cs_l1In hr3)<|P2 (r3 = true) (h4)<|P1 (cs_mSize hr5)<|P2 (((((a0.Terrain.length : Nat) : Int) : Int) == r5) = false) (beqF h6)<|P0)))
 (fun h4 H =>
 eW RB (fun _ => []) H<|gE func143 [rg [{ i := 2, call := some { cl := true, auto := true, ins := [], res := (RB r1), G' := [] }, dec := some true }, { i := 6, call := some { cl := true, auto := true, ins := [], res := (RB r3), G' := [] }, dec := some false }]] (by kernel_rfl) (P1 (cs_l1In hr1)<|P2 (r1 = true) (h2)<|P1 (cs_l1In hr3)<|P2 (r3 = false) (eqF h4)<|P0)))
 (fun h2 H =>
 eW RB (fun _ => []) H<|gE func143 [rg [{ i := 2, call := some { cl := true, auto := true, ins := [], res := (RB r1), G' := [] }, dec := some false }]] (by kernel_rfl) (P1 (cs_l1In hr1)<|P2 (r1 = false) (eqF h2)<|P0))
theorem cs_bGood {a0 : Gi_Board} {r : Bool} (H : Ds_bGood a0 = some r) : Ct X.P X.gl 93 [gi_Board a0] [] (RB r) [] :=
 Ct.of func93 (c := bdy f93) (by kernel_rfl) (by kernel_rfl) <|
 eBind H fun r1 hr1 H =>
 gS [r0] (by kernel_rfl) P0 <|
 eIf H (fun h2 H =>
 eBind H fun r3 hr3 H =>
 eIf H (fun h4 H =>
 eBind H fun r5 hr5 H =>
 eW RB (fun _ => []) H<|gE func93 [rg [{ i := 2, call := some { cl := true, auto := true, ins := [], res := (RB r1), G' := [] }, dec := some true }, { i := 6, call := some { cl := true, auto := true, ins := [], res := (RB r3), G' := [] }, dec := some true }, hC 17 true [] (RB r5) []]] (by kernel_rfl) (P1 (cs_rGood hr1)<|P2 (r1 = true) (h2)<|P1 (cs_mGood hr3)<|P2 (r3 = true) (h4)<|P1 (cs_l1All hr5)<|P0))
 (fun h4 H =>
 eW RB (fun _ => []) H<|gE func93 [rg [{ i := 2, call := some { cl := true, auto := true, ins := [], res := (RB r1), G' := [] }, dec := some true }, { i := 6, call := some { cl := true, auto := true, ins := [], res := (RB r3), G' := [] }, dec := some false }]] (by kernel_rfl) (P1 (cs_rGood hr1)<|P2 (r1 = true) (h2)<|P1 (cs_mGood hr3)<|P2 (r3 = false) (eqF h4)<|P0)))
 (fun h2 H =>
 eW RB (fun _ => []) H<|gE func93 [rg [{ i := 2, call := some { cl := true, auto := true, ins := [], res := (RB r1), G' := [] }, dec := some false }]] (by kernel_rfl) (P1 (cs_rGood hr1)<|P2 (r1 = false) (eqF h2)<|P0))
theorem cs_kRows {a0 : Int} {r : Int} (H : Ds_kRows a0 = some r) : Ct X.P X.gl 145 [I a0] [] (RI r) [] :=
 Ct.of func145 (c := bdy f145) (by kernel_rfl) (by kernel_rfl) <|
 eW RI (fun _ => []) H<|gE func145 [r0, r0] (by kernel_rfl) P0
noncomputable def Ks_kGood : Ss_kGood → List Item
 | .h1 .. => nav 300 3 [false] [.code (bdy f94)]
 | .h2 .. => nav 300 5 [false, false] [.code (bdy f94)]
def Zs_kGood : Ss_kGood → St
 | .h1 t0 t1 t2 b3 => ⟨sts 90 [(1, .ptr 0 3 0 0), (28, sl 2 gi_Odds t0), (29, I t1), (30, I t2)], [some ⟨false, true, 3, 1, [gi_CombatTable b3]⟩]⟩
 | .h2 t0 t1 t2 b3 => ⟨sts 90 [(1, .ptr 0 3 0 0), (72, sl 1 (sl 1 I) t0), (73, I t1), (74, I t2)], [some ⟨false, true, 3, 1, [gi_CombatTable b3]⟩]⟩
abbrev Qs_kGood := Nx X 94 0 Ks_kGood Zs_kGood RB (fun _ => [])
theorem ns_kGood : ∀ s o, Bs_kGood s = some o → Qs_kGood (Ks_kGood s) (Zs_kGood s) o
 | .h1 t0 t1 t2 b3, o, H =>
  eIf H (fun h1 H =>
  eCk H fun h2 H =>
  eBind H fun x3 hx3 H =>
  eBind H fun r4 hr4 H =>
  gN [rg [hT 0], rg [hE 2 (gi_Odds x3)]] (by kernel_rfl) (P2 ((decide (t2 < t1)) = true) (decide_eq_true h1)<|P1 h2<|P1 (int_lt_of_at h2 hx3)<|P1 (at_map gi_Odds hx3)<|P0) <|
  eIf H (fun h5 H =>
  eBind H fun r6 hr6 H =>
  eIf H (fun h7 H =>
  gN [rg [{ i := 2, call := some { cl := true, auto := true, ins := [], res := (RB r4), G' := [] }, dec := some true }, { i := 7, call := some { cl := true, auto := true, ins := [], res := (RB r6), G' := [] }, dec := some true }]] (by kernel_rfl) (P1 (cs_l1In hr4)<|P2 (r4 = true) (h5)<|P1 (cs_l1In hr6)<|P2 (r6 = true) (h7)<|P0) <|
  eIf H (fun h8 H =>
  eCk H fun h9 H =>
  eBind H fun x10 hx10 H =>
  eCk H fun h11 H =>
  eBind H fun x12 hx12 H =>
  eIf H (fun h13 H =>
  eN H<|gE func94 [rg [hT 1, hE 9 (gi_Odds x10), hE 21 (gi_Odds x12), hT 23], r0] (by kernel_rfl) (P2 ((decide (t2 > 0)) = true) (decide_eq_true h8)<|P1 h9<|P1 (int_lt_of_at h9 hx10)<|P1 (at_map gi_Odds hx10)<|P1 h11<|P1 (int_lt_of_at h11 hx12)<|P1 (at_map gi_Odds hx12)<|P2 ((decide ((IntKind.wrap .i64 (x10.Num * x3.Den)) ≥ (IntKind.wrap .i64 (x3.Num * x12.Den)))) = true) (decide_eq_true h13)<|P0))
  (fun h13 H =>
  eN H fun r hn => gO [rg [hT 1, hE 9 (gi_Odds x10), hE 21 (gi_Odds x12), hF 23], r0, .canon [0] [1, 28, 29, 30]] (by kernel_rfl) (P2 ((decide (t2 > 0)) = true) (decide_eq_true h8)<|P1 h9<|P1 (int_lt_of_at h9 hx10)<|P1 (at_map gi_Odds hx10)<|P1 h11<|P1 (int_lt_of_at h11 hx12)<|P1 (at_map gi_Odds hx12)<|P2 ((decide ((IntKind.wrap .i64 (x10.Num * x3.Den)) ≥ (IntKind.wrap .i64 (x3.Num * x12.Den)))) = false) (decide_eq_false h13)<|P0) hn))
  (fun h8 H =>
  eN H fun r hn => gO [rg [hF 1], r0, .canon [0] [1, 28, 29, 30]] (by kernel_rfl) (P2 ((decide (t2 > 0)) = false) (decide_eq_false h8)<|P0) hn))
  (fun h7 H =>
  eN H<|gE func94 [rg [{ i := 2, call := some { cl := true, auto := true, ins := [], res := (RB r4), G' := [] }, dec := some true }, { i := 7, call := some { cl := true, auto := true, ins := [], res := (RB r6), G' := [] }, dec := some false }], r0] (by kernel_rfl) (P1 (cs_l1In hr4)<|P2 (r4 = true) (h5)<|P1 (cs_l1In hr6)<|P2 (r6 = false) (eqF h7)<|P0)))
  (fun h5 H =>
  eN H<|gE func94 [rg [{ i := 2, call := some { cl := true, auto := true, ins := [], res := (RB r4), G' := [] }, dec := some false }], r0] (by kernel_rfl) (P1 (cs_l1In hr4)<|P2 (r4 = false) (eqF h5)<|P0)))
  (fun h1 H =>
  eN H fun r hn => gO [rg [hF 0], r0, .canon [0] [1, 72, 73, 74]] (by kernel_rfl) (P2 ((decide (t2 < t1)) = false) (decide_eq_false h1)<|P0) hn)
 | .h2 t0 t1 t2 b3, o, H =>
  eIf H (fun h1 H =>
  eCk H fun h2 H =>
  eBind H fun x3 hx3 H =>
  gN [rg [hT 0], rg [hE 1 ((sl 1 I) x3)]] (by kernel_rfl) (P2 ((decide (t2 < t1)) = true) (decide_eq_true h1)<|P1 h2<|P1 (int_lt_of_at h2 hx3)<|P1 (at_map (sl 1 I) hx3)<|P0) <|
  eIf H (fun h4 H =>
  eBind H fun r5 hr5 H =>
  eIf H (fun h6 H =>
  eN H fun r hn => gO [rg [hF 5, { i := 8, call := some { cl := true, auto := true, ins := [], res := (RB r5), G' := [] }, dec := some true }], r0, .canon [0] [1, 72, 73, 74]] (by kernel_rfl) (P2 (((((x3.length : Nat) : Int) : Int) != ((b3.Columns.length : Nat) : Int)) = false) (bneF h4)<|P1 (cs_l1All hr5)<|P2 (r5 = true) (h6)<|P0) hn)
  (fun h6 H =>
  eN H<|gE func94 [rg [hF 5, { i := 8, call := some { cl := true, auto := true, ins := [], res := (RB r5), G' := [] }, dec := some false }], r0] (by kernel_rfl) (P2 (((((x3.length : Nat) : Int) : Int) != ((b3.Columns.length : Nat) : Int)) = false) (bneF h4)<|P1 (cs_l1All hr5)<|P2 (r5 = false) (eqF h6)<|P0)))
  (fun h4 H =>
  eN H<|gE func94 [rg [hT 5], r0] (by kernel_rfl) (P2 (((((x3.length : Nat) : Int) : Int) != ((b3.Columns.length : Nat) : Int)) = true) (bneT h4)<|P0)))
  (fun h1 H =>
  eN H<|gE func94 [rg [hF 0], r0] (by kernel_rfl) (P2 ((decide (t2 < t1)) = false) (decide_eq_false h1)<|P0))
theorem ws_kGood : ∀ s r, loop Bs_kGood s = some r → Wc X 94 0 (Ks_kGood s) (Zs_kGood s) (RB r) ((fun _ => []) r) := Nx.all (ns_kGood)
theorem cs_kGood {a0 : Gi_CombatTable} {r : Bool} (H : Ds_kGood a0 = some r) : Ct X.P X.gl 94 [gi_CombatTable a0] [] (RB r) [] :=
 Ct.of func94 (c := bdy f94) (by kernel_rfl) (by kernel_rfl) <|
 eBind H fun r1 hr1 H =>
 gS [r0] (by kernel_rfl) P0 <|
 eIf H (fun h2 H =>
 eBind H fun r3 hr3 H =>
 eIf H (fun h4 H =>
 eBind H fun r5 hr5 H =>
 eIf H (fun h6 H =>
 gO [rg [{ i := 3, call := some { cl := true, auto := true, ins := [], res := (RB r1), G' := [] }, dec := some true }, { i := 8, call := some { cl := true, auto := true, ins := [], res := (RB r3), G' := [] }, dec := some true }, hC 17 true [] (RI r5) [], hF 18], r0, .canon [0] [1, 28, 29, 30]] (by kernel_rfl) (P1 (cs_l1In hr1)<|P2 (r1 = true) (h2)<|P1 (cs_l1In hr3)<|P2 (r3 = true) (h4)<|P1 (cs_kRows hr5)<|P2 (((((a0.Results.length : Nat) : Int) : Int) != r5) = false) (bneF h6)<|P0) (ws_kGood _ _ H))
 (fun h6 H =>
 eW RB (fun _ => []) H<|gE func94 [rg [{ i := 3, call := some { cl := true, auto := true, ins := [], res := (RB r1), G' := [] }, dec := some true }, { i := 8, call := some { cl := true, auto := true, ins := [], res := (RB r3), G' := [] }, dec := some true }, hC 17 true [] (RI r5) [], hT 18], r0] (by kernel_rfl) (P1 (cs_l1In hr1)<|P2 (r1 = true) (h2)<|P1 (cs_l1In hr3)<|P2 (r3 = true) (h4)<|P1 (cs_kRows hr5)<|P2 (((((a0.Results.length : Nat) : Int) : Int) != r5) = true) (bneT h6)<|P0)))
 (fun h4 H =>
 eW RB (fun _ => []) H<|gE func94 [rg [{ i := 3, call := some { cl := true, auto := true, ins := [], res := (RB r1), G' := [] }, dec := some true }, { i := 8, call := some { cl := true, auto := true, ins := [], res := (RB r3), G' := [] }, dec := some false }], r0] (by kernel_rfl) (P1 (cs_l1In hr1)<|P2 (r1 = true) (h2)<|P1 (cs_l1In hr3)<|P2 (r3 = false) (eqF h4)<|P0)))
 (fun h2 H =>
 eW RB (fun _ => []) H<|gE func94 [rg [{ i := 3, call := some { cl := true, auto := true, ins := [], res := (RB r1), G' := [] }, dec := some false }], r0] (by kernel_rfl) (P1 (cs_l1In hr1)<|P2 (r1 = false) (eqF h2)<|P0))
def Rs_bTerrain (r : Gi_Terrain) : List D := [.agg [.str r.Name, sl 1 I r.Cost, I r.Shift, I r.Height, .bool r.Blocks]]
theorem cs_bTerrain {a0 : Gi_Board} {a1 : Int} {r : Gi_Terrain} (H : Ds_bTerrain a0 a1 = some r) : Ct X.P X.gl 241 [gi_Board a0, I a1] [] (Rs_bTerrain r) [] :=
 Ct.of func241 (c := bdy f241) (by kernel_rfl) (by kernel_rfl) <|
 eCk H fun h1 H =>
 eBind H fun x2 hx2 H =>
 eCk H fun h3 H =>
 eBind H fun x4 hx4 H =>
 eW Rs_bTerrain (fun _ => []) H<|gE func241 [r0, rg [hE 8 (I x2), hE 10 (gi_Terrain x4)]] (by kernel_rfl) (P1 h1<|P1 (int_lt_of_at h1 hx2)<|P1 (at_map I hx2)<|P1 h3<|P1 (int_lt_of_at h3 hx4)<|P1 (at_map gi_Terrain hx4)<|P0)
theorem cs_bCost {a0 : Gi_Board} {a1 : Int} {a2 : Int} {r : Int} (H : Ds_bCost a0 a1 a2 = some r) : Ct X.P X.gl 200 [gi_Board a0, I a1, I a2] [] (RI r) [] :=
 Ct.of func200 (c := bdy f200) (by kernel_rfl) (by kernel_rfl) <|
 eBind H fun r1 hr1 H =>
 eCk H fun h2 H =>
 eBind H fun x3 hx3 H =>
 eW RI (fun _ => []) H<|gE func200 [r0, rg [hC 2 true [] (Rs_bTerrain r1) [], hE 6 (I x3)]] (by kernel_rfl) (P1 (cs_bTerrain hr1)<|P1 h2<|P1 (int_lt_of_at h2 hx3)<|P1 (at_map I hx3)<|P0)
theorem cs_sUnit {a0 : Gi_Board} {a1 : Gi_Unit} {r : Bool} (H : Ds_sUnit a0 a1 = some r) : Ct X.P X.gl 146 [gi_Board a0, gi_Unit a1] [] (RB r) [] :=
 Ct.of func146 (c := bdy f146) (by kernel_rfl) (by kernel_rfl) <|
 eBind H fun r1 hr1 H =>
 gS [r0] (by kernel_rfl) P0 <|
 eIf H (fun h2 H =>
 eBind H fun r3 hr3 H =>
 eIf H (fun h4 H =>
 eCk H fun h5 H =>
 eBind H fun x6 hx6 H =>
 eBind H fun r7 hr7 H =>
 eIf H (fun h8 H =>
 gS [rg [{ i := 2, call := some { cl := true, auto := true, ins := [], res := (RB r1), G' := [] }, dec := some true }, { i := 12, call := some { cl := true, auto := true, ins := [], res := (RB r3), G' := [] }, dec := some true }, hE 25 (gi_Kind x6), { i := 26, call := some { cl := true, auto := true, ins := [], res := (RB r7), G' := [] }, dec := some true }]] (by kernel_rfl) (P1 (cs_l1In hr1)<|P2 (r1 = true) (h2)<|P1 (cs_l1In hr3)<|P2 (r3 = true) (h4)<|P1 h5<|P1 (int_lt_of_at h5 hx6)<|P1 (at_map gi_Kind hx6)<|P1 (cs_l1In hr7)<|P2 (r7 = true) (h8)<|P0) <|
 eIf H (fun h9 H =>
 eW RB (fun _ => []) H<|gE func146 [rg [hT 2]] (by kernel_rfl) (P2 (((a1.At : Int) == (-1)) = true) (beqT h9)<|P0))
 (fun h9 H =>
 eIf H (fun h10 H =>
 eBind H fun r11 hr11 H =>
 eBind H fun r12 hr12 H =>
 eIf H (fun h13 H =>
 eBind H fun r14 hr14 H =>
 eW RB (fun _ => []) H<|gE func146 [rg [hF 2, hT 6, hC 12 true [] (RI r11) [], { i := 14, call := some { cl := true, auto := true, ins := [], res := (RB r12), G' := [] }, dec := some true }, hC 22 true [] (RI r14) []]] (by kernel_rfl) (P2 (((a1.At : Int) == (-1)) = false) (beqF h9)<|P2 ((decide (a1.Steps > 0)) = true) (decide_eq_true h10)<|P1 (cs_mSize hr11)<|P1 (cs_l1In hr12)<|P2 (r12 = true) (h13)<|P1 (cs_bCost hr14)<|P0))
 (fun h13 H =>
 eW RB (fun _ => []) H<|gE func146 [rg [hF 2, hT 6, hC 12 true [] (RI r11) [], { i := 14, call := some { cl := true, auto := true, ins := [], res := (RB r12), G' := [] }, dec := some false }]] (by kernel_rfl) (P2 (((a1.At : Int) == (-1)) = false) (beqF h9)<|P2 ((decide (a1.Steps > 0)) = true) (decide_eq_true h10)<|P1 (cs_mSize hr11)<|P1 (cs_l1In hr12)<|P2 (r12 = false) (eqF h13)<|P0)))
 (fun h10 H =>
 eW RB (fun _ => []) H<|gE func146 [rg [hF 2, hF 6]] (by kernel_rfl) (P2 (((a1.At : Int) == (-1)) = false) (beqF h9)<|P2 ((decide (a1.Steps > 0)) = false) (decide_eq_false h10)<|P0))))
 (fun h8 H =>
 eW RB (fun _ => []) H<|gE func146 [rg [{ i := 2, call := some { cl := true, auto := true, ins := [], res := (RB r1), G' := [] }, dec := some true }, { i := 12, call := some { cl := true, auto := true, ins := [], res := (RB r3), G' := [] }, dec := some true }, hE 25 (gi_Kind x6), { i := 26, call := some { cl := true, auto := true, ins := [], res := (RB r7), G' := [] }, dec := some false }], r0] (by kernel_rfl) (P1 (cs_l1In hr1)<|P2 (r1 = true) (h2)<|P1 (cs_l1In hr3)<|P2 (r3 = true) (h4)<|P1 h5<|P1 (int_lt_of_at h5 hx6)<|P1 (at_map gi_Kind hx6)<|P1 (cs_l1In hr7)<|P2 (r7 = false) (eqF h8)<|P0)))
 (fun h4 H =>
 eW RB (fun _ => []) H<|gE func146 [rg [{ i := 2, call := some { cl := true, auto := true, ins := [], res := (RB r1), G' := [] }, dec := some true }, { i := 12, call := some { cl := true, auto := true, ins := [], res := (RB r3), G' := [] }, dec := some false }], r0] (by kernel_rfl) (P1 (cs_l1In hr1)<|P2 (r1 = true) (h2)<|P1 (cs_l1In hr3)<|P2 (r3 = false) (eqF h4)<|P0)))
 (fun h2 H =>
 eW RB (fun _ => []) H<|gE func146 [rg [{ i := 2, call := some { cl := true, auto := true, ins := [], res := (RB r1), G' := [] }, dec := some false }], r0] (by kernel_rfl) (P1 (cs_l1In hr1)<|P2 (r1 = false) (eqF h2)<|P0))
def Rs_sAt (r : (List Int)) : List D := [ow 1 I r]
noncomputable def Ks_sAt : Ss_sAt → List Item
 | .h1 .. => nav 300 3 [] [.code (bdy f147)]
def Zs_sAt : Ss_sAt → St
 | .h1 i0 side1 t2 t3 t4 l5 => ⟨sts 34 [(1, I i0), (2, I side1), (7, .ref 0 1 none), (11, sl 4 gi_Unit t2), (12, I t3), (13, I t4)], [some ⟨false, false, 1, l5.length, List.map I l5⟩]⟩
abbrev Qs_sAt := Nx X 147 0 Ks_sAt Zs_sAt Rs_sAt (fun _ => [])
theorem ns_sAt : ∀ s o, Bs_sAt s = some o → Qs_sAt (Ks_sAt s) (Zs_sAt s) o
 | .h1 i0 side1 t2 t3 t4 l5, o, H =>
  eIf H (fun h1 H =>
  eCk H fun h2 H =>
  eBind H fun x3 hx3 H =>
  gN [rg [hT 0], rg [hE 2 (gi_Unit x3)]] (by kernel_rfl) (P2 ((decide (t4 < t3)) = true) (decide_eq_true h1)<|P1 h2<|P1 (int_lt_of_at h2 hx3)<|P1 (at_map gi_Unit hx3)<|P0) <|
  eIf H (fun h4 H =>
  eIf H (fun h5 H =>
  eCk H fun h6 H =>
  eN H fun r hn => gO [rg [hT 3, hT 8], rg [hA 3 ((l5 ++ [t4]).length) (List.map I (l5 ++ [t4]))], r0, .canon [3] [1, 2, 7, 11, 12, 13]] (by kernel_rfl) (P2 (((x3.At : Int) == i0) = true) (beqT h4)<|P2 (((x3.Side : Int) == side1) = true) (beqT h5)<|P1 (apL l5 [t4])<|P1 (apB h6)<|P1 (apM I l5 [t4])<|P0) hn)
  (fun h5 H =>
  eN H fun r hn => gO [rg [hT 3, hF 8], r0, .canon [0] [1, 2, 7, 11, 12, 13]] (by kernel_rfl) (P2 (((x3.At : Int) == i0) = true) (beqT h4)<|P2 (((x3.Side : Int) == side1) = false) (beqF h5)<|P0) hn))
  (fun h4 H =>
  eN H fun r hn => gO [rg [hF 3], r0, .canon [0] [1, 2, 7, 11, 12, 13]] (by kernel_rfl) (P2 (((x3.At : Int) == i0) = false) (beqF h4)<|P0) hn))
  (fun h1 H =>
  eN H<|gE func147 [rg [hF 0], r0] (by kernel_rfl) (P2 ((decide (t4 < t3)) = false) (decide_eq_false h1)<|P0))
theorem ws_sAt : ∀ s r, loop Bs_sAt s = some r → Wc X 147 0 (Ks_sAt s) (Zs_sAt s) (Rs_sAt r) ((fun _ => []) r) := Nx.all (ns_sAt)
theorem cs_sAt {a0 : Gi_State} {a1 : Int} {a2 : Int} {r : (List Int)} (H : Ds_sAt a0 a1 a2 = some r) : Ct X.P X.gl 147 [gi_State a0, I a1, I a2] [] (Rs_sAt r) [] :=
 Ct.of func147 (c := bdy f147) (by kernel_rfl) (by kernel_rfl) <|
 gO [r0, r0, r0, .own 7 1, .canon [1] [1, 2, 7, 11, 12, 13]] (by kernel_rfl) P0 (ws_sAt _ _ H)
noncomputable def Ks_sGood : Ss_sGood → List Item
 | .h1 .. => nav 300 3 [false] [.code (bdy f95)]
 | .h2 .. => nav 300 5 [false, false] [.code (bdy f95)]
def Zs_sGood : Ss_sGood → St
 | .h1 t0 t1 t2 b3 b4 => ⟨sts 80 [(2, .ptr 0 12 0 0), (3, .ptr 1 3 0 0), (34, sl 4 gi_Unit t0), (35, I t1), (36, I t2)], [some ⟨false, true, 12, 1, [gi_Board b3]⟩, some ⟨false, true, 3, 1, [gi_State b4]⟩]⟩
 | .h2 t0 t1 t2 b3 b4 => ⟨sts 80 [(2, .ptr 0 12 0 0), (3, .ptr 1 3 0 0), (46, sl 4 gi_Unit t0), (47, I t1), (48, I t2)], [some ⟨false, true, 12, 1, [gi_Board b3]⟩, some ⟨false, true, 3, 1, [gi_State b4]⟩]⟩
abbrev Qs_sGood := Nx X 95 0 Ks_sGood Zs_sGood RB (fun _ => [])
theorem ns_sGood : ∀ s o, Bs_sGood s = some o → Qs_sGood (Ks_sGood s) (Zs_sGood s) o
 | .h1 t0 t1 t2 b3 b4, o, H =>
  eIf H (fun h1 H =>
  eCk H fun h2 H =>
  eBind H fun x3 hx3 H =>
  eBind H fun r4 hr4 H =>
  gN [rg [hT 0], rg [hE 1 (gi_Unit x3)]] (by kernel_rfl) (P2 ((decide (t2 < t1)) = true) (decide_eq_true h1)<|P1 h2<|P1 (int_lt_of_at h2 hx3)<|P1 (at_map gi_Unit hx3)<|P0) <|
  eIf H (fun h5 H =>
  eN H fun r hn => gO [rg [{ i := 2, call := some { cl := true, auto := true, ins := [], res := (RB r4), G' := [] }, dec := some true }], r0, .canon [0, 1] [2, 3, 34, 35, 36]] (by kernel_rfl) (P1 (cs_sUnit hr4)<|P2 (r4 = true) (h5)<|P0) hn)
  (fun h5 H =>
  eN H<|gE func95 [rg [{ i := 2, call := some { cl := true, auto := true, ins := [], res := (RB r4), G' := [] }, dec := some false }], r0] (by kernel_rfl) (P1 (cs_sUnit hr4)<|P2 (r4 = false) (eqF h5)<|P0)))
  (fun h1 H =>
  eN H fun r hn => gO [rg [hF 0], r0, .canon [0, 1] [2, 3, 46, 47, 48]] (by kernel_rfl) (P2 ((decide (t2 < t1)) = false) (decide_eq_false h1)<|P0) hn)
 | .h2 t0 t1 t2 b3 b4, o, H =>
  eIf H (fun h1 H =>
  eCk H fun h2 H =>
  eBind H fun x3 hx3 H =>
  gN [rg [hT 0], rg [hE 1 (gi_Unit x3)]] (by kernel_rfl) (P2 ((decide (t2 < t1)) = true) (decide_eq_true h1)<|P1 h2<|P1 (int_lt_of_at h2 hx3)<|P1 (at_map gi_Unit hx3)<|P0) <|
  eIf H (fun h4 H =>
  eBind H fun r5 hr5 H =>
  eIf H (fun h6 H =>
  eN H<|gE func95 [rg [hT 2, hC 10 true [] (Rs_sAt r5) [], hT 12], r0] (by kernel_rfl) (P2 ((decide (x3.At ≥ 0)) = true) (decide_eq_true h4)<|P1 (cs_sAt hr5)<|P2 ((decide (((r5.length : Nat) : Int) > 0)) = true) (decide_eq_true h6)<|P0))
  (fun h6 H =>
  eBind H fun r7 hr7 H =>
  eIf H (fun h8 H =>
  eN H<|gE func95 [rg [hT 2, hC 10 true [] (Rs_sAt r5) [], hF 12, hC 19 true [] (Rs_sAt r7) [], hT 24], r0] (by kernel_rfl) (P2 ((decide (x3.At ≥ 0)) = true) (decide_eq_true h4)<|P1 (cs_sAt hr5)<|P2 ((decide (((r5.length : Nat) : Int) > 0)) = false) (decide_eq_false h6)<|P1 (cs_sAt hr7)<|P2 ((decide (((r7.length : Nat) : Int) > b3.Rules.Stack)) = true) (decide_eq_true h8)<|P0))
  (fun h8 H =>
  eN H fun r hn => gO [rg [hT 2, hC 10 true [] (Rs_sAt r5) [], hF 12, hC 19 true [] (Rs_sAt r7) [], hF 24], r0, .canon [0, 1] [2, 3, 46, 47, 48]] (by kernel_rfl) (P2 ((decide (x3.At ≥ 0)) = true) (decide_eq_true h4)<|P1 (cs_sAt hr5)<|P2 ((decide (((r5.length : Nat) : Int) > 0)) = false) (decide_eq_false h6)<|P1 (cs_sAt hr7)<|P2 ((decide (((r7.length : Nat) : Int) > b3.Rules.Stack)) = false) (decide_eq_false h8)<|P0) hn)))
  (fun h4 H =>
  eN H fun r hn => gO [rg [hF 2], r0, .canon [0, 1] [2, 3, 46, 47, 48]] (by kernel_rfl) (P2 ((decide (x3.At ≥ 0)) = false) (decide_eq_false h4)<|P0) hn))
  (fun h1 H =>
  eN H<|gE func95 [rg [hF 0], r0] (by kernel_rfl) (P2 ((decide (t2 < t1)) = false) (decide_eq_false h1)<|P0))
theorem ws_sGood : ∀ s r, loop Bs_sGood s = some r → Wc X 95 0 (Ks_sGood s) (Zs_sGood s) (RB r) ((fun _ => []) r) := Nx.all (ns_sGood)
theorem cs_sGood {a0 : Gi_Board} {a1 : Gi_State} {r : Bool} (H : Ds_sGood a0 a1 = some r) : Ct X.P X.gl 95 [gi_Board a0, gi_State a1] [] (RB r) [] :=
 Ct.of func95 (c := bdy f95) (by kernel_rfl) (by kernel_rfl) <|
 eBind H fun r1 hr1 H =>
 gS [r0] (by kernel_rfl) P0 <|
 eIf H (fun h2 H =>
 eBind H fun r3 hr3 H =>
 eIf H (fun h4 H =>
 eBind H fun r5 hr5 H =>
 eIf H (fun h6 H =>
 eIf H (fun h7 H =>
 eW RB (fun _ => []) H<|gE func95 [rg [{ i := 1, call := some { cl := true, auto := true, ins := [], res := (RB r1), G' := [] }, dec := some true }, { i := 9, call := some { cl := true, auto := true, ins := [], res := (RB r3), G' := [] }, dec := some true }, { i := 15, call := some { cl := true, auto := true, ins := [], res := (RB r5), G' := [] }, dec := some true }, hT 22], r0] (by kernel_rfl) (P1 (cs_bGood hr1)<|P2 (r1 = true) (h2)<|P1 (cs_l1In hr3)<|P2 (r3 = true) (h4)<|P1 (cs_l1In hr5)<|P2 (r5 = true) (h6)<|P2 ((decide (((a1.Units.length : Nat) : Int) > 12)) = true) (decide_eq_true h7)<|P0))
 (fun h7 H =>
 gO [rg [{ i := 1, call := some { cl := true, auto := true, ins := [], res := (RB r1), G' := [] }, dec := some true }, { i := 9, call := some { cl := true, auto := true, ins := [], res := (RB r3), G' := [] }, dec := some true }, { i := 15, call := some { cl := true, auto := true, ins := [], res := (RB r5), G' := [] }, dec := some true }, hF 22], r0, .canon [0, 1] [2, 3, 34, 35, 36]] (by kernel_rfl) (P1 (cs_bGood hr1)<|P2 (r1 = true) (h2)<|P1 (cs_l1In hr3)<|P2 (r3 = true) (h4)<|P1 (cs_l1In hr5)<|P2 (r5 = true) (h6)<|P2 ((decide (((a1.Units.length : Nat) : Int) > 12)) = false) (decide_eq_false h7)<|P0) (ws_sGood _ _ H)))
 (fun h6 H =>
 eW RB (fun _ => []) H<|gE func95 [rg [{ i := 1, call := some { cl := true, auto := true, ins := [], res := (RB r1), G' := [] }, dec := some true }, { i := 9, call := some { cl := true, auto := true, ins := [], res := (RB r3), G' := [] }, dec := some true }, { i := 15, call := some { cl := true, auto := true, ins := [], res := (RB r5), G' := [] }, dec := some false }], r0] (by kernel_rfl) (P1 (cs_bGood hr1)<|P2 (r1 = true) (h2)<|P1 (cs_l1In hr3)<|P2 (r3 = true) (h4)<|P1 (cs_l1In hr5)<|P2 (r5 = false) (eqF h6)<|P0)))
 (fun h4 H =>
 eW RB (fun _ => []) H<|gE func95 [rg [{ i := 1, call := some { cl := true, auto := true, ins := [], res := (RB r1), G' := [] }, dec := some true }, { i := 9, call := some { cl := true, auto := true, ins := [], res := (RB r3), G' := [] }, dec := some false }], r0] (by kernel_rfl) (P1 (cs_bGood hr1)<|P2 (r1 = true) (h2)<|P1 (cs_l1In hr3)<|P2 (r3 = false) (eqF h4)<|P0)))
 (fun h2 H =>
 eW RB (fun _ => []) H<|gE func95 [rg [{ i := 1, call := some { cl := true, auto := true, ins := [], res := (RB r1), G' := [] }, dec := some false }], r0] (by kernel_rfl) (P1 (cs_bGood hr1)<|P2 (r1 = false) (eqF h2)<|P0))
noncomputable def Ks_vcGood : Ss_vcGood → List Item
 | .h1 .. => nav 300 3 [false] [.code (bdy f96)]
def Zs_vcGood : Ss_vcGood → St
 | .h1 t0 t1 t2 b3 b4 => ⟨sts 67 [(2, .ptr 0 12 0 0), (3, .ptr 1 3 0 0), (29, sl 2 gi_Goal t0), (30, I t1), (31, I t2)], [some ⟨false, true, 12, 1, [gi_Board b3]⟩, some ⟨false, true, 3, 1, [gi_Conditions b4]⟩]⟩
abbrev Qs_vcGood := Nx X 96 0 Ks_vcGood Zs_vcGood RB (fun _ => [])
theorem ns_vcGood : ∀ s o, Bs_vcGood s = some o → Qs_vcGood (Ks_vcGood s) (Zs_vcGood s) o
 | .h1 t0 t1 t2 b3 b4, o, H =>
  eIf H (fun h1 H =>
  eCk H fun h2 H =>
  eBind H fun x3 hx3 H =>
  eBind H fun r4 hr4 H =>
  eBind H fun r5 hr5 H =>
  gN [rg [hT 0], rg [hE 2 (gi_Goal x3)]] (by kernel_rfl) (P2 ((decide (t2 < t1)) = true) (decide_eq_true h1)<|P1 h2<|P1 (int_lt_of_at h2 hx3)<|P1 (at_map gi_Goal hx3)<|P0) <|
  eIf H (fun h6 H =>
  eBind H fun r7 hr7 H =>
  eIf H (fun h8 H =>
  eIf H (fun h9 H =>
  eCk H fun h10 H =>
  eBind H fun x11 hx11 H =>
  eIf H (fun h12 H =>
  eN H<|gE func96 [rg [hC 4 true [] (RI r4) [], { i := 6, call := some { cl := true, auto := true, ins := [], res := (RB r5), G' := [] }, dec := some true }, { i := 11, call := some { cl := true, auto := true, ins := [], res := (RB r7), G' := [] }, dec := some true }, hT 16, hE 24 (gi_Goal x11), hT 27], r0] (by kernel_rfl) (P1 (cs_mSize hr4)<|P1 (cs_l1In hr5)<|P2 (r5 = true) (h6)<|P1 (cs_l1In hr7)<|P2 (r7 = true) (h8)<|P2 ((decide (t2 > 0)) = true) (decide_eq_true h9)<|P1 h10<|P1 (int_lt_of_at h10 hx11)<|P1 (at_map gi_Goal hx11)<|P2 ((decide (x11.At ≥ x3.At)) = true) (decide_eq_true h12)<|P0))
  (fun h12 H =>
  eN H fun r hn => gO [rg [hC 4 true [] (RI r4) [], { i := 6, call := some { cl := true, auto := true, ins := [], res := (RB r5), G' := [] }, dec := some true }, { i := 11, call := some { cl := true, auto := true, ins := [], res := (RB r7), G' := [] }, dec := some true }, hT 16, hE 24 (gi_Goal x11), hF 27], r0, .canon [0, 1] [2, 3, 29, 30, 31]] (by kernel_rfl) (P1 (cs_mSize hr4)<|P1 (cs_l1In hr5)<|P2 (r5 = true) (h6)<|P1 (cs_l1In hr7)<|P2 (r7 = true) (h8)<|P2 ((decide (t2 > 0)) = true) (decide_eq_true h9)<|P1 h10<|P1 (int_lt_of_at h10 hx11)<|P1 (at_map gi_Goal hx11)<|P2 ((decide (x11.At ≥ x3.At)) = false) (decide_eq_false h12)<|P0) hn))
  (fun h9 H =>
  eN H fun r hn => gO [rg [hC 4 true [] (RI r4) [], { i := 6, call := some { cl := true, auto := true, ins := [], res := (RB r5), G' := [] }, dec := some true }, { i := 11, call := some { cl := true, auto := true, ins := [], res := (RB r7), G' := [] }, dec := some true }, hF 16], r0, .canon [0, 1] [2, 3, 29, 30, 31]] (by kernel_rfl) (P1 (cs_mSize hr4)<|P1 (cs_l1In hr5)<|P2 (r5 = true) (h6)<|P1 (cs_l1In hr7)<|P2 (r7 = true) (h8)<|P2 ((decide (t2 > 0)) = false) (decide_eq_false h9)<|P0) hn))
  (fun h8 H =>
  eN H<|gE func96 [rg [hC 4 true [] (RI r4) [], { i := 6, call := some { cl := true, auto := true, ins := [], res := (RB r5), G' := [] }, dec := some true }, { i := 11, call := some { cl := true, auto := true, ins := [], res := (RB r7), G' := [] }, dec := some false }], r0] (by kernel_rfl) (P1 (cs_mSize hr4)<|P1 (cs_l1In hr5)<|P2 (r5 = true) (h6)<|P1 (cs_l1In hr7)<|P2 (r7 = false) (eqF h8)<|P0)))
  (fun h6 H =>
  eN H<|gE func96 [rg [hC 4 true [] (RI r4) [], { i := 6, call := some { cl := true, auto := true, ins := [], res := (RB r5), G' := [] }, dec := some false }], r0] (by kernel_rfl) (P1 (cs_mSize hr4)<|P1 (cs_l1In hr5)<|P2 (r5 = false) (eqF h6)<|P0)))
  (fun h1 H =>
  eN H<|gE func96 [rg [hF 0], r0] (by kernel_rfl) (P2 ((decide (t2 < t1)) = false) (decide_eq_false h1)<|P0))
theorem ws_vcGood : ∀ s r, loop Bs_vcGood s = some r → Wc X 96 0 (Ks_vcGood s) (Zs_vcGood s) (RB r) ((fun _ => []) r) := Nx.all (ns_vcGood)
theorem cs_vcGood {a0 : Gi_Board} {a1 : Gi_Conditions} {r : Bool} (H : Ds_vcGood a0 a1 = some r) : Ct X.P X.gl 96 [gi_Board a0, gi_Conditions a1] [] (RB r) [] :=
 Ct.of func96 (c := bdy f96) (by kernel_rfl) (by kernel_rfl) <|
 eBind H fun r1 hr1 H =>
 gS [r0] (by kernel_rfl) P0 <|
 eIf H (fun h2 H =>
 eIf H (fun h3 H =>
 eW RB (fun _ => []) H<|gE func96 [rg [{ i := 1, call := some { cl := true, auto := true, ins := [], res := (RB r1), G' := [] }, dec := some true }, hT 7], r0] (by kernel_rfl) (P1 (cs_bGood hr1)<|P2 (r1 = true) (h2)<|P2 ((decide (((a1.Goals.length : Nat) : Int) > 12)) = true) (decide_eq_true h3)<|P0))
 (fun h3 H =>
 eBind H fun r4 hr4 H =>
 eIf H (fun h5 H =>
 eBind H fun r6 hr6 H =>
 eIf H (fun h7 H =>
 gO [rg [{ i := 1, call := some { cl := true, auto := true, ins := [], res := (RB r1), G' := [] }, dec := some true }, hF 7, { i := 12, call := some { cl := true, auto := true, ins := [], res := (RB r4), G' := [] }, dec := some true }, { i := 18, call := some { cl := true, auto := true, ins := [], res := (RB r6), G' := [] }, dec := some true }], r0, .canon [0, 1] [2, 3, 29, 30, 31]] (by kernel_rfl) (P1 (cs_bGood hr1)<|P2 (r1 = true) (h2)<|P2 ((decide (((a1.Goals.length : Nat) : Int) > 12)) = false) (decide_eq_false h3)<|P1 (cs_l1In hr4)<|P2 (r4 = true) (h5)<|P1 (cs_l1In hr6)<|P2 (r6 = true) (h7)<|P0) (ws_vcGood _ _ H))
 (fun h7 H =>
 eW RB (fun _ => []) H<|gE func96 [rg [{ i := 1, call := some { cl := true, auto := true, ins := [], res := (RB r1), G' := [] }, dec := some true }, hF 7, { i := 12, call := some { cl := true, auto := true, ins := [], res := (RB r4), G' := [] }, dec := some true }, { i := 18, call := some { cl := true, auto := true, ins := [], res := (RB r6), G' := [] }, dec := some false }], r0] (by kernel_rfl) (P1 (cs_bGood hr1)<|P2 (r1 = true) (h2)<|P2 ((decide (((a1.Goals.length : Nat) : Int) > 12)) = false) (decide_eq_false h3)<|P1 (cs_l1In hr4)<|P2 (r4 = true) (h5)<|P1 (cs_l1In hr6)<|P2 (r6 = false) (eqF h7)<|P0)))
 (fun h5 H =>
 eW RB (fun _ => []) H<|gE func96 [rg [{ i := 1, call := some { cl := true, auto := true, ins := [], res := (RB r1), G' := [] }, dec := some true }, hF 7, { i := 12, call := some { cl := true, auto := true, ins := [], res := (RB r4), G' := [] }, dec := some false }], r0] (by kernel_rfl) (P1 (cs_bGood hr1)<|P2 (r1 = true) (h2)<|P2 ((decide (((a1.Goals.length : Nat) : Int) > 12)) = false) (decide_eq_false h3)<|P1 (cs_l1In hr4)<|P2 (r4 = false) (eqF h5)<|P0))))
 (fun h2 H =>
 eW RB (fun _ => []) H<|gE func96 [rg [{ i := 1, call := some { cl := true, auto := true, ins := [], res := (RB r1), G' := [] }, dec := some false }], r0] (by kernel_rfl) (P1 (cs_bGood hr1)<|P2 (r1 = false) (eqF h2)<|P0))
theorem cs_jSources {a0 : Gi_Board} {a1 : (List Int)} {r : Bool} (H : Ds_jSources a0 a1 = some r) : Ct X.P X.gl 97 [gi_Board a0, sl 1 I a1] [] (RB r) [] :=
 Ct.of func97 (c := bdy f97) (by kernel_rfl) (by kernel_rfl) <|
 gS [r0] (by kernel_rfl) P0 <|
 eIf H (fun h1 H =>
 eBind H fun r2 hr2 H =>
 eBind H fun r3 hr3 H =>
 eW RB (fun _ => []) H<|gE func97 [rg [hT 2, hC 7 true [] (RI r2) [], hC 9 true [] (RB r3) []]] (by kernel_rfl) (P2 ((decide (((a1.length : Nat) : Int) ≤ 6)) = true) (decide_eq_true h1)<|P1 (cs_mSize hr2)<|P1 (cs_l1Rising hr3)<|P0))
 (fun h1 H =>
 eW RB (fun _ => []) H<|gE func97 [rg [hF 2]] (by kernel_rfl) (P2 ((decide (((a1.length : Nat) : Int) ≤ 6)) = false) (decide_eq_false h1)<|P0))
theorem cs_snCode {a0 : Gi_Scenario} {r : Int} (H : Ds_snCode a0 = some r) : Ct X.P X.gl 50 [gi_Scenario a0] [] (RI r) [] :=
 Ct.of func50 (c := bdy f50) (by kernel_rfl) (by kernel_rfl) <|
 eBind H fun r1 hr1 H =>
 gS [r0] (by kernel_rfl) P0 <|
 eIf H (fun h2 H =>
 eBind H fun r3 hr3 H =>
 gS [rg [{ i := 2, call := some { cl := true, auto := true, ins := [], res := (RB r1), G' := [] }, dec := some true }]] (by kernel_rfl) (P1 (cs_rName hr1)<|P2 (r1 = true) (h2)<|P0) <|
 eIf H (fun h4 H =>
 eBind H fun r5 hr5 H =>
 gS [rg [{ i := 2, call := some { cl := true, auto := true, ins := [], res := (RB r3), G' := [] }, dec := some true }]] (by kernel_rfl) (P1 (cs_bGood hr3)<|P2 (r3 = true) (h4)<|P0) <|
 eIf H (fun h6 H =>
 eBind H fun r7 hr7 H =>
 gS [rg [{ i := 2, call := some { cl := true, auto := true, ins := [], res := (RB r5), G' := [] }, dec := some true }]] (by kernel_rfl) (P1 (cs_kGood hr5)<|P2 (r5 = true) (h6)<|P0) <|
 eIf H (fun h8 H =>
 eBind H fun r9 hr9 H =>
 gS [rg [{ i := 4, call := some { cl := true, auto := true, ins := [], res := (RB r7), G' := [] }, dec := some true }]] (by kernel_rfl) (P1 (cs_sGood hr7)<|P2 (r7 = true) (h8)<|P0) <|
 eIf H (fun h10 H =>
 eBind H fun r11 hr11 H =>
 gS [rg [{ i := 4, call := some { cl := true, auto := true, ins := [], res := (RB r9), G' := [] }, dec := some true }]] (by kernel_rfl) (P1 (cs_vcGood hr9)<|P2 (r9 = true) (h10)<|P0) <|
 eIf H (fun h12 H =>
 eBind H fun r13 hr13 H =>
 eIf H (fun h14 H =>
 eW RI (fun _ => []) H<|gE func50 [rg [{ i := 4, call := some { cl := true, auto := true, ins := [], res := (RB r11), G' := [] }, dec := some true }, { i := 11, call := some { cl := true, auto := true, ins := [], res := (RB r13), G' := [] }, dec := some true }], r0] (by kernel_rfl) (P1 (cs_jSources hr11)<|P2 (r11 = true) (h12)<|P1 (cs_jSources hr13)<|P2 (r13 = true) (h14)<|P0))
 (fun h14 H =>
 eW RI (fun _ => []) H<|gE func50 [rg [{ i := 4, call := some { cl := true, auto := true, ins := [], res := (RB r11), G' := [] }, dec := some true }, { i := 11, call := some { cl := true, auto := true, ins := [], res := (RB r13), G' := [] }, dec := some false }], r0] (by kernel_rfl) (P1 (cs_jSources hr11)<|P2 (r11 = true) (h12)<|P1 (cs_jSources hr13)<|P2 (r13 = false) (eqF h14)<|P0)))
 (fun h12 H =>
 eW RI (fun _ => []) H<|gE func50 [rg [{ i := 4, call := some { cl := true, auto := true, ins := [], res := (RB r11), G' := [] }, dec := some false }], r0] (by kernel_rfl) (P1 (cs_jSources hr11)<|P2 (r11 = false) (eqF h12)<|P0)))
 (fun h10 H =>
 eW RI (fun _ => []) H<|gE func50 [rg [{ i := 4, call := some { cl := true, auto := true, ins := [], res := (RB r9), G' := [] }, dec := some false }], r0] (by kernel_rfl) (P1 (cs_vcGood hr9)<|P2 (r9 = false) (eqF h10)<|P0)))
 (fun h8 H =>
 eW RI (fun _ => []) H<|gE func50 [rg [{ i := 4, call := some { cl := true, auto := true, ins := [], res := (RB r7), G' := [] }, dec := some false }], r0] (by kernel_rfl) (P1 (cs_sGood hr7)<|P2 (r7 = false) (eqF h8)<|P0)))
 (fun h6 H =>
 eW RI (fun _ => []) H<|gE func50 [rg [{ i := 2, call := some { cl := true, auto := true, ins := [], res := (RB r5), G' := [] }, dec := some false }], r0] (by kernel_rfl) (P1 (cs_kGood hr5)<|P2 (r5 = false) (eqF h6)<|P0)))
 (fun h4 H =>
 eW RI (fun _ => []) H<|gE func50 [rg [{ i := 2, call := some { cl := true, auto := true, ins := [], res := (RB r3), G' := [] }, dec := some false }], r0] (by kernel_rfl) (P1 (cs_bGood hr3)<|P2 (r3 = false) (eqF h4)<|P0)))
 (fun h2 H =>
 eW RI (fun _ => []) H<|gE func50 [rg [{ i := 2, call := some { cl := true, auto := true, ins := [], res := (RB r1), G' := [] }, dec := some false }], r0] (by kernel_rfl) (P1 (cs_rName hr1)<|P2 (r1 = false) (eqF h2)<|P0))
theorem cs_snGood {a0 : Gi_Scenario} {r : Bool} (H : Ds_snGood a0 = some r) : Ct X.P X.gl 17 [gi_Scenario a0] [] (RB r) [] :=
 Ct.of func17 (c := bdy f17) (by kernel_rfl) (by kernel_rfl) <|
 eBind H fun r1 hr1 H =>
 eW RB (fun _ => []) H<|gE func17 [r0, rg [hC 1 true [] (RI r1) []]] (by kernel_rfl) (P1 (cs_snCode hr1)<|P0)
def Rs_l1Own (r : (List Int)) : List D := [ow 1 I r]
theorem cs_l1Own {a0 : (List Int)} {r : (List Int)} (H : Ds_l1Own a0 = some r) : Ct X.P X.gl 75 [sl 1 I a0] [] (Rs_l1Own r) [] :=
 Ct.of func75 (c := bdy f75) (by kernel_rfl) (by kernel_rfl) <|
 eCk H fun h1 H =>
 eW Rs_l1Own (fun _ => []) H<|gE func75 [r0, rg [hA 2 a0.length (List.map I a0)]] (by kernel_rfl) (P2 (AllFl (List.map I a0)) (allFl_3 _)<|P2 (a0.length = ([] : List Int).length + a0.length) (by simp <;> omega)<|P2 ((([] : List Int).length + a0.length) * 8 ≤ 70368744177664) (by have := h1; simp at this ⊢ <;> omega)<|P2 (List.map I ([] : List Int) ++ List.map I a0 = List.map I a0) (by simp)<|P0)
def Rs_rOwn (r : Gi_Rules) : List D := [.agg [ow 5 goi_Terrain r.Terrains, ow 6 gi_Kind r.Kinds, I r.Stack, I r.River, I r.Road, I r.Supply, I r.Turns]]
noncomputable def Ks_rOwn : Ss_rOwn → List Item
 | .h1 .. => nav 300 4 [] [.code (bdy f119)]
 | .h2 .. => nav 300 9 [true] [.code (bdy f119)]
def Zs_rOwn : Ss_rOwn → St
 | .h1 t0 t1 t2 b3 b4 b5 b6 b7 b8 b9 b10 b11 b12 b13 b14 => ⟨sts 32 [(1, .ptr 0 7 0 0), (2, .ptr 1 7 0 0), (3, .ptr 2 7 0 0), (9, sl 5 gi_Terrain t0), (10, I t1), (11, I t2)], [some ⟨false, true, 7, 1, [gi_Rules b3]⟩, some ⟨false, true, 7, 1, [.agg [.nil, .nil, I b4, I b5, I b6, I b7, I b8]]⟩, some ⟨false, true, 7, 1, [.agg [.nil, sl 6 gi_Kind b9, I b10, I b11, I b12, I b13, I b14]]⟩]⟩
 | .h2 t0 t1 t2 b3 b4 b5 b6 b7 b8 b9 b10 b11 b12 b13 b14 l15 => ⟨sts 32 [(1, .ptr 0 7 0 0), (2, .ptr 1 7 0 0), (3, .ptr 2 7 0 0), (9, sl 5 gi_Terrain t0), (10, I t1), (11, I t2)], [some ⟨false, true, 7, 1, [gi_Rules b3]⟩, some ⟨false, true, 7, 1, [.agg [.nil, .nil, I b4, I b5, I b6, I b7, I b8]]⟩, some ⟨false, true, 7, 1, [.agg [.ref 3 5 none, sl 6 gi_Kind b9, I b10, I b11, I b12, I b13, I b14]]⟩, some ⟨false, false, 5, l15.length, List.map goi_Terrain l15⟩]⟩
abbrev Qs_rOwn := Nx X 119 0 Ks_rOwn Zs_rOwn Rs_rOwn (fun _ => [])
theorem ns_rOwn : ∀ s o, Bs_rOwn s = some o → Qs_rOwn (Ks_rOwn s) (Zs_rOwn s) o
 | .h1 t0 t1 t2 b3 b4 b5 b6 b7 b8 b9 b10 b11 b12 b13 b14, o, H =>
  eIf H (fun h1 H =>
  eCk H fun h2 H =>
  eBind H fun x3 hx3 H =>
  eBind H fun r4 hr4 H =>
  eCk H fun h5 H =>
  eN H fun r hn => gO [rg [hT 0], rg [hE 1 (gi_Terrain x3)], rg [hC 2 true [] (Rs_l1Own r4) []], rg [{ i := 3, post := [.put 5 0 1 4 (List.map goi_Terrain [(Gi_Terrain.mk x3.Name r4 x3.Shift x3.Height x3.Blocks)]), .own 5 1] }, hA 4 ([(Gi_Terrain.mk x3.Name r4 x3.Shift x3.Height x3.Blocks)].length) (List.map goi_Terrain [(Gi_Terrain.mk x3.Name r4 x3.Shift x3.Height x3.Blocks)])], r0, .canon [0, 1, 2, 6] [1, 2, 3, 9, 10, 11]] (by kernel_rfl) (P2 ((decide (t2 < t1)) = true) (decide_eq_true h1)<|P1 h2<|P1 (int_lt_of_at h2 hx3)<|P1 (at_map gi_Terrain hx3)<|P1 (cs_l1Own hr4)<|P2 (getCells [.agg [.str x3.Name, .ref 4 1 none, I x3.Shift, I x3.Height, .bool x3.Blocks]] 0 1 1 = some [.ref 4 1 none]) rfl<|P2 (setCells [.agg [.str x3.Name, .ref 4 1 none, I x3.Shift, I x3.Height, .bool x3.Blocks]] 0 1 [ow 1 I r4] = List.map goi_Terrain [(Gi_Terrain.mk x3.Name r4 x3.Shift x3.Height x3.Blocks)]) rfl<|P1 (allOw_186 [(Gi_Terrain.mk x3.Name r4 x3.Shift x3.Height x3.Blocks)])<|P2 ((1 : Nat) = 1) rfl<|P2 ([(Gi_Terrain.mk x3.Name r4 x3.Shift x3.Height x3.Blocks)].length = 0 + [(Gi_Terrain.mk x3.Name r4 x3.Shift x3.Height x3.Blocks)].length) (by simp <;> omega)<|P2 ((0 + [(Gi_Terrain.mk x3.Name r4 x3.Shift x3.Height x3.Blocks)].length) * 64 ≤ 70368744177664) (by have := h5; simp at this ⊢ <;> omega)<|P2 (([] : List D) ++ List.map goi_Terrain [(Gi_Terrain.mk x3.Name r4 x3.Shift x3.Height x3.Blocks)] = List.map goi_Terrain [(Gi_Terrain.mk x3.Name r4 x3.Shift x3.Height x3.Blocks)]) (by simp)<|P0) hn)
  (fun h1 H =>
  eCk H fun h2 H =>
  eN H<|gE func119 [rg [hF 0], rg [hA 3 b3.Kinds.length (List.map gi_Kind b3.Kinds)], r0] (by kernel_rfl) (P2 ((decide (t2 < t1)) = false) (decide_eq_false h1)<|P2 (AllFl (List.map gi_Kind b3.Kinds)) (allFl_139 _)<|P2 (b3.Kinds.length = ([] : List Gi_Kind).length + b3.Kinds.length) (by simp <;> omega)<|P2 ((([] : List Gi_Kind).length + b3.Kinds.length) * 56 ≤ 70368744177664) (by have := h2; simp at this ⊢ <;> omega)<|P2 (List.map gi_Kind ([] : List Gi_Kind) ++ List.map gi_Kind b3.Kinds = List.map gi_Kind b3.Kinds) (by simp)<|P0))
 | .h2 t0 t1 t2 b3 b4 b5 b6 b7 b8 b9 b10 b11 b12 b13 b14 l15, o, H =>
  eIf H (fun h1 H =>
  eCk H fun h2 H =>
  eBind H fun x3 hx3 H =>
  eBind H fun r4 hr4 H =>
  eCk H fun h5 H =>
  eN H fun r hn => gO [rg [hT 0], rg [hE 1 (gi_Terrain x3)], rg [hC 2 true [] (Rs_l1Own r4) []], rg [{ i := 3, post := [.put 6 0 1 5 (List.map goi_Terrain [(Gi_Terrain.mk x3.Name r4 x3.Shift x3.Height x3.Blocks)]), .own 6 1] }, hA 4 ((l15 ++ [(Gi_Terrain.mk x3.Name r4 x3.Shift x3.Height x3.Blocks)]).length) (List.map goi_Terrain (l15 ++ [(Gi_Terrain.mk x3.Name r4 x3.Shift x3.Height x3.Blocks)]))], r0, .canon [0, 1, 2, 7] [1, 2, 3, 9, 10, 11]] (by kernel_rfl) (P2 ((decide (t2 < t1)) = true) (decide_eq_true h1)<|P1 h2<|P1 (int_lt_of_at h2 hx3)<|P1 (at_map gi_Terrain hx3)<|P1 (cs_l1Own hr4)<|P2 (getCells [.agg [.str x3.Name, .ref 5 1 none, I x3.Shift, I x3.Height, .bool x3.Blocks]] 0 1 1 = some [.ref 5 1 none]) rfl<|P2 (setCells [.agg [.str x3.Name, .ref 5 1 none, I x3.Shift, I x3.Height, .bool x3.Blocks]] 0 1 [ow 1 I r4] = List.map goi_Terrain [(Gi_Terrain.mk x3.Name r4 x3.Shift x3.Height x3.Blocks)]) rfl<|P1 (allOw_186 [(Gi_Terrain.mk x3.Name r4 x3.Shift x3.Height x3.Blocks)])<|P2 ((1 : Nat) = 1) rfl<|P1 (apL l15 [(Gi_Terrain.mk x3.Name r4 x3.Shift x3.Height x3.Blocks)])<|P1 (apB h5)<|P1 (apM goi_Terrain l15 [(Gi_Terrain.mk x3.Name r4 x3.Shift x3.Height x3.Blocks)])<|P0) hn)
  (fun h1 H =>
  eCk H fun h2 H =>
  eN H<|gE func119 [rg [hF 0], rg [hA 3 b3.Kinds.length (List.map gi_Kind b3.Kinds)], r0] (by kernel_rfl) (P2 ((decide (t2 < t1)) = false) (decide_eq_false h1)<|P2 (AllFl (List.map gi_Kind b3.Kinds)) (allFl_139 _)<|P2 (b3.Kinds.length = ([] : List Gi_Kind).length + b3.Kinds.length) (by simp <;> omega)<|P2 ((([] : List Gi_Kind).length + b3.Kinds.length) * 56 ≤ 70368744177664) (by have := h2; simp at this ⊢ <;> omega)<|P2 (List.map gi_Kind ([] : List Gi_Kind) ++ List.map gi_Kind b3.Kinds = List.map gi_Kind b3.Kinds) (by simp)<|P0))
theorem ws_rOwn : ∀ s r, loop Bs_rOwn s = some r → Wc X 119 0 (Ks_rOwn s) (Zs_rOwn s) (Rs_rOwn r) ((fun _ => []) r) := Nx.all (ns_rOwn)
theorem cs_rOwn {a0 : Gi_Rules} {r : Gi_Rules} (H : Ds_rOwn a0 = some r) : Ct X.P X.gl 119 [gi_Rules a0] [] (Rs_rOwn r) [] :=
 Ct.of func119 (c := bdy f119) (by kernel_rfl) (by kernel_rfl) <|
 gO [r0, r0, r0, r0, .canon [0, 1, 2] [1, 2, 3, 9, 10, 11]] (by kernel_rfl) P0 (ws_rOwn _ _ H)
def Rs_mOwn (r : Gi_Map) : List D := [.agg [I r.Width, I r.Height, ow 1 I r.Terrain, ow 1 I r.Rivers, ow 1 I r.Roads]]
theorem cs_mOwn {a0 : Gi_Map} {r : Gi_Map} (H : Ds_mOwn a0 = some r) : Ct X.P X.gl 120 [gi_Map a0] [] (Rs_mOwn r) [] :=
 Ct.of func120 (c := bdy f120) (by kernel_rfl) (by kernel_rfl) <|
 eBind H fun r1 hr1 H =>
 eBind H fun r2 hr2 H =>
 eBind H fun r3 hr3 H =>
 eW Rs_mOwn (fun _ => []) H<|gE func120 [r0, rg [hC 6 true [] (Rs_l1Own r1) [], hC 9 true [] (Rs_l1Own r2) [], hC 12 true [] (Rs_l1Own r3) []]] (by kernel_rfl) (P1 (cs_l1Own hr1)<|P1 (cs_l1Own hr2)<|P1 (cs_l1Own hr3)<|P0)
def Rs_kOwn (r : Gi_CombatTable) : List D := [.agg [ow 2 gi_Odds r.Columns, I r.Dice, ow 1 (ow 1 I) r.Results]]
noncomputable def Ks_kOwn : Ss_kOwn → List Item
 | .h1 .. => nav 300 3 [] [.code (bdy f121)]
 | .h2 .. => nav 300 7 [true] [.code (bdy f121)]
def Zs_kOwn : Ss_kOwn → St
 | .h1 t0 t1 t2 b3 b4 l5 => ⟨sts 29 [(2, .ptr 0 3 0 0), (3, .ptr 1 3 0 0), (14, sl 1 (sl 1 I) t0), (15, I t1), (16, I t2)], [some ⟨false, true, 3, 1, [.agg [.nil, I b3, .nil]]⟩, some ⟨false, true, 3, 1, [.agg [.ref 2 2 none, I b4, .nil]]⟩, some ⟨false, false, 2, l5.length, List.map gi_Odds l5⟩]⟩
 | .h2 t0 t1 t2 b3 b4 l5 l6 => ⟨sts 29 [(2, .ptr 0 3 0 0), (3, .ptr 1 3 0 0), (14, sl 1 (sl 1 I) t0), (15, I t1), (16, I t2)], [some ⟨false, true, 3, 1, [.agg [.nil, I b3, .nil]]⟩, some ⟨false, true, 3, 1, [.agg [.ref 2 2 none, I b4, .ref 3 1 none]]⟩, some ⟨false, false, 2, l5.length, List.map gi_Odds l5⟩, some ⟨false, false, 1, l6.length, List.map (ow 1 I) l6⟩]⟩
abbrev Qs_kOwn := Nx X 121 0 Ks_kOwn Zs_kOwn Rs_kOwn (fun _ => [])
theorem ns_kOwn : ∀ s o, Bs_kOwn s = some o → Qs_kOwn (Ks_kOwn s) (Zs_kOwn s) o
 | .h1 t0 t1 t2 b3 b4 l5, o, H =>
  eIf H (fun h1 H =>
  eCk H fun h2 H =>
  eBind H fun x3 hx3 H =>
  eBind H fun r4 hr4 H =>
  eCk H fun h5 H =>
  eN H fun r hn => gO [rg [hT 0], rg [hE 1 ((sl 1 I) x3)], rg [hC 3 true [] (Rs_l1Own r4) [], { i := 4, post := [.put 4 0 0 3 (List.map (ow 1 I) [r4]), .own 4 1] }, hA 5 ([r4].length) (List.map (ow 1 I) [r4])], r0, .canon [0, 1, 2, 5] [2, 3, 14, 15, 16]] (by kernel_rfl) (P2 ((decide (t2 < t1)) = true) (decide_eq_true h1)<|P1 h2<|P1 (int_lt_of_at h2 hx3)<|P1 (at_map (sl 1 I) hx3)<|P1 (cs_l1Own hr4)<|P2 (getCells [.ref 3 1 none] 0 0 1 = some [.ref 3 1 none]) rfl<|P2 (setCells [.ref 3 1 none] 0 0 [ow 1 I r4] = List.map (ow 1 I) [r4]) rfl<|P1 (allOw_26 [r4])<|P2 ((1 : Nat) = 1) rfl<|P2 ([r4].length = 0 + [r4].length) (by simp <;> omega)<|P2 ((0 + [r4].length) * 24 ≤ 70368744177664) (by have := h5; simp at this ⊢ <;> omega)<|P2 (([] : List D) ++ List.map (ow 1 I) [r4] = List.map (ow 1 I) [r4]) (by simp)<|P0) hn)
  (fun h1 H =>
  eN H<|gE func121 [rg [hF 0], r0] (by kernel_rfl) (P2 ((decide (t2 < t1)) = false) (decide_eq_false h1)<|P0))
 | .h2 t0 t1 t2 b3 b4 l5 l6, o, H =>
  eIf H (fun h1 H =>
  eCk H fun h2 H =>
  eBind H fun x3 hx3 H =>
  eBind H fun r4 hr4 H =>
  eCk H fun h5 H =>
  eN H fun r hn => gO [rg [hT 0], rg [hE 1 ((sl 1 I) x3)], rg [hC 3 true [] (Rs_l1Own r4) [], { i := 4, post := [.put 5 0 0 4 (List.map (ow 1 I) [r4]), .own 5 1] }, hA 5 ((l6 ++ [r4]).length) (List.map (ow 1 I) (l6 ++ [r4]))], r0, .canon [0, 1, 2, 6] [2, 3, 14, 15, 16]] (by kernel_rfl) (P2 ((decide (t2 < t1)) = true) (decide_eq_true h1)<|P1 h2<|P1 (int_lt_of_at h2 hx3)<|P1 (at_map (sl 1 I) hx3)<|P1 (cs_l1Own hr4)<|P2 (getCells [.ref 4 1 none] 0 0 1 = some [.ref 4 1 none]) rfl<|P2 (setCells [.ref 4 1 none] 0 0 [ow 1 I r4] = List.map (ow 1 I) [r4]) rfl<|P1 (allOw_26 [r4])<|P2 ((1 : Nat) = 1) rfl<|P1 (apL l6 [r4])<|P1 (apB h5)<|P1 (apM (ow 1 I) l6 [r4])<|P0) hn)
  (fun h1 H =>
  eN H<|gE func121 [rg [hF 0], r0] (by kernel_rfl) (P2 ((decide (t2 < t1)) = false) (decide_eq_false h1)<|P0))
theorem ws_kOwn : ∀ s r, loop Bs_kOwn s = some r → Wc X 121 0 (Ks_kOwn s) (Zs_kOwn s) (Rs_kOwn r) ((fun _ => []) r) := Nx.all (ns_kOwn)
theorem cs_kOwn {a0 : Gi_CombatTable} {r : Gi_CombatTable} (H : Ds_kOwn a0 = some r) : Ct X.P X.gl 121 [gi_CombatTable a0] [] (Rs_kOwn r) [] :=
 Ct.of func121 (c := bdy f121) (by kernel_rfl) (by kernel_rfl) <|
 eCk H fun h1 H =>
 gO [r0, rg [hA 3 a0.Columns.length (List.map gi_Odds a0.Columns)], r0, .canon [1, 4, 3] [2, 3, 14, 15, 16]] (by kernel_rfl) (P2 (AllFl (List.map gi_Odds a0.Columns)) (allFl_137 _)<|P2 (a0.Columns.length = ([] : List Gi_Odds).length + a0.Columns.length) (by simp <;> omega)<|P2 ((([] : List Gi_Odds).length + a0.Columns.length) * 16 ≤ 70368744177664) (by have := h1; simp at this ⊢ <;> omega)<|P2 (List.map gi_Odds ([] : List Gi_Odds) ++ List.map gi_Odds a0.Columns = List.map gi_Odds a0.Columns) (by simp)<|P0) (ws_kOwn _ _ H)
def Rs_sOwn (r : Gi_State) : List D := [.agg [I r.Turn, I r.Weather, ow 4 gi_Unit r.Units]]
theorem cs_sOwn {a0 : Gi_State} {r : Gi_State} (H : Ds_sOwn a0 = some r) : Ct X.P X.gl 122 [gi_State a0] [] (Rs_sOwn r) [] :=
 Ct.of func122 (c := bdy f122) (by kernel_rfl) (by kernel_rfl) <|
 eCk H fun h1 H =>
 eW Rs_sOwn (fun _ => []) H<|gE func122 [r0, rg [hA 7 a0.Units.length (List.map gi_Unit a0.Units)]] (by kernel_rfl) (P2 (AllFl (List.map gi_Unit a0.Units)) (allFl_88 _)<|P2 (a0.Units.length = ([] : List Gi_Unit).length + a0.Units.length) (by simp <;> omega)<|P2 ((([] : List Gi_Unit).length + a0.Units.length) * 32 ≤ 70368744177664) (by have := h1; simp at this ⊢ <;> omega)<|P2 (List.map gi_Unit ([] : List Gi_Unit) ++ List.map gi_Unit a0.Units = List.map gi_Unit a0.Units) (by simp)<|P0)
def Rs_snOwn (r : Gi_Scenario) : List D := [.agg [.str r.Name, ow 5 goi_Terrain r.Board.Rules.Terrains, ow 6 gi_Kind r.Board.Rules.Kinds, I r.Board.Rules.Stack, I r.Board.Rules.River, I r.Board.Rules.Road, I r.Board.Rules.Supply, I r.Board.Rules.Turns, I r.Board.Map.Width, I r.Board.Map.Height, ow 1 I r.Board.Map.Terrain, ow 1 I r.Board.Map.Rivers, ow 1 I r.Board.Map.Roads, ow 2 gi_Odds r.Table.Columns, I r.Table.Dice, ow 1 (ow 1 I) r.Table.Results, I r.Start.Turn, I r.Start.Weather, ow 4 gi_Unit r.Start.Units, ow 2 gi_Goal r.Conditions.Goals, I r.Conditions.Step, I r.Conditions.Margin, ow 1 I r.First, ow 1 I r.Other]]
theorem cs_snOwn {a0 : Gi_Scenario} {r : Gi_Scenario} (H : Ds_snOwn a0 = some r) : Ct X.P X.gl 74 [gi_Scenario a0] [] (Rs_snOwn r) [] :=
 Ct.of func74 (c := bdy f74) (by kernel_rfl) (by kernel_rfl) <|
 eBind H fun r1 hr1 H =>
 eBind H fun r2 hr2 H =>
 eBind H fun r3 hr3 H =>
 eBind H fun r4 hr4 H =>
 eCk H fun h5 H =>
 eBind H fun r6 hr6 H =>
 eBind H fun r7 hr7 H =>
 eW Rs_snOwn (fun _ => []) H<|gE func74 [r0, r0, rg [hC 3 true [] (Rs_rOwn r1) [], hC 7 true [] (Rs_mOwn r2) []], rg [hC 2 true [] (Rs_kOwn r3) []], rg [hC 2 true [] (Rs_sOwn r4) []], rg [hA 4 a0.Conditions.Goals.length (List.map gi_Goal a0.Conditions.Goals)], rg [hC 2 true [] (Rs_l1Own r6) []], rg [hC 2 true [] (Rs_l1Own r7) []], r0] (by kernel_rfl) (P1 (cs_rOwn hr1)<|P1 (cs_mOwn hr2)<|P1 (cs_kOwn hr3)<|P1 (cs_sOwn hr4)<|P2 (AllFl (List.map gi_Goal a0.Conditions.Goals)) (allFl_93 _)<|P2 (a0.Conditions.Goals.length = ([] : List Gi_Goal).length + a0.Conditions.Goals.length) (by simp <;> omega)<|P2 ((([] : List Gi_Goal).length + a0.Conditions.Goals.length) * 16 ≤ 70368744177664) (by have := h5; simp at this ⊢ <;> omega)<|P2 (List.map gi_Goal ([] : List Gi_Goal) ++ List.map gi_Goal a0.Conditions.Goals = List.map gi_Goal a0.Conditions.Goals) (by simp)<|P1 (cs_l1Own hr6)<|P1 (cs_l1Own hr7)<|P0)
theorem cs_mMirrorIndex {a0 : Gi_Map} {a1 : Int} {r : Int} (H : Ds_mMirrorIndex a0 a1 = some r) : Ct X.P X.gl 77 [gi_Map a0, I a1] [] (RI r) [] :=
 Ct.of func77 (c := bdy f77) (by kernel_rfl) (by kernel_rfl) <|
 eBind H fun r1 hr1 H =>
 eW RI (fun _ => []) H<|gE func77 [r0, rg [hC 2 true [] (Rs_mHex r1) []], r0] (by kernel_rfl) (P1 (cs_mHex hr1)<|P0)
theorem cs_mEdge {a0 : Gi_Map} {a1 : Int} {a2 : Int} {r : Int} (H : Ds_mEdge a0 a1 a2 = some r) : Ct X.P X.gl 172 [gi_Map a0, I a1, I a2] [] (RI r) [] :=
 Ct.of func172 (c := bdy f172) (by kernel_rfl) (by kernel_rfl) <|
 gS [r0] (by kernel_rfl) P0 <|
 eIf H (fun h1 H =>
 eW RI (fun _ => []) H<|gE func172 [rg [hT 1], r0] (by kernel_rfl) (P2 ((decide (a2 < 3)) = true) (decide_eq_true h1)<|P0))
 (fun h1 H =>
 eBind H fun r2 hr2 H =>
 eW RI (fun _ => []) H<|gE func172 [rg [hF 1], rg [hC 3 true [] (RI r2) []]] (by kernel_rfl) (P2 ((decide (a2 < 3)) = false) (decide_eq_false h1)<|P1 (cs_mNext hr2)<|P0))
def Rs_l1Put_c0 (r : (List Int)) : List D := [ow 1 I r]
def Ns_l1Put_c0 (r : (List Int)) : List Root := [deadR]
noncomputable def Ks_l1Put_c0 : Ss_l1Put_c0 → List Item
 | .h1 .. => nav 300 2 [] [.code (bdy f126)]
def Zs_l1Put_c0 : Ss_l1Put_c0 → St
 | .h1 n0 k1 l2 => ⟨sts 48 [(0, .ref 1 1 none), (1, I n0), (5, I k1)], [none, some ⟨false, false, 1, l2.length, List.map I l2⟩]⟩
abbrev Qs_l1Put_c0 := Nx X 126 1 Ks_l1Put_c0 Zs_l1Put_c0 Rs_l1Put_c0 Ns_l1Put_c0
theorem ns_l1Put_c0 : ∀ s o, Bs_l1Put_c0 s = some o → Qs_l1Put_c0 (Ks_l1Put_c0 s) (Zs_l1Put_c0 s) o
 | .h1 n0 k1 l2, o, H =>
  eIf H (fun h1 H =>
  eCk H fun h2 H =>
  eBind H fun x3 hx3 H =>
  eIf H (fun h4 H =>
  eN H fun r hn => gO [rg [hT 3, hE 8 (I x3), hT 10], r0, .canon [0, 1] [0, 1, 5]] (by kernel_rfl) (P2 ((decide (k1 < ((l2.length : Nat) : Int))) = true) (decide_eq_true h1)<|P1 h2<|P1 (int_lt_of_at h2 hx3)<|P1 (at_map I hx3)<|P2 ((decide (x3 < n0)) = true) (decide_eq_true h4)<|P0) hn)
  (fun h4 H =>
  gN [rg [hT 3, hE 8 (I x3), hF 10]] (by kernel_rfl) (P2 ((decide (k1 < ((l2.length : Nat) : Int))) = true) (decide_eq_true h1)<|P1 h2<|P1 (int_lt_of_at h2 hx3)<|P1 (at_map I hx3)<|P2 ((decide (x3 < n0)) = false) (decide_eq_false h4)<|P0) <|
  eIf H (fun h5 H =>
  eCk H fun h6 H =>
  eBind H fun x7 hx7 H =>
  eIf H (fun h8 H =>
  eN H<|gE func126 [rg [hT 3, hE 8 (I x7), hT 10], r0] (by kernel_rfl) (P2 ((decide (k1 < ((l2.length : Nat) : Int))) = true) (decide_eq_true h5)<|P1 h6<|P1 (int_lt_of_at h6 hx7)<|P1 (at_map I hx7)<|P2 (((x7 : Int) == n0) = true) (beqT h8)<|P0))
  (fun h8 H =>
  eCk H fun h9 H =>
  eCk H fun h10 H =>
  eCk H fun h11 H =>
  eCk H fun h12 H =>
  eCk H fun h13 H =>
  eCk H fun h14 H =>
  eCk H fun h15 H =>
  eN H<|gE func126 [rg [hT 3, hE 8 (I x7), hF 10], rg [{ i := 4, keep := true, n := (List.take ((Int.toNat k1) - 0) (List.drop 0 l2)).length, xs := List.map I (List.take ((Int.toNat k1) - 0) (List.drop 0 l2)) }], rg [hA 3 (((List.take ((Int.toNat k1) - 0) (List.drop 0 l2)) ++ [n0]).length) (List.map I ((List.take ((Int.toNat k1) - 0) (List.drop 0 l2)) ++ [n0]))], rg [{ i := 4, keep := true, n := (((List.take ((Int.toNat k1) - 0) (List.drop 0 l2)) ++ [n0]) ++ (List.take (l2.length - (Int.toNat k1)) (List.drop (Int.toNat k1) l2))).length, xs := List.map I (((List.take ((Int.toNat k1) - 0) (List.drop 0 l2)) ++ [n0]) ++ (List.take (l2.length - (Int.toNat k1)) (List.drop (Int.toNat k1) l2))) }]] (by kernel_rfl) (P2 ((decide (k1 < ((l2.length : Nat) : Int))) = true) (decide_eq_true h5)<|P1 h6<|P1 (int_lt_of_at h6 hx7)<|P1 (at_map I hx7)<|P2 (((x7 : Int) == n0) = false) (beqF h8)<|P2 ((0 : Int) ≤ k1) h9<|P2 ((k1 : Int) ≤ ((l2.length : Nat) : Int)) h10<|P2 (AllFl (List.map I l2)) (allFl_3 _)<|P2 ((List.take ((Int.toNat k1) - 0) (List.drop 0 l2)).length = ([] : List Int).length + ((Int.toNat k1) - 0)) (by first | (simp <;> omega) | (simp only [List.length_append, List.length_take, List.length_drop, List.length_nil] <;> omega))<|P2 ((([] : List Int).length + ((Int.toNat k1) - 0)) * 8 ≤ 70368744177664) (by have := h11; first | (simp at this ⊢ <;> omega) | (simp only [List.length_append, List.length_take, List.length_drop, List.length_nil] at this ⊢ <;> omega))<|P2 (List.map I ([] : List Int) ++ List.take ((Int.toNat k1) - 0) (List.drop 0 (List.map I l2)) = List.map I (List.take ((Int.toNat k1) - 0) (List.drop 0 l2))) (by simp [List.map_take, List.map_drop])<|P1 (apL (List.take ((Int.toNat k1) - 0) (List.drop 0 l2)) [n0])<|P1 (apB h12)<|P1 (apM I (List.take ((Int.toNat k1) - 0) (List.drop 0 l2)) [n0])<|P2 ((0 : Int) ≤ k1) h13<|P2 ((k1 : Int) ≤ ((l2.length : Nat) : Int)) h14<|P2 (AllFl (List.map I l2)) (allFl_3 _)<|P2 ((((List.take ((Int.toNat k1) - 0) (List.drop 0 l2)) ++ [n0]) ++ (List.take (l2.length - (Int.toNat k1)) (List.drop (Int.toNat k1) l2))).length = ((List.take ((Int.toNat k1) - 0) (List.drop 0 l2)) ++ [n0]).length + (l2.length - (Int.toNat k1))) (by first | (simp <;> omega) | (simp only [List.length_append, List.length_take, List.length_drop, List.length_nil] <;> omega))<|P2 ((((List.take ((Int.toNat k1) - 0) (List.drop 0 l2)) ++ [n0]).length + (l2.length - (Int.toNat k1))) * 8 ≤ 70368744177664) (by have := h15; first | (simp at this ⊢ <;> omega) | (simp only [List.length_append, List.length_take, List.length_drop, List.length_nil] at this ⊢ <;> omega))<|P2 (List.map I ((List.take ((Int.toNat k1) - 0) (List.drop 0 l2)) ++ [n0]) ++ List.take (l2.length - (Int.toNat k1)) (List.drop (Int.toNat k1) (List.map I l2)) = List.map I (((List.take ((Int.toNat k1) - 0) (List.drop 0 l2)) ++ [n0]) ++ (List.take (l2.length - (Int.toNat k1)) (List.drop (Int.toNat k1) l2)))) (by simp [List.map_take, List.map_drop])<|P0)))
  (fun h5 H =>
  eCk H fun h6 H =>
  eCk H fun h7 H =>
  eCk H fun h8 H =>
  eCk H fun h9 H =>
  eCk H fun h10 H =>
  eCk H fun h11 H =>
  eCk H fun h12 H =>
  eN H<|gE func126 [rg [hF 3], rg [{ i := 4, keep := true, n := (List.take ((Int.toNat k1) - 0) (List.drop 0 l2)).length, xs := List.map I (List.take ((Int.toNat k1) - 0) (List.drop 0 l2)) }], rg [hA 3 (((List.take ((Int.toNat k1) - 0) (List.drop 0 l2)) ++ [n0]).length) (List.map I ((List.take ((Int.toNat k1) - 0) (List.drop 0 l2)) ++ [n0]))], rg [{ i := 4, keep := true, n := (((List.take ((Int.toNat k1) - 0) (List.drop 0 l2)) ++ [n0]) ++ (List.take (l2.length - (Int.toNat k1)) (List.drop (Int.toNat k1) l2))).length, xs := List.map I (((List.take ((Int.toNat k1) - 0) (List.drop 0 l2)) ++ [n0]) ++ (List.take (l2.length - (Int.toNat k1)) (List.drop (Int.toNat k1) l2))) }]] (by kernel_rfl) (P2 ((decide (k1 < ((l2.length : Nat) : Int))) = false) (decide_eq_false h5)<|P2 ((0 : Int) ≤ k1) h6<|P2 ((k1 : Int) ≤ ((l2.length : Nat) : Int)) h7<|P2 (AllFl (List.map I l2)) (allFl_3 _)<|P2 ((List.take ((Int.toNat k1) - 0) (List.drop 0 l2)).length = ([] : List Int).length + ((Int.toNat k1) - 0)) (by first | (simp <;> omega) | (simp only [List.length_append, List.length_take, List.length_drop, List.length_nil] <;> omega))<|P2 ((([] : List Int).length + ((Int.toNat k1) - 0)) * 8 ≤ 70368744177664) (by have := h8; first | (simp at this ⊢ <;> omega) | (simp only [List.length_append, List.length_take, List.length_drop, List.length_nil] at this ⊢ <;> omega))<|P2 (List.map I ([] : List Int) ++ List.take ((Int.toNat k1) - 0) (List.drop 0 (List.map I l2)) = List.map I (List.take ((Int.toNat k1) - 0) (List.drop 0 l2))) (by simp [List.map_take, List.map_drop])<|P1 (apL (List.take ((Int.toNat k1) - 0) (List.drop 0 l2)) [n0])<|P1 (apB h9)<|P1 (apM I (List.take ((Int.toNat k1) - 0) (List.drop 0 l2)) [n0])<|P2 ((0 : Int) ≤ k1) h10<|P2 ((k1 : Int) ≤ ((l2.length : Nat) : Int)) h11<|P2 (AllFl (List.map I l2)) (allFl_3 _)<|P2 ((((List.take ((Int.toNat k1) - 0) (List.drop 0 l2)) ++ [n0]) ++ (List.take (l2.length - (Int.toNat k1)) (List.drop (Int.toNat k1) l2))).length = ((List.take ((Int.toNat k1) - 0) (List.drop 0 l2)) ++ [n0]).length + (l2.length - (Int.toNat k1))) (by first | (simp <;> omega) | (simp only [List.length_append, List.length_take, List.length_drop, List.length_nil] <;> omega))<|P2 ((((List.take ((Int.toNat k1) - 0) (List.drop 0 l2)) ++ [n0]).length + (l2.length - (Int.toNat k1))) * 8 ≤ 70368744177664) (by have := h12; first | (simp at this ⊢ <;> omega) | (simp only [List.length_append, List.length_take, List.length_drop, List.length_nil] at this ⊢ <;> omega))<|P2 (List.map I ((List.take ((Int.toNat k1) - 0) (List.drop 0 l2)) ++ [n0]) ++ List.take (l2.length - (Int.toNat k1)) (List.drop (Int.toNat k1) (List.map I l2)) = List.map I (((List.take ((Int.toNat k1) - 0) (List.drop 0 l2)) ++ [n0]) ++ (List.take (l2.length - (Int.toNat k1)) (List.drop (Int.toNat k1) l2)))) (by simp [List.map_take, List.map_drop])<|P0))))
  (fun h1 H =>
  gN [rg [hF 3]] (by kernel_rfl) (P2 ((decide (k1 < ((l2.length : Nat) : Int))) = false) (decide_eq_false h1)<|P0) <|
  eIf H (fun h2 H =>
  eCk H fun h3 H =>
  eBind H fun x4 hx4 H =>
  eIf H (fun h5 H =>
  eN H<|gE func126 [rg [hT 3, hE 8 (I x4), hT 10], r0] (by kernel_rfl) (P2 ((decide (k1 < ((l2.length : Nat) : Int))) = true) (decide_eq_true h2)<|P1 h3<|P1 (int_lt_of_at h3 hx4)<|P1 (at_map I hx4)<|P2 (((x4 : Int) == n0) = true) (beqT h5)<|P0))
  (fun h5 H =>
  eCk H fun h6 H =>
  eCk H fun h7 H =>
  eCk H fun h8 H =>
  eCk H fun h9 H =>
  eCk H fun h10 H =>
  eCk H fun h11 H =>
  eCk H fun h12 H =>
  eN H<|gE func126 [rg [hT 3, hE 8 (I x4), hF 10], rg [{ i := 4, keep := true, n := (List.take ((Int.toNat k1) - 0) (List.drop 0 l2)).length, xs := List.map I (List.take ((Int.toNat k1) - 0) (List.drop 0 l2)) }], rg [hA 3 (((List.take ((Int.toNat k1) - 0) (List.drop 0 l2)) ++ [n0]).length) (List.map I ((List.take ((Int.toNat k1) - 0) (List.drop 0 l2)) ++ [n0]))], rg [{ i := 4, keep := true, n := (((List.take ((Int.toNat k1) - 0) (List.drop 0 l2)) ++ [n0]) ++ (List.take (l2.length - (Int.toNat k1)) (List.drop (Int.toNat k1) l2))).length, xs := List.map I (((List.take ((Int.toNat k1) - 0) (List.drop 0 l2)) ++ [n0]) ++ (List.take (l2.length - (Int.toNat k1)) (List.drop (Int.toNat k1) l2))) }]] (by kernel_rfl) (P2 ((decide (k1 < ((l2.length : Nat) : Int))) = true) (decide_eq_true h2)<|P1 h3<|P1 (int_lt_of_at h3 hx4)<|P1 (at_map I hx4)<|P2 (((x4 : Int) == n0) = false) (beqF h5)<|P2 ((0 : Int) ≤ k1) h6<|P2 ((k1 : Int) ≤ ((l2.length : Nat) : Int)) h7<|P2 (AllFl (List.map I l2)) (allFl_3 _)<|P2 ((List.take ((Int.toNat k1) - 0) (List.drop 0 l2)).length = ([] : List Int).length + ((Int.toNat k1) - 0)) (by first | (simp <;> omega) | (simp only [List.length_append, List.length_take, List.length_drop, List.length_nil] <;> omega))<|P2 ((([] : List Int).length + ((Int.toNat k1) - 0)) * 8 ≤ 70368744177664) (by have := h8; first | (simp at this ⊢ <;> omega) | (simp only [List.length_append, List.length_take, List.length_drop, List.length_nil] at this ⊢ <;> omega))<|P2 (List.map I ([] : List Int) ++ List.take ((Int.toNat k1) - 0) (List.drop 0 (List.map I l2)) = List.map I (List.take ((Int.toNat k1) - 0) (List.drop 0 l2))) (by simp [List.map_take, List.map_drop])<|P1 (apL (List.take ((Int.toNat k1) - 0) (List.drop 0 l2)) [n0])<|P1 (apB h9)<|P1 (apM I (List.take ((Int.toNat k1) - 0) (List.drop 0 l2)) [n0])<|P2 ((0 : Int) ≤ k1) h10<|P2 ((k1 : Int) ≤ ((l2.length : Nat) : Int)) h11<|P2 (AllFl (List.map I l2)) (allFl_3 _)<|P2 ((((List.take ((Int.toNat k1) - 0) (List.drop 0 l2)) ++ [n0]) ++ (List.take (l2.length - (Int.toNat k1)) (List.drop (Int.toNat k1) l2))).length = ((List.take ((Int.toNat k1) - 0) (List.drop 0 l2)) ++ [n0]).length + (l2.length - (Int.toNat k1))) (by first | (simp <;> omega) | (simp only [List.length_append, List.length_take, List.length_drop, List.length_nil] <;> omega))<|P2 ((((List.take ((Int.toNat k1) - 0) (List.drop 0 l2)) ++ [n0]).length + (l2.length - (Int.toNat k1))) * 8 ≤ 70368744177664) (by have := h12; first | (simp at this ⊢ <;> omega) | (simp only [List.length_append, List.length_take, List.length_drop, List.length_nil] at this ⊢ <;> omega))<|P2 (List.map I ((List.take ((Int.toNat k1) - 0) (List.drop 0 l2)) ++ [n0]) ++ List.take (l2.length - (Int.toNat k1)) (List.drop (Int.toNat k1) (List.map I l2)) = List.map I (((List.take ((Int.toNat k1) - 0) (List.drop 0 l2)) ++ [n0]) ++ (List.take (l2.length - (Int.toNat k1)) (List.drop (Int.toNat k1) l2)))) (by simp [List.map_take, List.map_drop])<|P0)))
  (fun h2 H =>
  eCk H fun h3 H =>
  eCk H fun h4 H =>
  eCk H fun h5 H =>
  eCk H fun h6 H =>
  eCk H fun h7 H =>
  eCk H fun h8 H =>
  eCk H fun h9 H =>
  eN H<|gE func126 [rg [hF 3], rg [{ i := 4, keep := true, n := (List.take ((Int.toNat k1) - 0) (List.drop 0 l2)).length, xs := List.map I (List.take ((Int.toNat k1) - 0) (List.drop 0 l2)) }], rg [hA 3 (((List.take ((Int.toNat k1) - 0) (List.drop 0 l2)) ++ [n0]).length) (List.map I ((List.take ((Int.toNat k1) - 0) (List.drop 0 l2)) ++ [n0]))], rg [{ i := 4, keep := true, n := (((List.take ((Int.toNat k1) - 0) (List.drop 0 l2)) ++ [n0]) ++ (List.take (l2.length - (Int.toNat k1)) (List.drop (Int.toNat k1) l2))).length, xs := List.map I (((List.take ((Int.toNat k1) - 0) (List.drop 0 l2)) ++ [n0]) ++ (List.take (l2.length - (Int.toNat k1)) (List.drop (Int.toNat k1) l2))) }]] (by kernel_rfl) (P2 ((decide (k1 < ((l2.length : Nat) : Int))) = false) (decide_eq_false h2)<|P2 ((0 : Int) ≤ k1) h3<|P2 ((k1 : Int) ≤ ((l2.length : Nat) : Int)) h4<|P2 (AllFl (List.map I l2)) (allFl_3 _)<|P2 ((List.take ((Int.toNat k1) - 0) (List.drop 0 l2)).length = ([] : List Int).length + ((Int.toNat k1) - 0)) (by first | (simp <;> omega) | (simp only [List.length_append, List.length_take, List.length_drop, List.length_nil] <;> omega))<|P2 ((([] : List Int).length + ((Int.toNat k1) - 0)) * 8 ≤ 70368744177664) (by have := h5; first | (simp at this ⊢ <;> omega) | (simp only [List.length_append, List.length_take, List.length_drop, List.length_nil] at this ⊢ <;> omega))<|P2 (List.map I ([] : List Int) ++ List.take ((Int.toNat k1) - 0) (List.drop 0 (List.map I l2)) = List.map I (List.take ((Int.toNat k1) - 0) (List.drop 0 l2))) (by simp [List.map_take, List.map_drop])<|P1 (apL (List.take ((Int.toNat k1) - 0) (List.drop 0 l2)) [n0])<|P1 (apB h6)<|P1 (apM I (List.take ((Int.toNat k1) - 0) (List.drop 0 l2)) [n0])<|P2 ((0 : Int) ≤ k1) h7<|P2 ((k1 : Int) ≤ ((l2.length : Nat) : Int)) h8<|P2 (AllFl (List.map I l2)) (allFl_3 _)<|P2 ((((List.take ((Int.toNat k1) - 0) (List.drop 0 l2)) ++ [n0]) ++ (List.take (l2.length - (Int.toNat k1)) (List.drop (Int.toNat k1) l2))).length = ((List.take ((Int.toNat k1) - 0) (List.drop 0 l2)) ++ [n0]).length + (l2.length - (Int.toNat k1))) (by first | (simp <;> omega) | (simp only [List.length_append, List.length_take, List.length_drop, List.length_nil] <;> omega))<|P2 ((((List.take ((Int.toNat k1) - 0) (List.drop 0 l2)) ++ [n0]).length + (l2.length - (Int.toNat k1))) * 8 ≤ 70368744177664) (by have := h9; first | (simp at this ⊢ <;> omega) | (simp only [List.length_append, List.length_take, List.length_drop, List.length_nil] at this ⊢ <;> omega))<|P2 (List.map I ((List.take ((Int.toNat k1) - 0) (List.drop 0 l2)) ++ [n0]) ++ List.take (l2.length - (Int.toNat k1)) (List.drop (Int.toNat k1) (List.map I l2)) = List.map I (((List.take ((Int.toNat k1) - 0) (List.drop 0 l2)) ++ [n0]) ++ (List.take (l2.length - (Int.toNat k1)) (List.drop (Int.toNat k1) l2)))) (by simp [List.map_take, List.map_drop])<|P0)))
theorem ws_l1Put_c0 : ∀ s r, loop Bs_l1Put_c0 s = some r → Wc X 126 1 (Ks_l1Put_c0 s) (Zs_l1Put_c0 s) (Rs_l1Put_c0 r) (Ns_l1Put_c0 r) := Nx.all (ns_l1Put_c0)
theorem cs_l1Put_c0 {a0 : (List Int)} {a1 : Int} {r : (List Int)} (H : Ds_l1Put_c0 a0 a1 = some r) : Ct X.P X.gl 126 [.ref 0 1 none, I a1] [⟨false, false, 1, a0.length, List.map I a0⟩] (Rs_l1Put_c0 r) (Ns_l1Put_c0 r) :=
 Ct.of func126 (c := bdy f126) (by kernel_rfl) (by kernel_rfl) <|
 gO [.whole 0, r0, r0, .canon [0, 1] [0, 1, 5]] (by kernel_rfl) P0 (ws_l1Put_c0 _ _ H)
def Rs_mMirrorEdges (r : (List Int)) : List D := [ow 1 I r]
noncomputable def Ks_mMirrorEdges : Ss_mMirrorEdges → List Item
 | .h1 .. => nav 300 3 [] [.code (bdy f124)]
def Zs_mMirrorEdges : Ss_mMirrorEdges → St
 | .h1 t0 t1 t2 b3 b4 l5 => ⟨sts 29 [(3, .ptr 0 5 0 0), (4, .ptr 1 5 0 0), (7, .ref 2 1 none), (10, sl 1 I t0), (11, I t1), (12, I t2)], [some ⟨false, true, 5, 1, [gi_Map b3]⟩, some ⟨false, true, 5, 1, [gi_Map b4]⟩, some ⟨false, false, 1, l5.length, List.map I l5⟩]⟩
abbrev Qs_mMirrorEdges := Nx X 124 0 Ks_mMirrorEdges Zs_mMirrorEdges Rs_mMirrorEdges (fun _ => [])
theorem ns_mMirrorEdges : ∀ s o, Bs_mMirrorEdges s = some o → Qs_mMirrorEdges (Ks_mMirrorEdges s) (Zs_mMirrorEdges s) o
 | .h1 t0 t1 t2 b3 b4 l5, o, H =>
  eIf H (fun h1 H =>
  eCk H fun h2 H =>
  eBind H fun x3 hx3 H =>
  eBind H fun r4 hr4 H =>
  eBind H fun r5 hr5 H =>
  eBind H fun r6 hr6 H =>
  eN H fun r hn => gO [rg [hT 0], rg [hE 1 (I x3)], rg [hC 5 true [] (RI r4) [], hC 9 true [] (RI r5) [], hC 10 true [2] (Rs_l1Put_c0 r6) (Ns_l1Put_c0 r6)], r0, .canon [0, 1, 3] [3, 4, 7, 10, 11, 12]] (by kernel_rfl) (P2 ((decide (t2 < t1)) = true) (decide_eq_true h1)<|P1 h2<|P1 (int_lt_of_at h2 hx3)<|P1 (at_map I hx3)<|P2 (¬ (3 : Int) = 0) (by decide)<|P1 (cs_mMirrorIndex hr4)<|P2 (¬ (3 : Int) = 0) (by decide)<|P1 (cs_mEdge hr5)<|P1 (cs_l1Put_c0 hr6)<|P0) hn)
  (fun h1 H =>
  eN H<|gE func124 [rg [hF 0], r0] (by kernel_rfl) (P2 ((decide (t2 < t1)) = false) (decide_eq_false h1)<|P0))
theorem ws_mMirrorEdges : ∀ s r, loop Bs_mMirrorEdges s = some r → Wc X 124 0 (Ks_mMirrorEdges s) (Zs_mMirrorEdges s) (Rs_mMirrorEdges r) ((fun _ => []) r) := Nx.all (ns_mMirrorEdges)
theorem cs_mMirrorEdges {a0 : Gi_Map} {a1 : Gi_Map} {a2 : (List Int)} {r : (List Int)} (H : Ds_mMirrorEdges a0 a1 a2 = some r) : Ct X.P X.gl 124 [gi_Map a0, gi_Map a1, sl 1 I a2] [] (Rs_mMirrorEdges r) [] :=
 Ct.of func124 (c := bdy f124) (by kernel_rfl) (by kernel_rfl) <|
 gO [r0, r0, r0, .own 7 1, .canon [0, 1, 2] [3, 4, 7, 10, 11, 12]] (by kernel_rfl) P0 (ws_mMirrorEdges _ _ H)
def Rs_mMirror (r : Gi_Map) : List D := [.agg [I r.Width, I r.Height, ow 1 I r.Terrain, ow 1 I r.Rivers, ow 1 I r.Roads]]
noncomputable def Ks_mMirror : Ss_mMirror → List Item
 | .h1 .. => nav 300 3 [] [.code (bdy f76)]
def Zs_mMirror : Ss_mMirror → St
 | .h1 t0 t1 t2 b3 b4 b5 b6 b7 l8 => ⟨sts 43 [(1, .ptr 0 5 0 0), (2, .ptr 1 5 0 0), (3, .ptr 2 5 0 0), (15, sl 1 I t0), (16, I t1), (17, I t2)], [some ⟨false, true, 5, 1, [gi_Map b3]⟩, some ⟨false, true, 5, 1, [.agg [I b4, I b5, .nil, .nil, .nil]]⟩, some ⟨false, true, 5, 1, [.agg [I b6, I b7, .ref 3 1 none, .nil, .nil]]⟩, some ⟨false, false, 1, l8.length, List.map I l8⟩]⟩
abbrev Qs_mMirror := Nx X 76 0 Ks_mMirror Zs_mMirror Rs_mMirror (fun _ => [])
theorem ns_mMirror : ∀ s o, Bs_mMirror s = some o → Qs_mMirror (Ks_mMirror s) (Zs_mMirror s) o
 | .h1 t0 t1 t2 b3 b4 b5 b6 b7 l8, o, H =>
  eIf H (fun h1 H =>
  eCk H fun h2 H =>
  eBind H fun x3 hx3 H =>
  eBind H fun r4 hr4 H =>
  eCk H fun h5 H =>
  eBind H fun x6 hx6 H =>
  eN H fun r hn => gO [rg [hT 0], rg [hE 2 (I x3)], rg [hC 4 true [] (RI r4) [], hA 7 ((List.set l8 (Int.toNat r4) x3).length) (List.map I (List.set l8 (Int.toNat r4) x3))], r0, .canon [0, 1, 2, 3] [1, 2, 3, 15, 16, 17]] (by kernel_rfl) (P2 ((decide (t2 < t1)) = true) (decide_eq_true h1)<|P1 h2<|P1 (int_lt_of_at h2 hx3)<|P1 (at_map I hx3)<|P1 (cs_mMirrorIndex hr4)<|P1 h5<|P1 (int_lt_of_at h5 hx6)<|P1 (lt_of_at hx6)<|P2 (setCells (List.map I l8) (Int.toNat r4) 0 [I x3] = List.map I (List.set l8 (Int.toNat r4) x3)) (setCells_map hx6 rfl)<|P1 (setLen l8 (Int.toNat r4) x3)<|P0) hn)
  (fun h1 H =>
  eBind H fun r2 hr2 H =>
  eBind H fun r3 hr3 H =>
  eN H<|gE func76 [rg [hF 0], rg [{ i := 4, call := some { cl := false, ins := [], args := [gi_Map b3, .agg [I b6, I b7, sl 1 I l8, sl 1 I [], sl 1 I []], sl 1 I b3.Rivers], res := Rs_mMirrorEdges r2, G' := [] } }], rg [{ i := 4, call := some { cl := false, ins := [], args := [gi_Map b3, .agg [I b6, I b7, sl 1 I l8, sl 1 I r2, sl 1 I []], sl 1 I b3.Roads], res := Rs_mMirrorEdges r3, G' := [] } }], r0] (by kernel_rfl) (P2 ((decide (t2 < t1)) = false) (decide_eq_false h1)<|PI b3.Width<|PI b3.Height<|PL I b3.Terrain<|PL I b3.Rivers<|PL I b3.Roads<|PI b6<|PI b7<|PL I l8<|PI (0 : Nat)<|PI ([] : List D)<|PI (0 : Nat)<|PI ([] : List D)<|PL I b3.Rivers<|P2 (nfL (List.flatMap D.cells (Rs_mMirrorEdges r2))) ⟨nfL_map nf_3 _, trivial⟩<|P2 (nfG []) trivial<|P1 (cs_mMirrorEdges hr2)<|PI b3.Width<|PI b3.Height<|PL I b3.Terrain<|PL I b3.Rivers<|PL I b3.Roads<|PI b6<|PI b7<|PL I l8<|PL I r2<|PI (0 : Nat)<|PI ([] : List D)<|PL I b3.Roads<|P2 (nfL (List.flatMap D.cells (Rs_mMirrorEdges r3))) ⟨nfL_map nf_3 _, trivial⟩<|P2 (nfG []) trivial<|P1 (cs_mMirrorEdges hr3)<|P0))
theorem ws_mMirror : ∀ s r, loop Bs_mMirror s = some r → Wc X 76 0 (Ks_mMirror s) (Zs_mMirror s) (Rs_mMirror r) ((fun _ => []) r) := Nx.all (ns_mMirror)
theorem cs_mMirror {a0 : Gi_Map} {r : Gi_Map} (H : Ds_mMirror a0 = some r) : Ct X.P X.gl 76 [gi_Map a0] [] (Rs_mMirror r) [] :=
 have H := (Ds_mMirror.eq_1 ..).symm.trans H
 Ct.of func76 (c := bdy f76) (by kernel_rfl) (by kernel_rfl) <|
 eBind H fun r1 hr1 H =>
 eCk H fun h2 H =>
 eCk H fun h3 H =>
 gO [r0, rg [hC 5 true [] (RI r1) [], hA 6 ((List.replicate (Int.toNat r1) (0 : Int)).length) (List.map I (List.replicate (Int.toNat r1) (0 : Int)))], r0, .canon [0, 1, 3, 2] [1, 2, 3, 15, 16, 17]] (by kernel_rfl) (P1 (cs_mSize hr1)<|PI r1<|P2 ((0 : Int) ≤ r1) h2<|P2 (Int.toNat r1 * 8 ≤ 140737488355328) h3<|P1 (repLen (Int.toNat r1) (0 : Int))<|P1 (repMap I (Int.toNat r1) (0 : Int))<|P0) (ws_mMirror _ _ H)
def Rs_snHexes (r : (List Int)) : List D := [ow 1 I r]
noncomputable def Ks_snHexes : Ss_snHexes → List Item
 | .h1 .. => nav 300 3 [] [.code (bdy f78)]
def Zs_snHexes : Ss_snHexes → St
 | .h1 t0 t1 t2 b3 l4 => ⟨sts 21 [(2, .ptr 0 5 0 0), (5, .ref 1 1 none), (8, sl 1 I t0), (9, I t1), (10, I t2)], [some ⟨false, true, 5, 1, [gi_Map b3]⟩, some ⟨false, false, 1, l4.length, List.map I l4⟩]⟩
abbrev Qs_snHexes := Nx X 78 0 Ks_snHexes Zs_snHexes Rs_snHexes (fun _ => [])
theorem ns_snHexes : ∀ s o, Bs_snHexes s = some o → Qs_snHexes (Ks_snHexes s) (Zs_snHexes s) o
 | .h1 t0 t1 t2 b3 l4, o, H =>
  eIf H (fun h1 H =>
  eCk H fun h2 H =>
  eBind H fun x3 hx3 H =>
  eBind H fun r4 hr4 H =>
  eBind H fun r5 hr5 H =>
  eN H fun r hn => gO [rg [hT 0], rg [hE 1 (I x3)], rg [hC 3 true [] (RI r4) [], hC 4 true [1] (Rs_l1Put_c0 r5) (Ns_l1Put_c0 r5)], r0, .canon [0, 2] [2, 5, 8, 9, 10]] (by kernel_rfl) (P2 ((decide (t2 < t1)) = true) (decide_eq_true h1)<|P1 h2<|P1 (int_lt_of_at h2 hx3)<|P1 (at_map I hx3)<|P1 (cs_mMirrorIndex hr4)<|P1 (cs_l1Put_c0 hr5)<|P0) hn)
  (fun h1 H =>
  eN H<|gE func78 [rg [hF 0], r0] (by kernel_rfl) (P2 ((decide (t2 < t1)) = false) (decide_eq_false h1)<|P0))
theorem ws_snHexes : ∀ s r, loop Bs_snHexes s = some r → Wc X 78 0 (Ks_snHexes s) (Zs_snHexes s) (Rs_snHexes r) ((fun _ => []) r) := Nx.all (ns_snHexes)
theorem cs_snHexes {a0 : Gi_Map} {a1 : (List Int)} {r : (List Int)} (H : Ds_snHexes a0 a1 = some r) : Ct X.P X.gl 78 [gi_Map a0, sl 1 I a1] [] (Rs_snHexes r) [] :=
 Ct.of func78 (c := bdy f78) (by kernel_rfl) (by kernel_rfl) <|
 gO [r0, r0, r0, .own 5 1, .canon [0, 1] [2, 5, 8, 9, 10]] (by kernel_rfl) P0 (ws_snHexes _ _ H)
def Rs_snMirror (r : Gi_Scenario) : List D := [.agg [.str r.Name, ow 5 goi_Terrain r.Board.Rules.Terrains, ow 6 gi_Kind r.Board.Rules.Kinds, I r.Board.Rules.Stack, I r.Board.Rules.River, I r.Board.Rules.Road, I r.Board.Rules.Supply, I r.Board.Rules.Turns, I r.Board.Map.Width, I r.Board.Map.Height, ow 1 I r.Board.Map.Terrain, ow 1 I r.Board.Map.Rivers, ow 1 I r.Board.Map.Roads, ow 2 gi_Odds r.Table.Columns, I r.Table.Dice, ow 1 (ow 1 I) r.Table.Results, I r.Start.Turn, I r.Start.Weather, ow 4 gi_Unit r.Start.Units, ow 2 gi_Goal r.Conditions.Goals, I r.Conditions.Step, I r.Conditions.Margin, ow 1 I r.First, ow 1 I r.Other]]
noncomputable def Ks_snMirror : Ss_snMirror → List Item
 | .h1 .. => nav 300 5 [] [.code (bdy f32)]
 | .h2 .. => nav 300 9 [false] [.code (bdy f32)]
 | .h3 .. => nav 300 11 [false, false] [.code (bdy f32)]
 | .h4 .. => nav 300 14 [false, false, true] [.code (bdy f32)]
 | .h5 .. => nav 300 19 [false, false, true, true, true] [.code (bdy f32)]
 | .h6 .. => nav 300 21 [false, false, true, true, true, false] [.code (bdy f32)]
def Zs_snMirror : Ss_snMirror → St
 | .h1 t0 t1 b2 b3 b4 b5 b6 b7 b8 b9 b10 b11 b12 b13 b14 b15 b16 b17 b18 b19 b20 b21 b22 b23 b24 b25 b26 b27 b28 b29 l30 l31 l32 l33 l34 l35 l36 l37 l38 l39 l40 => ⟨sts 108 [(1, .ptr 0 24 0 0), (2, .ptr 1 24 0 0), (3, .ptr 2 5 0 0), (4, .ptr 3 24 0 0), (25, .ref 4 4 none), (26, I t0), (27, I t1)], [some ⟨false, true, 24, 1, [gi_Scenario b2]⟩, some ⟨false, true, 24, 1, [.agg [.str b3, .nil, .nil, I b4, I b5, I b6, I b7, I b8, I b9, I b10, .nil, .nil, .nil, .nil, I b11, .nil, I b12, I b13, .nil, .nil, I b14, I b15, .nil, .nil]]⟩, some ⟨false, true, 5, 1, [gi_Map b16]⟩, some ⟨false, true, 24, 1, [.agg [.str b17, .ref 5 5 none, .ref 6 6 none, I b18, I b19, I b20, I b21, I b22, I b23, I b24, .ref 7 1 none, .ref 8 1 none, .ref 9 1 none, .ref 10 2 none, I b25, .ref 11 1 none, I b26, I b27, .ref 4 4 none, .ref 12 2 none, I b28, I b29, .ref 13 1 none, .ref 14 1 none]]⟩, some ⟨false, false, 4, l30.length, List.map gi_Unit l30⟩, some ⟨false, false, 5, l31.length, List.map goi_Terrain l31⟩, some ⟨false, false, 6, l32.length, List.map gi_Kind l32⟩, some ⟨false, false, 1, l33.length, List.map I l33⟩, some ⟨false, false, 1, l34.length, List.map I l34⟩, some ⟨false, false, 1, l35.length, List.map I l35⟩, some ⟨false, false, 2, l36.length, List.map gi_Odds l36⟩, some ⟨false, false, 1, l37.length, List.map (ow 1 I) l37⟩, some ⟨false, false, 2, l38.length, List.map gi_Goal l38⟩, some ⟨false, false, 1, l39.length, List.map I l39⟩, some ⟨false, false, 1, l40.length, List.map I l40⟩]⟩
 | .h2 t0 t1 t2 b3 b4 b5 b6 b7 b8 b9 b10 b11 b12 b13 b14 b15 b16 b17 b18 b19 b20 b21 b22 b23 b24 b25 b26 b27 b28 b29 b30 l31 l32 l33 l34 l35 l36 l37 l38 l39 l40 l41 => ⟨sts 108 [(1, .ptr 0 24 0 0), (2, .ptr 1 24 0 0), (3, .ptr 2 5 0 0), (4, .ptr 3 24 0 0), (7, .ref 4 1 none), (50, sl 2 gi_Goal t0), (51, I t1), (52, I t2)], [some ⟨false, true, 24, 1, [gi_Scenario b3]⟩, some ⟨false, true, 24, 1, [.agg [.str b4, .nil, .nil, I b5, I b6, I b7, I b8, I b9, I b10, I b11, .nil, .nil, .nil, .nil, I b12, .nil, I b13, I b14, .nil, .nil, I b15, I b16, .nil, .nil]]⟩, some ⟨false, true, 5, 1, [gi_Map b17]⟩, some ⟨false, true, 24, 1, [.agg [.str b18, .ref 5 5 none, .ref 6 6 none, I b19, I b20, I b21, I b22, I b23, I b24, I b25, .ref 7 1 none, .ref 8 1 none, .ref 9 1 none, .ref 10 2 none, I b26, .ref 11 1 none, I b27, I b28, .ref 12 4 none, .nil, I b29, I b30, .ref 13 1 none, .ref 14 1 none]]⟩, some ⟨false, false, 1, l31.length, List.map I l31⟩, some ⟨false, false, 5, l32.length, List.map goi_Terrain l32⟩, some ⟨false, false, 6, l33.length, List.map gi_Kind l33⟩, some ⟨false, false, 1, l34.length, List.map I l34⟩, some ⟨false, false, 1, l35.length, List.map I l35⟩, some ⟨false, false, 1, l36.length, List.map I l36⟩, some ⟨false, false, 2, l37.length, List.map gi_Odds l37⟩, some ⟨false, false, 1, l38.length, List.map (ow 1 I) l38⟩, some ⟨false, false, 4, l39.length, List.map gi_Unit l39⟩, some ⟨false, false, 1, l40.length, List.map I l40⟩, some ⟨false, false, 1, l41.length, List.map I l41⟩]⟩
 | .h3 t0 t1 b2 b3 b4 b5 b6 b7 b8 b9 b10 b11 b12 b13 b14 b15 b16 b17 b18 b19 b20 b21 b22 b23 b24 b25 b26 b27 b28 b29 l30 l31 l32 l33 l34 l35 l36 l37 l38 l39 l40 => ⟨sts 108 [(1, .ptr 0 24 0 0), (2, .ptr 1 24 0 0), (3, .ptr 2 5 0 0), (4, .ptr 3 24 0 0), (64, .ref 4 1 none), (65, I t0), (66, I t1)], [some ⟨false, true, 24, 1, [gi_Scenario b2]⟩, some ⟨false, true, 24, 1, [.agg [.str b3, .nil, .nil, I b4, I b5, I b6, I b7, I b8, I b9, I b10, .nil, .nil, .nil, .nil, I b11, .nil, I b12, I b13, .nil, .nil, I b14, I b15, .nil, .nil]]⟩, some ⟨false, true, 5, 1, [gi_Map b16]⟩, some ⟨false, true, 24, 1, [.agg [.str b17, .ref 5 5 none, .ref 6 6 none, I b18, I b19, I b20, I b21, I b22, I b23, I b24, .ref 7 1 none, .ref 8 1 none, .ref 9 1 none, .ref 10 2 none, I b25, .ref 11 1 none, I b26, I b27, .ref 12 4 none, .nil, I b28, I b29, .ref 13 1 none, .ref 14 1 none]]⟩, some ⟨false, false, 1, l30.length, List.map I l30⟩, some ⟨false, false, 5, l31.length, List.map goi_Terrain l31⟩, some ⟨false, false, 6, l32.length, List.map gi_Kind l32⟩, some ⟨false, false, 1, l33.length, List.map I l33⟩, some ⟨false, false, 1, l34.length, List.map I l34⟩, some ⟨false, false, 1, l35.length, List.map I l35⟩, some ⟨false, false, 2, l36.length, List.map gi_Odds l36⟩, some ⟨false, false, 1, l37.length, List.map (ow 1 I) l37⟩, some ⟨false, false, 4, l38.length, List.map gi_Unit l38⟩, some ⟨false, false, 1, l39.length, List.map I l39⟩, some ⟨false, false, 1, l40.length, List.map I l40⟩]⟩
 | .h4 i0 t1 t2 t3 t4 t5 b6 b7 b8 b9 b10 b11 b12 b13 b14 b15 b16 b17 b18 b19 b20 b21 b22 b23 b24 b25 b26 b27 b28 b29 b30 b31 b32 b33 l34 l35 l36 l37 l38 l39 l40 l41 l42 l43 l44 => ⟨sts 108 [(1, .ptr 0 24 0 0), (2, .ptr 1 24 0 0), (3, .ptr 2 5 0 0), (4, .ptr 3 24 0 0), (11, I i0), (64, .ref 4 1 none), (65, I t1), (66, I t2), (72, sl 2 gi_Goal t3), (73, I t4), (74, I t5)], [some ⟨false, true, 24, 1, [gi_Scenario b6]⟩, some ⟨false, true, 24, 1, [.agg [.str b7, .nil, .nil, I b8, I b9, I b10, I b11, I b12, I b13, I b14, .nil, .nil, .nil, .nil, I b15, .nil, I b16, I b17, .nil, .nil, I b18, I b19, .nil, .nil]]⟩, some ⟨false, true, 5, 1, [gi_Map b20]⟩, some ⟨false, true, 24, 1, [.agg [.str b21, .ref 5 5 none, .ref 6 6 none, I b22, I b23, I b24, I b25, I b26, I b27, I b28, .ref 7 1 none, .ref 8 1 none, .ref 9 1 none, .ref 10 2 none, I b29, .ref 11 1 none, I b30, I b31, .ref 12 4 none, .nil, I b32, I b33, .ref 13 1 none, .ref 14 1 none]]⟩, some ⟨false, false, 1, l34.length, List.map I l34⟩, some ⟨false, false, 5, l35.length, List.map goi_Terrain l35⟩, some ⟨false, false, 6, l36.length, List.map gi_Kind l36⟩, some ⟨false, false, 1, l37.length, List.map I l37⟩, some ⟨false, false, 1, l38.length, List.map I l38⟩, some ⟨false, false, 1, l39.length, List.map I l39⟩, some ⟨false, false, 2, l40.length, List.map gi_Odds l40⟩, some ⟨false, false, 1, l41.length, List.map (ow 1 I) l41⟩, some ⟨false, false, 4, l42.length, List.map gi_Unit l42⟩, some ⟨false, false, 1, l43.length, List.map I l43⟩, some ⟨false, false, 1, l44.length, List.map I l44⟩]⟩
 | .h5 i0 t1 t2 t3 t4 t5 b6 b7 b8 b9 b10 b11 b12 b13 b14 b15 b16 b17 b18 b19 b20 b21 b22 b23 b24 b25 b26 b27 b28 b29 b30 b31 b32 b33 l34 l35 l36 l37 l38 l39 l40 l41 l42 l43 l44 l45 => ⟨sts 108 [(1, .ptr 0 24 0 0), (2, .ptr 1 24 0 0), (3, .ptr 2 5 0 0), (4, .ptr 3 24 0 0), (11, I i0), (64, .ref 4 1 none), (65, I t1), (66, I t2), (72, sl 2 gi_Goal t3), (73, I t4), (74, I t5)], [some ⟨false, true, 24, 1, [gi_Scenario b6]⟩, some ⟨false, true, 24, 1, [.agg [.str b7, .nil, .nil, I b8, I b9, I b10, I b11, I b12, I b13, I b14, .nil, .nil, .nil, .nil, I b15, .nil, I b16, I b17, .nil, .nil, I b18, I b19, .nil, .nil]]⟩, some ⟨false, true, 5, 1, [gi_Map b20]⟩, some ⟨false, true, 24, 1, [.agg [.str b21, .ref 5 5 none, .ref 6 6 none, I b22, I b23, I b24, I b25, I b26, I b27, I b28, .ref 7 1 none, .ref 8 1 none, .ref 9 1 none, .ref 10 2 none, I b29, .ref 11 1 none, I b30, I b31, .ref 12 4 none, .ref 13 2 none, I b32, I b33, .ref 14 1 none, .ref 15 1 none]]⟩, some ⟨false, false, 1, l34.length, List.map I l34⟩, some ⟨false, false, 5, l35.length, List.map goi_Terrain l35⟩, some ⟨false, false, 6, l36.length, List.map gi_Kind l36⟩, some ⟨false, false, 1, l37.length, List.map I l37⟩, some ⟨false, false, 1, l38.length, List.map I l38⟩, some ⟨false, false, 1, l39.length, List.map I l39⟩, some ⟨false, false, 2, l40.length, List.map gi_Odds l40⟩, some ⟨false, false, 1, l41.length, List.map (ow 1 I) l41⟩, some ⟨false, false, 4, l42.length, List.map gi_Unit l42⟩, some ⟨false, false, 2, l43.length, List.map gi_Goal l43⟩, some ⟨false, false, 1, l44.length, List.map I l44⟩, some ⟨false, false, 1, l45.length, List.map I l45⟩]⟩
 | .h6 t0 t1 b2 b3 b4 b5 b6 b7 b8 b9 b10 b11 b12 b13 b14 b15 b16 b17 b18 b19 b20 b21 b22 b23 b24 b25 b26 b27 b28 b29 l30 l31 l32 l33 l34 l35 l36 l37 l38 l39 l40 l41 => ⟨sts 108 [(1, .ptr 0 24 0 0), (2, .ptr 1 24 0 0), (3, .ptr 2 5 0 0), (4, .ptr 3 24 0 0), (64, .ref 4 1 none), (65, I t0), (66, I t1)], [some ⟨false, true, 24, 1, [gi_Scenario b2]⟩, some ⟨false, true, 24, 1, [.agg [.str b3, .nil, .nil, I b4, I b5, I b6, I b7, I b8, I b9, I b10, .nil, .nil, .nil, .nil, I b11, .nil, I b12, I b13, .nil, .nil, I b14, I b15, .nil, .nil]]⟩, some ⟨false, true, 5, 1, [gi_Map b16]⟩, some ⟨false, true, 24, 1, [.agg [.str b17, .ref 5 5 none, .ref 6 6 none, I b18, I b19, I b20, I b21, I b22, I b23, I b24, .ref 7 1 none, .ref 8 1 none, .ref 9 1 none, .ref 10 2 none, I b25, .ref 11 1 none, I b26, I b27, .ref 12 4 none, .ref 13 2 none, I b28, I b29, .ref 14 1 none, .ref 15 1 none]]⟩, some ⟨false, false, 1, l30.length, List.map I l30⟩, some ⟨false, false, 5, l31.length, List.map goi_Terrain l31⟩, some ⟨false, false, 6, l32.length, List.map gi_Kind l32⟩, some ⟨false, false, 1, l33.length, List.map I l33⟩, some ⟨false, false, 1, l34.length, List.map I l34⟩, some ⟨false, false, 1, l35.length, List.map I l35⟩, some ⟨false, false, 2, l36.length, List.map gi_Odds l36⟩, some ⟨false, false, 1, l37.length, List.map (ow 1 I) l37⟩, some ⟨false, false, 4, l38.length, List.map gi_Unit l38⟩, some ⟨false, false, 2, l39.length, List.map gi_Goal l39⟩, some ⟨false, false, 1, l40.length, List.map I l40⟩, some ⟨false, false, 1, l41.length, List.map I l41⟩]⟩
abbrev Qs_snMirror := Nx X 32 0 Ks_snMirror Zs_snMirror Rs_snMirror (fun _ => [])
theorem ns_snMirror : ∀ s o, Bs_snMirror s = some o → Qs_snMirror (Ks_snMirror s) (Zs_snMirror s) o
 | .h1 t0 t1 b2 b3 b4 b5 b6 b7 b8 b9 b10 b11 b12 b13 b14 b15 b16 b17 b18 b19 b20 b21 b22 b23 b24 b25 b26 b27 b28 b29 l30 l31 l32 l33 l34 l35 l36 l37 l38 l39 l40, o, H =>
  eIf H (fun h1 H =>
  eCk H fun h2 H =>
  eBind H fun x3 hx3 H =>
  gN [rg [hT 0], rg [hE 2 (gi_Unit x3)]] (by kernel_rfl) (P2 ((decide (t1 < t0)) = true) (decide_eq_true h1)<|P1 h2<|P1 (int_lt_of_at h2 hx3)<|P1 (at_map gi_Unit hx3)<|P0) <|
  eIf H (fun h4 H =>
  eBind H fun r5 hr5 H =>
  eCk H fun h6 H =>
  eBind H fun x7 hx7 H =>
  eN H fun r hn => gO [rg [hT 2], rg [hC 7 true [] (RI r5) [], hA 10 ((List.set l30 (Int.toNat t1) (Gi_Unit.mk x7.Side x7.Kind r5 x7.Steps)).length) (List.map gi_Unit (List.set l30 (Int.toNat t1) (Gi_Unit.mk x7.Side x7.Kind r5 x7.Steps)))], r0, .canon [0, 1, 2, 3, 4, 5, 6, 7, 8, 9, 10, 11, 12, 13, 14] [1, 2, 3, 4, 25, 26, 27]] (by kernel_rfl) (P2 ((decide (x3.At ≥ 0)) = true) (decide_eq_true h4)<|P1 (cs_mMirrorIndex hr5)<|P1 h6<|P1 (int_lt_of_at h6 hx7)<|P1 (lt_of_at hx7)<|P2 (setCells (List.map gi_Unit l30) (Int.toNat t1) 2 [I r5] = List.map gi_Unit (List.set l30 (Int.toNat t1) (Gi_Unit.mk x7.Side x7.Kind r5 x7.Steps))) (setCells_map hx7 rfl)<|P1 (setLen l30 (Int.toNat t1) (Gi_Unit.mk x7.Side x7.Kind r5 x7.Steps))<|P0) hn)
  (fun h4 H =>
  eN H fun r hn => gO [rg [hF 2], r0, .canon [0, 1, 2, 3, 4, 5, 6, 7, 8, 9, 10, 11, 12, 13, 14] [1, 2, 3, 4, 25, 26, 27]] (by kernel_rfl) (P2 ((decide (x3.At ≥ 0)) = false) (decide_eq_false h4)<|P0) hn))
  (fun h1 H =>
  eN H fun r hn => gO [rg [hF 0], r0, r0, r0, .own 7 1, .canon [0, 1, 2, 3, 15, 5, 6, 7, 8, 9, 10, 11, 4, 13, 14] [1, 2, 3, 4, 7, 50, 51, 52]] (by kernel_rfl) (P2 ((decide (t1 < t0)) = false) (decide_eq_false h1)<|P0) hn)
 | .h2 t0 t1 t2 b3 b4 b5 b6 b7 b8 b9 b10 b11 b12 b13 b14 b15 b16 b17 b18 b19 b20 b21 b22 b23 b24 b25 b26 b27 b28 b29 b30 l31 l32 l33 l34 l35 l36 l37 l38 l39 l40 l41, o, H =>
  eIf H (fun h1 H =>
  eCk H fun h2 H =>
  eBind H fun x3 hx3 H =>
  eCk H fun h4 H =>
  eN H fun r hn => gO [rg [hT 0], rg [hE 1 (gi_Goal x3)], rg [hA 4 ((l31 ++ [x3.At]).length) (List.map I (l31 ++ [x3.At]))], r0, .canon [0, 1, 2, 3, 17, 5, 6, 7, 8, 9, 10, 11, 12, 13, 14] [1, 2, 3, 4, 7, 50, 51, 52]] (by kernel_rfl) (P2 ((decide (t2 < t1)) = true) (decide_eq_true h1)<|P1 h2<|P1 (int_lt_of_at h2 hx3)<|P1 (at_map gi_Goal hx3)<|P1 (apL l31 [x3.At])<|P1 (apB h4)<|P1 (apM I l31 [x3.At])<|P0) hn)
  (fun h1 H =>
  eBind H fun r2 hr2 H =>
  eN H fun r hn => gO [rg [hF 0], rg [hC 2 false [] (Rs_snHexes r2) []], .canon [0, 1, 2, 3, 15, 5, 6, 7, 8, 9, 10, 11, 12, 13, 14] [1, 2, 3, 4, 64, 65, 66]] (by kernel_rfl) (P2 ((decide (t2 < t1)) = false) (decide_eq_false h1)<|P2 (nfL (List.flatMap D.cells (Rs_snHexes r2))) ⟨nfL_map nf_3 _, trivial⟩<|P2 (nfG []) trivial<|P1 (cs_snHexes hr2)<|P0) hn)
 | .h3 t0 t1 b2 b3 b4 b5 b6 b7 b8 b9 b10 b11 b12 b13 b14 b15 b16 b17 b18 b19 b20 b21 b22 b23 b24 b25 b26 b27 b28 b29 l30 l31 l32 l33 l34 l35 l36 l37 l38 l39 l40, o, H =>
  eIf H (fun h1 H =>
  eCk H fun h2 H =>
  eBind H fun x3 hx3 H =>
  eN H fun r hn => gO [rg [hT 0], rg [hE 1 (I x3)], r0, .canon [0, 1, 2, 3, 4, 5, 6, 7, 8, 9, 10, 11, 12, 13, 14] [1, 2, 3, 4, 11, 64, 65, 66, 72, 73, 74]] (by kernel_rfl) (P2 ((decide (t1 < t0)) = true) (decide_eq_true h1)<|P1 h2<|P1 (int_lt_of_at h2 hx3)<|P1 (at_map I hx3)<|P0) hn)
  (fun h1 H =>
  eBind H fun r2 hr2 H =>
  eBind H fun r3 hr3 H =>
  eN H<|gE func32 [rg [hF 0], rg [hC 3 true [] (Rs_snHexes r2) []], rg [hC 3 true [] (Rs_snHexes r3) []], r0] (by kernel_rfl) (P2 ((decide (t1 < t0)) = false) (decide_eq_false h1)<|P1 (cs_snHexes hr2)<|P1 (cs_snHexes hr3)<|P0))
 | .h4 i0 t1 t2 t3 t4 t5 b6 b7 b8 b9 b10 b11 b12 b13 b14 b15 b16 b17 b18 b19 b20 b21 b22 b23 b24 b25 b26 b27 b28 b29 b30 b31 b32 b33 l34 l35 l36 l37 l38 l39 l40 l41 l42 l43 l44, o, H =>
  eIf H (fun h1 H =>
  eCk H fun h2 H =>
  eBind H fun x3 hx3 H =>
  eBind H fun r4 hr4 H =>
  gN [rg [hT 0], rg [hE 1 (gi_Goal x3)]] (by kernel_rfl) (P2 ((decide (t5 < t4)) = true) (decide_eq_true h1)<|P1 h2<|P1 (int_lt_of_at h2 hx3)<|P1 (at_map gi_Goal hx3)<|P0) <|
  eIf H (fun h5 H =>
  eCk H fun h6 H =>
  eN H fun r hn => gO [rg [hC 3 true [] (RI r4) [], hT 5], rg [hA 8 ([(Gi_Goal.mk i0 x3.Points)].length) (List.map gi_Goal [(Gi_Goal.mk i0 x3.Points)])], r0, .canon [0, 1, 2, 3, 4, 5, 6, 7, 8, 9, 10, 11, 12, 17, 13, 14] [1, 2, 3, 4, 11, 64, 65, 66, 72, 73, 74]] (by kernel_rfl) (P1 (cs_mMirrorIndex hr4)<|P2 (((r4 : Int) == i0) = true) (beqT h5)<|P2 ([(Gi_Goal.mk i0 x3.Points)].length = 0 + [(Gi_Goal.mk i0 x3.Points)].length) (by simp <;> omega)<|P2 ((0 + [(Gi_Goal.mk i0 x3.Points)].length) * 16 ≤ 70368744177664) (by have := h6; simp at this ⊢ <;> omega)<|P2 (([] : List D) ++ List.map gi_Goal [(Gi_Goal.mk i0 x3.Points)] = List.map gi_Goal [(Gi_Goal.mk i0 x3.Points)]) (by simp)<|P0) hn)
  (fun h5 H =>
  eN H fun r hn => gO [rg [hC 3 true [] (RI r4) [], hF 5], r0, .canon [0, 1, 2, 3, 4, 5, 6, 7, 8, 9, 10, 11, 12, 13, 14] [1, 2, 3, 4, 11, 64, 65, 66, 72, 73, 74]] (by kernel_rfl) (P1 (cs_mMirrorIndex hr4)<|P2 (((r4 : Int) == i0) = false) (beqF h5)<|P0) hn))
  (fun h1 H =>
  eN H fun r hn => gO [rg [hF 0], r0, .canon [0, 1, 2, 3, 4, 5, 6, 7, 8, 9, 10, 11, 12, 13, 14] [1, 2, 3, 4, 64, 65, 66]] (by kernel_rfl) (P2 ((decide (t5 < t4)) = false) (decide_eq_false h1)<|P0) hn)
 | .h5 i0 t1 t2 t3 t4 t5 b6 b7 b8 b9 b10 b11 b12 b13 b14 b15 b16 b17 b18 b19 b20 b21 b22 b23 b24 b25 b26 b27 b28 b29 b30 b31 b32 b33 l34 l35 l36 l37 l38 l39 l40 l41 l42 l43 l44 l45, o, H =>
  eIf H (fun h1 H =>
  eCk H fun h2 H =>
  eBind H fun x3 hx3 H =>
  eBind H fun r4 hr4 H =>
  gN [rg [hT 0], rg [hE 1 (gi_Goal x3)]] (by kernel_rfl) (P2 ((decide (t5 < t4)) = true) (decide_eq_true h1)<|P1 h2<|P1 (int_lt_of_at h2 hx3)<|P1 (at_map gi_Goal hx3)<|P0) <|
  eIf H (fun h5 H =>
  eCk H fun h6 H =>
  eN H fun r hn => gO [rg [hC 3 true [] (RI r4) [], hT 5], rg [hA 8 ((l43 ++ [(Gi_Goal.mk i0 x3.Points)]).length) (List.map gi_Goal (l43 ++ [(Gi_Goal.mk i0 x3.Points)]))], r0, .canon [0, 1, 2, 3, 4, 5, 6, 7, 8, 9, 10, 11, 12, 18, 14, 15] [1, 2, 3, 4, 11, 64, 65, 66, 72, 73, 74]] (by kernel_rfl) (P1 (cs_mMirrorIndex hr4)<|P2 (((r4 : Int) == i0) = true) (beqT h5)<|P1 (apL l43 [(Gi_Goal.mk i0 x3.Points)])<|P1 (apB h6)<|P1 (apM gi_Goal l43 [(Gi_Goal.mk i0 x3.Points)])<|P0) hn)
  (fun h5 H =>
  eN H fun r hn => gO [rg [hC 3 true [] (RI r4) [], hF 5], r0, .canon [0, 1, 2, 3, 4, 5, 6, 7, 8, 9, 10, 11, 12, 13, 14, 15] [1, 2, 3, 4, 11, 64, 65, 66, 72, 73, 74]] (by kernel_rfl) (P1 (cs_mMirrorIndex hr4)<|P2 (((r4 : Int) == i0) = false) (beqF h5)<|P0) hn))
  (fun h1 H =>
  eN H fun r hn => gO [rg [hF 0], r0, .canon [0, 1, 2, 3, 4, 5, 6, 7, 8, 9, 10, 11, 12, 13, 14, 15] [1, 2, 3, 4, 64, 65, 66]] (by kernel_rfl) (P2 ((decide (t5 < t4)) = false) (decide_eq_false h1)<|P0) hn)
 | .h6 t0 t1 b2 b3 b4 b5 b6 b7 b8 b9 b10 b11 b12 b13 b14 b15 b16 b17 b18 b19 b20 b21 b22 b23 b24 b25 b26 b27 b28 b29 l30 l31 l32 l33 l34 l35 l36 l37 l38 l39 l40 l41, o, H =>
  eIf H (fun h1 H =>
  eCk H fun h2 H =>
  eBind H fun x3 hx3 H =>
  eN H fun r hn => gO [rg [hT 0], rg [hE 1 (I x3)], r0, .canon [0, 1, 2, 3, 4, 5, 6, 7, 8, 9, 10, 11, 12, 13, 14, 15] [1, 2, 3, 4, 11, 64, 65, 66, 72, 73, 74]] (by kernel_rfl) (P2 ((decide (t1 < t0)) = true) (decide_eq_true h1)<|P1 h2<|P1 (int_lt_of_at h2 hx3)<|P1 (at_map I hx3)<|P0) hn)
  (fun h1 H =>
  eBind H fun r2 hr2 H =>
  eBind H fun r3 hr3 H =>
  eN H<|gE func32 [rg [hF 0], rg [hC 3 true [] (Rs_snHexes r2) []], rg [hC 3 true [] (Rs_snHexes r3) []], r0] (by kernel_rfl) (P2 ((decide (t1 < t0)) = false) (decide_eq_false h1)<|P1 (cs_snHexes hr2)<|P1 (cs_snHexes hr3)<|P0))
theorem ws_snMirror : ∀ s r, loop Bs_snMirror s = some r → Wc X 32 0 (Ks_snMirror s) (Zs_snMirror s) (Rs_snMirror r) ((fun _ => []) r) := Nx.all (ns_snMirror)
theorem cs_snMirror {a0 : Gi_Scenario} {r : Gi_Scenario} (H : Ds_snMirror a0 = some r) : Ct X.P X.gl 32 [gi_Scenario a0] [] (Rs_snMirror r) [] :=
 Ct.of func32 (c := bdy f32) (by kernel_rfl) (by kernel_rfl) <|
 eBind H fun r1 hr1 H =>
 eBind H fun r2 hr2 H =>
 gO [r0, r0, rg [hC 1 true [] (Rs_snOwn r1) []], rg [hC 1 true [] (Rs_mMirror r2) []], r0, .canon [0, 1, 2, 27, 21, 4, 5, 30, 31, 32, 16, 18, 22, 25, 26] [1, 2, 3, 4, 25, 26, 27]] (by kernel_rfl) (P1 (cs_snOwn hr1)<|P1 (cs_mMirror hr2)<|P0) (ws_snMirror _ _ H)
def Rs_snSwap (r : Gi_Scenario) : List D := [.agg [.str r.Name, ow 5 goi_Terrain r.Board.Rules.Terrains, ow 6 gi_Kind r.Board.Rules.Kinds, I r.Board.Rules.Stack, I r.Board.Rules.River, I r.Board.Rules.Road, I r.Board.Rules.Supply, I r.Board.Rules.Turns, I r.Board.Map.Width, I r.Board.Map.Height, ow 1 I r.Board.Map.Terrain, ow 1 I r.Board.Map.Rivers, ow 1 I r.Board.Map.Roads, ow 2 gi_Odds r.Table.Columns, I r.Table.Dice, ow 1 (ow 1 I) r.Table.Results, I r.Start.Turn, I r.Start.Weather, ow 4 gi_Unit r.Start.Units, ow 2 gi_Goal r.Conditions.Goals, I r.Conditions.Step, I r.Conditions.Margin, ow 1 I r.First, ow 1 I r.Other]]
noncomputable def Ks_snSwap : Ss_snSwap → List Item
 | .h1 .. => nav 300 3 [] [.code (bdy f31)]
def Zs_snSwap : Ss_snSwap → St
 | .h1 t0 t1 b2 b3 b4 b5 b6 b7 b8 b9 b10 b11 b12 b13 b14 b15 b16 b17 b18 b19 b20 b21 b22 b23 b24 b25 b26 b27 b28 l29 l30 l31 l32 l33 l34 l35 l36 l37 l38 l39 => ⟨sts 38 [(1, .ptr 0 24 0 0), (2, .ptr 1 24 0 0), (3, .ptr 2 24 0 0), (10, I t0), (11, I t1)], [some ⟨false, true, 24, 1, [gi_Scenario b2]⟩, some ⟨false, true, 24, 1, [.agg [.str b3, .nil, .nil, I b4, I b5, I b6, I b7, I b8, I b9, I b10, .nil, .nil, .nil, .nil, I b11, .nil, I b12, I b13, .nil, .nil, I b14, I b15, .nil, .nil]]⟩, some ⟨false, true, 24, 1, [.agg [.str b16, .ref 3 5 none, .ref 4 6 none, I b17, I b18, I b19, I b20, I b21, I b22, I b23, .ref 5 1 none, .ref 6 1 none, .ref 7 1 none, .ref 8 2 none, I b24, .ref 9 1 none, I b25, I b26, .ref 10 4 none, .ref 11 2 none, I b27, I b28, .ref 12 1 none, .ref 13 1 none]]⟩, some ⟨false, false, 5, l29.length, List.map goi_Terrain l29⟩, some ⟨false, false, 6, l30.length, List.map gi_Kind l30⟩, some ⟨false, false, 1, l31.length, List.map I l31⟩, some ⟨false, false, 1, l32.length, List.map I l32⟩, some ⟨false, false, 1, l33.length, List.map I l33⟩, some ⟨false, false, 2, l34.length, List.map gi_Odds l34⟩, some ⟨false, false, 1, l35.length, List.map (ow 1 I) l35⟩, some ⟨false, false, 4, l36.length, List.map gi_Unit l36⟩, some ⟨false, false, 2, l37.length, List.map gi_Goal l37⟩, some ⟨false, false, 1, l38.length, List.map I l38⟩, some ⟨false, false, 1, l39.length, List.map I l39⟩]⟩
abbrev Qs_snSwap := Nx X 31 0 Ks_snSwap Zs_snSwap Rs_snSwap (fun _ => [])
theorem ns_snSwap : ∀ s o, Bs_snSwap s = some o → Qs_snSwap (Ks_snSwap s) (Zs_snSwap s) o
 | .h1 t0 t1 b2 b3 b4 b5 b6 b7 b8 b9 b10 b11 b12 b13 b14 b15 b16 b17 b18 b19 b20 b21 b22 b23 b24 b25 b26 b27 b28 l29 l30 l31 l32 l33 l34 l35 l36 l37 l38 l39, o, H =>
  eIf H (fun h1 H =>
  eCk H fun h2 H =>
  eBind H fun x3 hx3 H =>
  eCk H fun h4 H =>
  eBind H fun x5 hx5 H =>
  eN H fun r hn => gO [rg [hT 0], r0, rg [hE 10 (gi_Unit x3), hA 14 ((List.set l36 (Int.toNat t1) (Gi_Unit.mk (IntKind.wrap .i64 (1 - x3.Side)) x5.Kind x5.At x5.Steps)).length) (List.map gi_Unit (List.set l36 (Int.toNat t1) (Gi_Unit.mk (IntKind.wrap .i64 (1 - x3.Side)) x5.Kind x5.At x5.Steps)))], r0, .canon [0, 1, 2, 3, 4, 5, 6, 7, 8, 9, 10, 11, 12, 13] [1, 2, 3, 10, 11]] (by kernel_rfl) (P2 ((decide (t1 < t0)) = true) (decide_eq_true h1)<|P1 h2<|P1 (int_lt_of_at h2 hx3)<|P1 (at_map gi_Unit hx3)<|P1 h4<|P1 (int_lt_of_at h4 hx5)<|P1 (lt_of_at hx5)<|P2 (setCells (List.map gi_Unit l36) (Int.toNat t1) 0 [I (IntKind.wrap .i64 (1 - x3.Side))] = List.map gi_Unit (List.set l36 (Int.toNat t1) (Gi_Unit.mk (IntKind.wrap .i64 (1 - x3.Side)) x5.Kind x5.At x5.Steps))) (setCells_map hx5 rfl)<|P1 (setLen l36 (Int.toNat t1) (Gi_Unit.mk (IntKind.wrap .i64 (1 - x3.Side)) x5.Kind x5.At x5.Steps))<|P0) hn)
  (fun h1 H =>
  eBind H fun r2 hr2 H =>
  eBind H fun r3 hr3 H =>
  eN H<|gE func31 [rg [hF 0], rg [hC 2 true [] (Rs_l1Own r2) []], rg [hC 2 true [] (Rs_l1Own r3) []], r0] (by kernel_rfl) (P2 ((decide (t1 < t0)) = false) (decide_eq_false h1)<|P1 (cs_l1Own hr2)<|P1 (cs_l1Own hr3)<|P0))
theorem ws_snSwap : ∀ s r, loop Bs_snSwap s = some r → Wc X 31 0 (Ks_snSwap s) (Zs_snSwap s) (Rs_snSwap r) ((fun _ => []) r) := Nx.all (ns_snSwap)
theorem cs_snSwap {a0 : Gi_Scenario} {r : Gi_Scenario} (H : Ds_snSwap a0 = some r) : Ct X.P X.gl 31 [gi_Scenario a0] [] (Rs_snSwap r) [] :=
 Ct.of func31 (c := bdy f31) (by kernel_rfl) (by kernel_rfl) <|
 eBind H fun r1 hr1 H =>
 gO [r0, rg [hC 1 true [] (Rs_snOwn r1) []], r0, .canon [0, 1, 26, 3, 4, 12, 13, 14, 15, 17, 20, 21, 24, 25] [1, 2, 3, 10, 11]] (by kernel_rfl) (P1 (cs_snOwn hr1)<|P0) (ws_snSwap _ _ H)
noncomputable def Ks_snCount : Ss_snCount → List Item
 | .h1 .. => nav 300 3 [] [.code (bdy f33)]
def Zs_snCount : Ss_snCount → St
 | .h1 n0 t1 t2 t3 b4 => ⟨sts 21 [(3, .ptr 0 4 0 0), (5, I n0), (8, sl 4 gi_Unit t1), (9, I t2), (10, I t3)], [some ⟨false, true, 4, 1, [gi_Unit b4]⟩]⟩
abbrev Qs_snCount := Nx X 33 0 Ks_snCount Zs_snCount RI (fun _ => [])
theorem ns_snCount : ∀ s o, Bs_snCount s = some o → Qs_snCount (Ks_snCount s) (Zs_snCount s) o
 | .h1 n0 t1 t2 t3 b4, o, H =>
  eIf H (fun h1 H =>
  eCk H fun h2 H =>
  eBind H fun x3 hx3 H =>
  gN [rg [hT 0], rg [hE 1 (gi_Unit x3)]] (by kernel_rfl) (P2 ((decide (t3 < t2)) = true) (decide_eq_true h1)<|P1 h2<|P1 (int_lt_of_at h2 hx3)<|P1 (at_map gi_Unit hx3)<|P0) <|
  eIf H (fun h4 H =>
  eN H fun r hn => gO [rg [hT 2], r0, r0, .canon [0] [3, 5, 8, 9, 10]] (by kernel_rfl) (P2 (((x3.Side == b4.Side) && ((x3.Kind == b4.Kind) && ((x3.At == b4.At) && (x3.Steps == b4.Steps)))) = true) (h4)<|P0) hn)
  (fun h4 H =>
  eN H fun r hn => gO [rg [hF 2], r0, .canon [0] [3, 5, 8, 9, 10]] (by kernel_rfl) (P2 (((x3.Side == b4.Side) && ((x3.Kind == b4.Kind) && ((x3.At == b4.At) && (x3.Steps == b4.Steps)))) = false) (eqF h4)<|P0) hn))
  (fun h1 H =>
  eN H<|gE func33 [rg [hF 0], r0] (by kernel_rfl) (P2 ((decide (t3 < t2)) = false) (decide_eq_false h1)<|P0))
theorem ws_snCount : ∀ s r, loop Bs_snCount s = some r → Wc X 33 0 (Ks_snCount s) (Zs_snCount s) (RI r) ((fun _ => []) r) := Nx.all (ns_snCount)
theorem cs_snCount {a0 : (List Gi_Unit)} {a1 : Gi_Unit} {r : Int} (H : Ds_snCount a0 a1 = some r) : Ct X.P X.gl 33 [sl 4 gi_Unit a0, gi_Unit a1] [] (RI r) [] :=
 Ct.of func33 (c := bdy f33) (by kernel_rfl) (by kernel_rfl) <|
 gO [r0, r0, r0, .canon [0] [3, 5, 8, 9, 10]] (by kernel_rfl) P0 (ws_snCount _ _ H)
def Rs_l1Num (r : ByteArray) : List D := [.str r]
theorem ks_l1Num {rec_ : Int → Option (ByteArray)} (ih : ∀ (a0 : Int) (r : ByteArray), rec_ a0 = some r → Ct X.P X.gl 54 [I a0] [] (Rs_l1Num r) []) {a0 : Int} {r : ByteArray} (H : Fs_l1Num rec_ a0 = some r) : Ct X.P X.gl 54 [I a0] [] (Rs_l1Num r) [] :=
 Ct.of func54 (c := bdy f54) (by kernel_rfl) (by kernel_rfl) <|
 gS [r0] (by kernel_rfl) P0 <|
 eIf H (fun h1 H =>
 eCk H fun h2 H =>
 eW Rs_l1Num (fun _ => []) H<|gE func54 [rg [hT 1], rg [{ i := 4, s := (bytesOf [(IntKind.wrap .u8 (IntKind.wrap .i64 (48 + a0)))]) }]] (by kernel_rfl) (P2 ((decide (a0 < 10)) = true) (decide_eq_true h1)<|P1 (bytesD_of h2)<|P0))
 (fun h1 H =>
 eBind H fun r2 hr2 H =>
 eCk H fun h3 H =>
 eCk H fun h4 H =>
 eW Rs_l1Num (fun _ => []) H<|gE func54 [rg [hF 1], rg [hC 2 true [] (Rs_l1Num r2) [], { i := 8, s := (bytesOf [(IntKind.wrap .u8 (IntKind.wrap .i64 (48 + (Int.tmod a0 10))))]) }]] (by kernel_rfl) (P2 ((decide (a0 < 10)) = false) (decide_eq_false h1)<|P2 (¬ (10 : Int) = 0) (by decide)<|P1 (ih _ _ hr2)<|P2 (¬ (10 : Int) = 0) (by decide)<|P1 (bytesD_of h3)<|P1 h4<|P0))
theorem crs_l1Num : ∀ (n_ : Nat) (a0 : Int) (r : ByteArray), Ds_l1Num n_ a0 = some r → Ct X.P X.gl 54 [I a0] [] (Rs_l1Num r) []
 | 0, a0, r, H => nomatch (show (none : Option (ByteArray)) = some r from H)
 | n_ + 1, a0, r, H => ks_l1Num (crs_l1Num n_) H
theorem cs_l1Num {n_ : Nat} {a0 : Int} {r : ByteArray} (H : Ds_l1Num n_ a0 = some r) : Ct X.P X.gl 54 [I a0] [] (Rs_l1Num r) [] := crs_l1Num n_ a0 r H
def Rs_mList (r : ByteArray) : List D := [.str r]
noncomputable def Ks_mList : Ss_mList → List Item
 | .h1 .. => nav 300 2 [] [.code (bdy f55)]
def Zs_mList : Ss_mList → St
 | .h1 word0 t1 t2 t3 => ⟨sts 21 [(0, .str word0), (7, sl 1 I t1), (8, I t2), (9, I t3)], []⟩
abbrev Qs_mList := Nx X 55 0 Ks_mList Zs_mList Rs_mList (fun _ => [])
theorem ns_mList : ∀ s o, Bs_mList s = some o → Qs_mList (Ks_mList s) (Zs_mList s) o
 | .h1 word0 t1 t2 t3, o, H =>
  eIf H (fun h1 H =>
  eCk H fun h2 H =>
  eBind H fun x3 hx3 H =>
  eBind H fun r4 hr4 H =>
  eCk H fun h5 H =>
  eCk H fun h6 H =>
  eN H fun r hn => gO [rg [hT 0], rg [hE 1 (I x3)], rg [hC 2 true [] (Rs_l1Num r4) []], r0, .canon [] [0, 7, 8, 9]] (by kernel_rfl) (P2 ((decide (t3 < t2)) = true) (decide_eq_true h1)<|P1 h2<|P1 (int_lt_of_at h2 hx3)<|P1 (at_map I hx3)<|P1 (cs_l1Num hr4)<|P1 h5<|P1 h6<|P0) hn)
  (fun h1 H =>
  eCk H fun h2 H =>
  eN H<|gE func55 [rg [hF 0], r0] (by kernel_rfl) (P2 ((decide (t3 < t2)) = false) (decide_eq_false h1)<|P1 h2<|P0))
theorem ws_mList : ∀ s r, loop Bs_mList s = some r → Wc X 55 0 (Ks_mList s) (Zs_mList s) (Rs_mList r) ((fun _ => []) r) := Nx.all (ns_mList)
theorem cs_mList {a0 : ByteArray} {a1 : (List Int)} {r : ByteArray} (H : Ds_mList a0 a1 = some r) : Ct X.P X.gl 55 [.str a0, sl 1 I a1] [] (Rs_mList r) [] :=
 Ct.of func55 (c := bdy f55) (by kernel_rfl) (by kernel_rfl) <|
 gO [r0, r0, .canon [] [0, 7, 8, 9]] (by kernel_rfl) P0 (ws_mList _ _ H)
def Rs_mText (r : ByteArray) : List D := [.str r]
noncomputable def Ks_mText : Ss_mText → List Item
 | .h1 .. => nav 300 3 [] [.code (bdy f34)]
def Zs_mText : Ss_mText → St
 | .h1 s0 t1 t2 t3 b4 => ⟨sts 48 [(1, .ptr 0 5 0 0), (3, .str s0), (17, sl 1 I t1), (18, I t2), (19, I t3)], [some ⟨false, true, 5, 1, [gi_Map b4]⟩]⟩
abbrev Qs_mText := Nx X 34 0 Ks_mText Zs_mText Rs_mText (fun _ => [])
theorem ns_mText : ∀ s o, Bs_mText s = some o → Qs_mText (Ks_mText s) (Zs_mText s) o
 | .h1 s0 t1 t2 t3 b4, o, H =>
  eIf H (fun h1 H =>
  eCk H fun h2 H =>
  eBind H fun x3 hx3 H =>
  eBind H fun r4 hr4 H =>
  eCk H fun h5 H =>
  eCk H fun h6 H =>
  gN [rg [hT 0], rg [hE 2 (I x3)], rg [hC 2 true [] (Rs_l1Num r4) []]] (by kernel_rfl) (P2 ((decide (t3 < t2)) = true) (decide_eq_true h1)<|P1 h2<|P1 (int_lt_of_at h2 hx3)<|P1 (at_map I hx3)<|P1 (cs_l1Num hr4)<|P1 h5<|P0) <|
  eIf H (fun h7 H =>
  eCk H fun h8 H =>
  eN H fun r hn => gO [rg [hT 7], r0, r0, .canon [0] [1, 3, 17, 18, 19]] (by kernel_rfl) (P2 (¬ (b4.Width : Int) = 0) h6<|P2 ((((Int.tmod t3 b4.Width) : Int) == (IntKind.wrap .i64 (b4.Width - 1))) = true) (beqT h7)<|P1 h8<|P0) hn)
  (fun h7 H =>
  eN H fun r hn => gO [rg [hF 7], r0, .canon [0] [1, 3, 17, 18, 19]] (by kernel_rfl) (P2 (¬ (b4.Width : Int) = 0) h6<|P2 ((((Int.tmod t3 b4.Width) : Int) == (IntKind.wrap .i64 (b4.Width - 1))) = false) (beqF h7)<|P0) hn))
  (fun h1 H =>
  eBind H fun r2 hr2 H =>
  eCk H fun h3 H =>
  eBind H fun r4 hr4 H =>
  eCk H fun h5 H =>
  eN H<|gE func34 [rg [hF 0], rg [hC 3 true [] (Rs_mList r2) [], hC 7 true [] (Rs_mList r4) []]] (by kernel_rfl) (P2 ((decide (t3 < t2)) = false) (decide_eq_false h1)<|P1 (cs_mList hr2)<|P1 h3<|P1 (cs_mList hr4)<|P1 h5<|P0))
theorem ws_mText : ∀ s r, loop Bs_mText s = some r → Wc X 34 0 (Ks_mText s) (Zs_mText s) (Rs_mText r) ((fun _ => []) r) := Nx.all (ns_mText)
theorem cs_mText {a0 : Gi_Map} {r : ByteArray} (H : Ds_mText a0 = some r) : Ct X.P X.gl 34 [gi_Map a0] [] (Rs_mText r) [] :=
 Ct.of func34 (c := bdy f34) (by kernel_rfl) (by kernel_rfl) <|
 eBind H fun r1 hr1 H =>
 eCk H fun h2 H =>
 eCk H fun h3 H =>
 eBind H fun r4 hr4 H =>
 eCk H fun h5 H =>
 eCk H fun h6 H =>
 gO [r0, rg [hC 2 true [] (Rs_l1Num r1) [], hC 7 true [] (Rs_l1Num r4) []], r0, .canon [0] [1, 3, 17, 18, 19]] (by kernel_rfl) (P1 (cs_l1Num hr1)<|P1 h2<|P1 h3<|P1 (cs_l1Num hr4)<|P1 h5<|P1 h6<|P0) (ws_mText _ _ H)
noncomputable def Ks_snGoals : Ss_snGoals → List Item
 | .h1 .. => nav 300 3 [false] [.code (bdy f35)]
def Zs_snGoals : Ss_snGoals → St
 | .h1 b0 t1 t2 t3 => ⟨sts 26 [(1, sl 2 gi_Goal b0), (12, sl 2 gi_Goal t1), (13, I t2), (14, I t3)], []⟩
abbrev Qs_snGoals := Nx X 35 0 Ks_snGoals Zs_snGoals RB (fun _ => [])
theorem ns_snGoals : ∀ s o, Bs_snGoals s = some o → Qs_snGoals (Ks_snGoals s) (Zs_snGoals s) o
 | .h1 b0 t1 t2 t3, o, H =>
  eIf H (fun h1 H =>
  eCk H fun h2 H =>
  eBind H fun x3 hx3 H =>
  eCk H fun h4 H =>
  eBind H fun x5 hx5 H =>
  gN [rg [hT 0], rg [hE 2 (gi_Goal x3)]] (by kernel_rfl) (P2 ((decide (t3 < t2)) = true) (decide_eq_true h1)<|P1 h2<|P1 (int_lt_of_at h2 hx3)<|P1 (at_map gi_Goal hx3)<|P0) <|
  eIf H (fun h6 H =>
  eN H<|gE func35 [rg [hE 4 (gi_Goal x5), hT 5], r0] (by kernel_rfl) (P1 h4<|P1 (int_lt_of_at h4 hx5)<|P1 (at_map gi_Goal hx5)<|P2 ((!((x3.At == x5.At) && (x3.Points == x5.Points))) = true) (h6)<|P0))
  (fun h6 H =>
  eN H fun r hn => gO [rg [hE 4 (gi_Goal x5), hF 5], r0, .canon [] [1, 12, 13, 14]] (by kernel_rfl) (P1 h4<|P1 (int_lt_of_at h4 hx5)<|P1 (at_map gi_Goal hx5)<|P2 ((!((x3.At == x5.At) && (x3.Points == x5.Points))) = false) (eqF h6)<|P0) hn))
  (fun h1 H =>
  eN H<|gE func35 [rg [hF 0], r0] (by kernel_rfl) (P2 ((decide (t3 < t2)) = false) (decide_eq_false h1)<|P0))
theorem ws_snGoals : ∀ s r, loop Bs_snGoals s = some r → Wc X 35 0 (Ks_snGoals s) (Zs_snGoals s) (RB r) ((fun _ => []) r) := Nx.all (ns_snGoals)
theorem cs_snGoals {a0 : (List Gi_Goal)} {a1 : (List Gi_Goal)} {r : Bool} (H : Ds_snGoals a0 a1 = some r) : Ct X.P X.gl 35 [sl 2 gi_Goal a0, sl 2 gi_Goal a1] [] (RB r) [] :=
 Ct.of func35 (c := bdy f35) (by kernel_rfl) (by kernel_rfl) <|
 gS [r0] (by kernel_rfl) P0 <|
 eIf H (fun h1 H =>
 gO [rg [hF 4], r0, .canon [] [1, 12, 13, 14]] (by kernel_rfl) (P2 (((((a0.length : Nat) : Int) : Int) != ((a1.length : Nat) : Int)) = false) (bneF h1)<|P0) (ws_snGoals _ _ H))
 (fun h1 H =>
 eW RB (fun _ => []) H<|gE func35 [rg [hT 4], r0] (by kernel_rfl) (P2 (((((a0.length : Nat) : Int) : Int) != ((a1.length : Nat) : Int)) = true) (bneT h1)<|P0))
noncomputable def Ks_l1Same : Ss_l1Same → List Item
 | .h1 .. => nav 300 3 [false] [.code (bdy f36)]
def Zs_l1Same : Ss_l1Same → St
 | .h1 va0 b1 t2 t3 => ⟨sts 26 [(0, sl 1 I va0), (1, sl 1 I b1), (12, I t2), (13, I t3)], []⟩
abbrev Qs_l1Same := Nx X 36 0 Ks_l1Same Zs_l1Same RB (fun _ => [])
theorem ns_l1Same : ∀ s o, Bs_l1Same s = some o → Qs_l1Same (Ks_l1Same s) (Zs_l1Same s) o
 | .h1 va0 b1 t2 t3, o, H =>
  eIf H (fun h1 H =>
  eCk H fun h2 H =>
  eBind H fun x3 hx3 H =>
  eCk H fun h4 H =>
  eBind H fun x5 hx5 H =>
  gN [rg [hT 0], r0] (by kernel_rfl) (P2 ((decide (t3 < t2)) = true) (decide_eq_true h1)<|P0) <|
  eIf H (fun h6 H =>
  eN H fun r hn => gO [rg [hE 3 (I x3), hE 7 (I x5), hF 8], r0, .canon [] [0, 1, 12, 13]] (by kernel_rfl) (P1 h2<|P1 (int_lt_of_at h2 hx3)<|P1 (at_map I hx3)<|P1 h4<|P1 (int_lt_of_at h4 hx5)<|P1 (at_map I hx5)<|P2 (((x3 : Int) != x5) = false) (bneF h6)<|P0) hn)
  (fun h6 H =>
  eN H<|gE func36 [rg [hE 3 (I x3), hE 7 (I x5), hT 8], r0] (by kernel_rfl) (P1 h2<|P1 (int_lt_of_at h2 hx3)<|P1 (at_map I hx3)<|P1 h4<|P1 (int_lt_of_at h4 hx5)<|P1 (at_map I hx5)<|P2 (((x3 : Int) != x5) = true) (bneT h6)<|P0)))
  (fun h1 H =>
  eN H<|gE func36 [rg [hF 0], r0] (by kernel_rfl) (P2 ((decide (t3 < t2)) = false) (decide_eq_false h1)<|P0))
theorem ws_l1Same : ∀ s r, loop Bs_l1Same s = some r → Wc X 36 0 (Ks_l1Same s) (Zs_l1Same s) (RB r) ((fun _ => []) r) := Nx.all (ns_l1Same)
theorem cs_l1Same {a0 : (List Int)} {a1 : (List Int)} {r : Bool} (H : Ds_l1Same a0 a1 = some r) : Ct X.P X.gl 36 [sl 1 I a0, sl 1 I a1] [] (RB r) [] :=
 Ct.of func36 (c := bdy f36) (by kernel_rfl) (by kernel_rfl) <|
 gS [r0] (by kernel_rfl) P0 <|
 eIf H (fun h1 H =>
 gO [rg [hF 4], r0, .canon [] [0, 1, 12, 13]] (by kernel_rfl) (P2 (((((a0.length : Nat) : Int) : Int) != ((a1.length : Nat) : Int)) = false) (bneF h1)<|P0) (ws_l1Same _ _ H))
 (fun h1 H =>
 eW RB (fun _ => []) H<|gE func36 [rg [hT 4], r0] (by kernel_rfl) (P2 (((((a0.length : Nat) : Int) : Int) != ((a1.length : Nat) : Int)) = true) (bneT h1)<|P0))
def Rs_IsFair (r : Bool × Bool) : List D := [.bool r.1, .bool r.2]
noncomputable def Ks_IsFair : Ss_IsFair → List Item
 | .h1 .. => nav 300 4 [false] [.code (bdy f10)]
def Zs_IsFair : Ss_IsFair → St
 | .h1 t0 t1 t2 b3 b4 b5 b6 b7 b8 b9 b10 b11 b12 b13 b14 b15 b16 l17 l18 l19 l20 l21 l22 l23 l24 l25 l26 l27 => ⟨sts 65 [(1, .ptr 0 24 0 0), (4, .ptr 1 24 0 0), (15, sl 4 gi_Unit t0), (16, I t1), (17, I t2)], [some ⟨false, true, 24, 1, [gi_Scenario b3]⟩, some ⟨false, true, 24, 1, [.agg [.str b4, .ref 2 5 none, .ref 3 6 none, I b5, I b6, I b7, I b8, I b9, I b10, I b11, .ref 4 1 none, .ref 5 1 none, .ref 6 1 none, .ref 7 2 none, I b12, .ref 8 1 none, I b13, I b14, .ref 9 4 none, .ref 10 2 none, I b15, I b16, .ref 11 1 none, .ref 12 1 none]]⟩, some ⟨false, false, 5, l17.length, List.map goi_Terrain l17⟩, some ⟨false, false, 6, l18.length, List.map gi_Kind l18⟩, some ⟨false, false, 1, l19.length, List.map I l19⟩, some ⟨false, false, 1, l20.length, List.map I l20⟩, some ⟨false, false, 1, l21.length, List.map I l21⟩, some ⟨false, false, 2, l22.length, List.map gi_Odds l22⟩, some ⟨false, false, 1, l23.length, List.map (ow 1 I) l23⟩, some ⟨false, false, 4, l24.length, List.map gi_Unit l24⟩, some ⟨false, false, 2, l25.length, List.map gi_Goal l25⟩, some ⟨false, false, 1, l26.length, List.map I l26⟩, some ⟨false, false, 1, l27.length, List.map I l27⟩]⟩
abbrev Qs_IsFair := Nx X 10 0 Ks_IsFair Zs_IsFair Rs_IsFair (fun _ => [])
theorem ns_IsFair : ∀ s o, Bs_IsFair s = some o → Qs_IsFair (Ks_IsFair s) (Zs_IsFair s) o
 | .h1 t0 t1 t2 b3 b4 b5 b6 b7 b8 b9 b10 b11 b12 b13 b14 b15 b16 l17 l18 l19 l20 l21 l22 l23 l24 l25 l26 l27, o, H =>
  eIf H (fun h1 H =>
  eCk H fun h2 H =>
  eBind H fun x3 hx3 H =>
  eBind H fun r4 hr4 H =>
  eBind H fun r5 hr5 H =>
  gN [rg [hT 0], rg [hE 1 (gi_Unit x3)]] (by kernel_rfl) (P2 ((decide (t2 < t1)) = true) (decide_eq_true h1)<|P1 h2<|P1 (int_lt_of_at h2 hx3)<|P1 (at_map gi_Unit hx3)<|P0) <|
  eIf H (fun h6 H =>
  eN H fun r hn => gO [rg [hC 4 true [] (RI r4) [], hC 9 false [] (RI r5) [], hF 10], r0, .canon [0, 1, 2, 3, 4, 5, 6, 7, 8, 9, 10, 11, 12] [1, 4, 15, 16, 17]] (by kernel_rfl) (P1 (cs_snCount hr4)<|P1 (cs_snCount hr5)<|P2 (((r4 : Int) != r5) = false) (bneF h6)<|P0) hn)
  (fun h6 H =>
  eN H<|gE func10 [rg [hC 4 true [] (RI r4) [], hC 9 false [] (RI r5) [], hT 10], r0] (by kernel_rfl) (P1 (cs_snCount hr4)<|P1 (cs_snCount hr5)<|P2 (((r4 : Int) != r5) = true) (bneT h6)<|P0)))
  (fun h1 H =>
  eBind H fun r2 hr2 H =>
  eBind H fun r3 hr3 H =>
  gN [rg [hF 0]] (by kernel_rfl) (P2 ((decide (t2 < t1)) = false) (decide_eq_false h1)<|P0) <|
  eIf H (fun h4 H =>
  eBind H fun r5 hr5 H =>
  eIf H (fun h6 H =>
  eBind H fun r7 hr7 H =>
  eIf H (fun h8 H =>
  eBind H fun r9 hr9 H =>
  eN H<|gE func10 [rg [hC 3 true [] (Rs_mText r2) [], hC 7 false [] (Rs_mText r3) [], hT 8, { i := 16, call := some { cl := false, auto := true, ins := [], res := (RB r5), G' := [] }, dec := some true }, { i := 23, call := some { cl := false, auto := true, ins := [], res := (RB r7), G' := [] }, dec := some true }, hC 30 false [] (RB r9) []]] (by kernel_rfl) (P1 (cs_mText hr2)<|P1 (cs_mText hr3)<|P2 ((r2 == r3) = true) (beqT h4)<|P1 (cs_snGoals hr5)<|P2 (r5 = true) (h6)<|P1 (cs_l1Same hr7)<|P2 (r7 = true) (h8)<|P1 (cs_l1Same hr9)<|P0))
  (fun h8 H =>
  eN H<|gE func10 [rg [hC 3 true [] (Rs_mText r2) [], hC 7 false [] (Rs_mText r3) [], hT 8, { i := 16, call := some { cl := false, auto := true, ins := [], res := (RB r5), G' := [] }, dec := some true }, { i := 23, call := some { cl := false, auto := true, ins := [], res := (RB r7), G' := [] }, dec := some false }]] (by kernel_rfl) (P1 (cs_mText hr2)<|P1 (cs_mText hr3)<|P2 ((r2 == r3) = true) (beqT h4)<|P1 (cs_snGoals hr5)<|P2 (r5 = true) (h6)<|P1 (cs_l1Same hr7)<|P2 (r7 = false) (eqF h8)<|P0)))
  (fun h6 H =>
  eN H<|gE func10 [rg [hC 3 true [] (Rs_mText r2) [], hC 7 false [] (Rs_mText r3) [], hT 8, { i := 16, call := some { cl := false, auto := true, ins := [], res := (RB r5), G' := [] }, dec := some false }]] (by kernel_rfl) (P1 (cs_mText hr2)<|P1 (cs_mText hr3)<|P2 ((r2 == r3) = true) (beqT h4)<|P1 (cs_snGoals hr5)<|P2 (r5 = false) (eqF h6)<|P0)))
  (fun h4 H =>
  eN H<|gE func10 [rg [hC 3 true [] (Rs_mText r2) [], hC 7 false [] (Rs_mText r3) [], hF 8]] (by kernel_rfl) (P1 (cs_mText hr2)<|P1 (cs_mText hr3)<|P2 ((r2 == r3) = false) (beqF h4)<|P0)))
theorem ws_IsFair : ∀ s r, loop Bs_IsFair s = some r → Wc X 10 0 (Ks_IsFair s) (Zs_IsFair s) (Rs_IsFair r) ((fun _ => []) r) := Nx.all (ns_IsFair)
theorem cs_IsFair {a0 : Gi_Scenario} {r : Bool × Bool} (H : Ds_IsFair a0 = some r) : Ct X.P X.gl 10 [gi_Scenario a0] [] (Rs_IsFair r) [] :=
 Ct.of func10 (c := bdy f10) (by kernel_rfl) (by kernel_rfl) <|
 eBind H fun r1 hr1 H =>
 gS [r0] (by kernel_rfl) P0 <|
 eIf H (fun h2 H =>
 eBind H fun r3 hr3 H =>
 eBind H fun r4 hr4 H =>
 gO [rg [{ i := 1, call := some { cl := true, auto := true, ins := [], res := (RB r1), G' := [] }, dec := some true }], rg [hC 1 true [] (Rs_snMirror r3) [], { i := 2, call := some { cl := false, ins := [], args := [gi_Scenario r3], res := Rs_snSwap r4, G' := [] } }], r0, .canon [0, 49, 26, 27, 35, 36, 37, 38, 40, 43, 44, 47, 48] [1, 4, 15, 16, 17]] (by kernel_rfl) (P1 (cs_snGood hr1)<|P2 (r1 = true) (h2)<|P1 (cs_snMirror hr3)<|PI r3.Name<|PE ero_186 r3.Board.Rules.Terrains<|PL gi_Kind r3.Board.Rules.Kinds<|PI r3.Board.Rules.Stack<|PI r3.Board.Rules.River<|PI r3.Board.Rules.Road<|PI r3.Board.Rules.Supply<|PI r3.Board.Rules.Turns<|PI r3.Board.Map.Width<|PI r3.Board.Map.Height<|PL I r3.Board.Map.Terrain<|PL I r3.Board.Map.Rivers<|PL I r3.Board.Map.Roads<|PL gi_Odds r3.Table.Columns<|PI r3.Table.Dice<|PE ero_26 r3.Table.Results<|PI r3.Start.Turn<|PI r3.Start.Weather<|PL gi_Unit r3.Start.Units<|PL gi_Goal r3.Conditions.Goals<|PI r3.Conditions.Step<|PI r3.Conditions.Margin<|PL I r3.First<|PL I r3.Other<|P2 (nfL (List.flatMap D.cells (Rs_snSwap r4))) ⟨trivial, nfL_map nfo_186 _, nfL_map nf_139 _, trivial, trivial, trivial, trivial, trivial, trivial, trivial, nfL_map nf_3 _, nfL_map nf_3 _, nfL_map nf_3 _, nfL_map nf_137 _, trivial, nfL_map nfo_26 _, trivial, trivial, nfL_map nf_88 _, nfL_map nf_93 _, trivial, trivial, nfL_map nf_3 _, nfL_map nf_3 _, trivial⟩<|P2 (nfG []) trivial<|P1 (cs_snSwap hr4)<|P0) (ws_IsFair _ _ H))
 (fun h2 H =>
 eW Rs_IsFair (fun _ => []) H<|gE func10 [rg [{ i := 1, call := some { cl := true, auto := true, ins := [], res := (RB r1), G' := [] }, dec := some false }], r0] (by kernel_rfl) (P1 (cs_snGood hr1)<|P2 (r1 = false) (eqF h2)<|P0))
theorem ci_inRange {a0 : Int} {a1 : Int} {a2 : Int} {r : Bool} (H : Di_inRange a0 a1 a2 = some r) : Ct X.P X.gl 152 [I a0, I a1, I a2] [] (RB r) [] :=
 Ct.of func152 (c := bdy f152) (by kernel_rfl) (by kernel_rfl) <|
 gS [r0] (by kernel_rfl) P0 <|
 eIf H (fun h1 H =>
 eW RB (fun _ => []) H<|gE func152 [rg [hT 2]] (by kernel_rfl) (P2 ((decide (a1 ≤ a0)) = true) (decide_eq_true h1)<|P0))
 (fun h1 H =>
 eW RB (fun _ => []) H<|gE func152 [rg [hF 2]] (by kernel_rfl) (P2 ((decide (a1 ≤ a0)) = false) (decide_eq_false h1)<|P0))
noncomputable def Ki_isName : Si_isName → List Item
 | .h1 .. => nav 300 2 [] [.code (bdy f104)]
def Zi_isName : Si_isName → St
 | .h1 s0 i1 => ⟨sts 23 [(0, .str s0), (3, I i1)], []⟩
abbrev Qi_isName := Nx X 104 0 Ki_isName Zi_isName RB (fun _ => [])
theorem ni_isName : ∀ s o, Bi_isName s = some o → Qi_isName (Ki_isName s) (Zi_isName s) o
 | .h1 s0 i1, o, H =>
  eIf H (fun h1 H =>
  eCk H fun h2 H =>
  eCk H fun h3 H =>
  gN [rg [hT 3]] (by kernel_rfl) (P2 ((decide (i1 < ((ByteArray.size s0 : Nat) : Int))) = true) (decide_eq_true h1)<|P0) <|
  eIf H (fun h4 H =>
  eN H<|gE func104 [rg [{ i := 2, n := byteAt s0 (Int.toNat i1) }, hT 3], r0] (by kernel_rfl) (P2 ((0 : Int) ≤ i1) h2<|P2 (i1 < (ByteArray.size s0 : Int)) h3<|P2 ((s0.data.toList[(Int.toNat i1)]?.map fun b => (b.toNat : Int)) = some ((byteAt s0 (Int.toNat i1) : Nat) : Int)) (byteAt_ok (by omega))<|P2 ((decide (((byteAt s0 (Int.toNat i1) : Nat) : Int) < 97)) = true) (decide_eq_true h4)<|P0))
  (fun h4 H =>
  eCk H fun h5 H =>
  eCk H fun h6 H =>
  eIf H (fun h7 H =>
  eN H<|gE func104 [rg [{ i := 2, n := byteAt s0 (Int.toNat i1) }, hF 3, { i := 7, n := byteAt s0 (Int.toNat i1) }, hT 8], r0] (by kernel_rfl) (P2 ((0 : Int) ≤ i1) h2<|P2 (i1 < (ByteArray.size s0 : Int)) h3<|P2 ((s0.data.toList[(Int.toNat i1)]?.map fun b => (b.toNat : Int)) = some ((byteAt s0 (Int.toNat i1) : Nat) : Int)) (byteAt_ok (by omega))<|P2 ((decide (((byteAt s0 (Int.toNat i1) : Nat) : Int) < 97)) = false) (decide_eq_false h4)<|P2 ((0 : Int) ≤ i1) h5<|P2 (i1 < (ByteArray.size s0 : Int)) h6<|P2 ((s0.data.toList[(Int.toNat i1)]?.map fun b => (b.toNat : Int)) = some ((byteAt s0 (Int.toNat i1) : Nat) : Int)) (byteAt_ok (by omega))<|P2 ((decide (((byteAt s0 (Int.toNat i1) : Nat) : Int) > 122)) = true) (decide_eq_true h7)<|P0))
  (fun h7 H =>
  eN H fun r hn => gO [rg [{ i := 2, n := byteAt s0 (Int.toNat i1) }, hF 3, { i := 7, n := byteAt s0 (Int.toNat i1) }, hF 8], r0, .canon [] [0, 3]] (by kernel_rfl) (P2 ((0 : Int) ≤ i1) h2<|P2 (i1 < (ByteArray.size s0 : Int)) h3<|P2 ((s0.data.toList[(Int.toNat i1)]?.map fun b => (b.toNat : Int)) = some ((byteAt s0 (Int.toNat i1) : Nat) : Int)) (byteAt_ok (by omega))<|P2 ((decide (((byteAt s0 (Int.toNat i1) : Nat) : Int) < 97)) = false) (decide_eq_false h4)<|P2 ((0 : Int) ≤ i1) h5<|P2 (i1 < (ByteArray.size s0 : Int)) h6<|P2 ((s0.data.toList[(Int.toNat i1)]?.map fun b => (b.toNat : Int)) = some ((byteAt s0 (Int.toNat i1) : Nat) : Int)) (byteAt_ok (by omega))<|P2 ((decide (((byteAt s0 (Int.toNat i1) : Nat) : Int) > 122)) = false) (decide_eq_false h7)<|P0) hn)))
  (fun h1 H =>
  eBind H fun r2 hr2 H =>
  eN H<|gE func104 [rg [hF 3], rg [hC 2 true [] (RB r2) []]] (by kernel_rfl) (P2 ((decide (i1 < ((ByteArray.size s0 : Nat) : Int))) = false) (decide_eq_false h1)<|P1 (ci_inRange hr2)<|P0))
theorem wi_isName : ∀ s r, loop Bi_isName s = some r → Wc X 104 0 (Ki_isName s) (Zi_isName s) (RB r) ((fun _ => []) r) := Nx.all (ni_isName)
theorem ci_isName {a0 : ByteArray} {r : Bool} (H : Di_isName a0 = some r) : Ct X.P X.gl 104 [.str a0] [] (RB r) [] :=
 Ct.of func104 (c := bdy f104) (by kernel_rfl) (by kernel_rfl) <|
 gO [r0, r0, .canon [] [0, 3]] (by kernel_rfl) P0 (wi_isName _ _ H)
theorem ci_goodTerrain_1 {a0 : Int} {r : Bool} (H : Di_goodTerrain_1 a0 = some r) : Ct X.P X.gl 243 [I a0] [] (RB r) [] :=
 Ct.of func243 (c := bdy f243) (by kernel_rfl) (by kernel_rfl) <|
 eBind H fun r1 hr1 H =>
 eW RB (fun _ => []) H<|gE func243 [r0, rg [hC 1 true [] (RB r1) []]] (by kernel_rfl) (P1 (ci_inRange hr1)<|P0)
noncomputable def Kslices_IndexFunc_int_i_goodTerrain_1 : Sslices_IndexFunc_int_i_goodTerrain_1 → List Item
 | .h1 .. => nav 300 2 [] [.code (bdy f210)]
def Zslices_IndexFunc_int_i_goodTerrain_1 : Sslices_IndexFunc_int_i_goodTerrain_1 → St
 | .h1 s0 t1 t2 => ⟨sts 19 [(0, sl 1 I s0), (1, .fn 243 []), (7, I t1), (8, I t2)], []⟩
abbrev Qslices_IndexFunc_int_i_goodTerrain_1 := Nx X 210 0 Kslices_IndexFunc_int_i_goodTerrain_1 Zslices_IndexFunc_int_i_goodTerrain_1 RI (fun _ => [])
theorem nslices_IndexFunc_int_i_goodTerrain_1 : ∀ s o, Bslices_IndexFunc_int_i_goodTerrain_1 s = some o → Qslices_IndexFunc_int_i_goodTerrain_1 (Kslices_IndexFunc_int_i_goodTerrain_1 s) (Zslices_IndexFunc_int_i_goodTerrain_1 s) o
 | .h1 s0 t1 t2, o, H =>
  eIf H (fun h1 H =>
  eCk H fun h2 H =>
  eBind H fun x3 hx3 H =>
  eBind H fun r4 hr4 H =>
  gN [rg [hT 0], r0] (by kernel_rfl) (P2 ((decide (t2 < t1)) = true) (decide_eq_true h1)<|P0) <|
  eIf H (fun h5 H =>
  eN H<|gE func210 [rg [hE 4 (I x3), { i := 5, call := some { cl := true, auto := true, ins := [], res := (RB r4), G' := [] }, dec := some true }], r0] (by kernel_rfl) (P1 h2<|P1 (int_lt_of_at h2 hx3)<|P1 (at_map I hx3)<|P1 (ci_goodTerrain_1 hr4)<|P2 (r4 = true) (h5)<|P0))
  (fun h5 H =>
  eN H fun r hn => gO [rg [hE 4 (I x3), { i := 5, call := some { cl := true, auto := true, ins := [], res := (RB r4), G' := [] }, dec := some false }], r0, .canon [] [0, 1, 7, 8]] (by kernel_rfl) (P1 h2<|P1 (int_lt_of_at h2 hx3)<|P1 (at_map I hx3)<|P1 (ci_goodTerrain_1 hr4)<|P2 (r4 = false) (eqF h5)<|P0) hn))
  (fun h1 H =>
  eN H<|gE func210 [rg [hF 0], r0] (by kernel_rfl) (P2 ((decide (t2 < t1)) = false) (decide_eq_false h1)<|P0))
theorem wslices_IndexFunc_int_i_goodTerrain_1 : ∀ s r, loop Bslices_IndexFunc_int_i_goodTerrain_1 s = some r → Wc X 210 0 (Kslices_IndexFunc_int_i_goodTerrain_1 s) (Zslices_IndexFunc_int_i_goodTerrain_1 s) (RI r) ((fun _ => []) r) := Nx.all (nslices_IndexFunc_int_i_goodTerrain_1)
theorem cslices_IndexFunc_int_i_goodTerrain_1 {a0 : (List Int)} {r : Int} (H : Dslices_IndexFunc_int_i_goodTerrain_1 a0 = some r) : Ct X.P X.gl 210 [sl 1 I a0, .fn 243 []] [] (RI r) [] :=
 Ct.of func210 (c := bdy f210) (by kernel_rfl) (by kernel_rfl) <|
 gO [r0, r0, .canon [] [0, 1, 7, 8]] (by kernel_rfl) P0 (wslices_IndexFunc_int_i_goodTerrain_1 _ _ H)
theorem cslices_ContainsFunc_int_i_goodTerrain_1 {a0 : (List Int)} {r : Bool} (H : Dslices_ContainsFunc_int_i_goodTerrain_1 a0 = some r) : Ct X.P X.gl 155 [sl 1 I a0, .fn 243 []] [] (RB r) [] :=
 Ct.of func155 (c := bdy f155) (by kernel_rfl) (by kernel_rfl) <|
 eBind H fun r1 hr1 H =>
 eW RB (fun _ => []) H<|gE func155 [r0, rg [hC 2 true [] (RI r1) []]] (by kernel_rfl) (P1 (cslices_IndexFunc_int_i_goodTerrain_1 hr1)<|P0)
theorem ci_goodTerrain {a0 : Gi_Terrain} {a1 : Int} {r : Bool} (H : Di_goodTerrain a0 a1 = some r) : Ct X.P X.gl 205 [gi_Terrain a0, I a1] [] (RB r) [] :=
 Ct.of func205 (c := bdy f205) (by kernel_rfl) (by kernel_rfl) <|
 eBind H fun r1 hr1 H =>
 gS [r0] (by kernel_rfl) P0 <|
 eIf H (fun h2 H =>
 eIf H (fun h3 H =>
 eBind H fun r4 hr4 H =>
 eIf H (fun h5 H =>
 eBind H fun r6 hr6 H =>
 eIf H (fun h7 H =>
 eBind H fun r8 hr8 H =>
 eW RB (fun _ => []) H<|gE func205 [rg [{ i := 2, call := some { cl := true, auto := true, ins := [], res := (RB r1), G' := [] }, dec := some true }, hF 9, { i := 14, call := some { cl := true, auto := true, ins := [], res := (RB r4), G' := [] }, dec := some true }, { i := 20, call := some { cl := true, auto := true, ins := [], res := (RB r6), G' := [] }, dec := some true }], rg [hC 2 true [] (RB r8) []]] (by kernel_rfl) (P1 (ci_isName hr1)<|P2 (r1 = true) (h2)<|P2 (((((a0.Cost.length : Nat) : Int) : Int) != a1) = false) (bneF h3)<|P1 (ci_inRange hr4)<|P2 (r4 = true) (h5)<|P1 (ci_inRange hr6)<|P2 (r6 = true) (h7)<|P1 (cslices_ContainsFunc_int_i_goodTerrain_1 hr8)<|P0))
 (fun h7 H =>
 eW RB (fun _ => []) H<|gE func205 [rg [{ i := 2, call := some { cl := true, auto := true, ins := [], res := (RB r1), G' := [] }, dec := some true }, hF 9, { i := 14, call := some { cl := true, auto := true, ins := [], res := (RB r4), G' := [] }, dec := some true }, { i := 20, call := some { cl := true, auto := true, ins := [], res := (RB r6), G' := [] }, dec := some false }], r0] (by kernel_rfl) (P1 (ci_isName hr1)<|P2 (r1 = true) (h2)<|P2 (((((a0.Cost.length : Nat) : Int) : Int) != a1) = false) (bneF h3)<|P1 (ci_inRange hr4)<|P2 (r4 = true) (h5)<|P1 (ci_inRange hr6)<|P2 (r6 = false) (eqF h7)<|P0)))
 (fun h5 H =>
 eW RB (fun _ => []) H<|gE func205 [rg [{ i := 2, call := some { cl := true, auto := true, ins := [], res := (RB r1), G' := [] }, dec := some true }, hF 9, { i := 14, call := some { cl := true, auto := true, ins := [], res := (RB r4), G' := [] }, dec := some false }], r0] (by kernel_rfl) (P1 (ci_isName hr1)<|P2 (r1 = true) (h2)<|P2 (((((a0.Cost.length : Nat) : Int) : Int) != a1) = false) (bneF h3)<|P1 (ci_inRange hr4)<|P2 (r4 = false) (eqF h5)<|P0)))
 (fun h3 H =>
 eW RB (fun _ => []) H<|gE func205 [rg [{ i := 2, call := some { cl := true, auto := true, ins := [], res := (RB r1), G' := [] }, dec := some true }, hT 9], r0] (by kernel_rfl) (P1 (ci_isName hr1)<|P2 (r1 = true) (h2)<|P2 (((((a0.Cost.length : Nat) : Int) : Int) != a1) = true) (bneT h3)<|P0)))
 (fun h2 H =>
 eW RB (fun _ => []) H<|gE func205 [rg [{ i := 2, call := some { cl := true, auto := true, ins := [], res := (RB r1), G' := [] }, dec := some false }], r0] (by kernel_rfl) (P1 (ci_isName hr1)<|P2 (r1 = false) (eqF h2)<|P0))
theorem ci_terrainIndex_1 {a0 : Gi_Terrain} {a1 : ByteArray} {r : Bool} (H : Di_terrainIndex_1 a0 a1 = some r) : Ct X.P X.gl 245 [gi_Terrain a0, .fptr 1 [.agg [.str a1]] 0 0] [] (RB r) [] :=
 Ct.of func245 (c := bdy f245) (by kernel_rfl) (by kernel_rfl) <|
 eW RB (fun _ => []) H<|gE func245 [r0, r0] (by kernel_rfl) P0
noncomputable def Kslices_IndexFunc_i_Terrain_i_terrainIndex_1 : Sslices_IndexFunc_i_Terrain_i_terrainIndex_1 → List Item
 | .h1 .. => nav 300 2 [] [.code (bdy f244)]
def Zslices_IndexFunc_i_Terrain_i_terrainIndex_1 : Sslices_IndexFunc_i_Terrain_i_terrainIndex_1 → St
 | .h1 s0 f1 t2 t3 => ⟨sts 19 [(0, sl 5 gi_Terrain s0), (1, .fn 245 [.fptr 1 [.agg [.str f1]] 0 0]), (7, I t2), (8, I t3)], []⟩
abbrev Qslices_IndexFunc_i_Terrain_i_terrainIndex_1 := Nx X 244 0 Kslices_IndexFunc_i_Terrain_i_terrainIndex_1 Zslices_IndexFunc_i_Terrain_i_terrainIndex_1 RI (fun _ => [])
theorem nslices_IndexFunc_i_Terrain_i_terrainIndex_1 : ∀ s o, Bslices_IndexFunc_i_Terrain_i_terrainIndex_1 s = some o → Qslices_IndexFunc_i_Terrain_i_terrainIndex_1 (Kslices_IndexFunc_i_Terrain_i_terrainIndex_1 s) (Zslices_IndexFunc_i_Terrain_i_terrainIndex_1 s) o
 | .h1 s0 f1 t2 t3, o, H =>
  eIf H (fun h1 H =>
  eCk H fun h2 H =>
  eBind H fun x3 hx3 H =>
  eBind H fun r4 hr4 H =>
  gN [rg [hT 0], r0] (by kernel_rfl) (P2 ((decide (t3 < t2)) = true) (decide_eq_true h1)<|P0) <|
  eIf H (fun h5 H =>
  eN H<|gE func244 [rg [hE 4 (gi_Terrain x3), { i := 5, call := some { cl := true, auto := true, ins := [], res := (RB r4), G' := [] }, dec := some true }], r0] (by kernel_rfl) (P1 h2<|P1 (int_lt_of_at h2 hx3)<|P1 (at_map gi_Terrain hx3)<|P1 (ci_terrainIndex_1 hr4)<|P2 (r4 = true) (h5)<|P0))
  (fun h5 H =>
  eN H fun r hn => gO [rg [hE 4 (gi_Terrain x3), { i := 5, call := some { cl := true, auto := true, ins := [], res := (RB r4), G' := [] }, dec := some false }], r0, .canon [] [0, 1, 7, 8]] (by kernel_rfl) (P1 h2<|P1 (int_lt_of_at h2 hx3)<|P1 (at_map gi_Terrain hx3)<|P1 (ci_terrainIndex_1 hr4)<|P2 (r4 = false) (eqF h5)<|P0) hn))
  (fun h1 H =>
  eN H<|gE func244 [rg [hF 0], r0] (by kernel_rfl) (P2 ((decide (t3 < t2)) = false) (decide_eq_false h1)<|P0))
theorem wslices_IndexFunc_i_Terrain_i_terrainIndex_1 : ∀ s r, loop Bslices_IndexFunc_i_Terrain_i_terrainIndex_1 s = some r → Wc X 244 0 (Kslices_IndexFunc_i_Terrain_i_terrainIndex_1 s) (Zslices_IndexFunc_i_Terrain_i_terrainIndex_1 s) (RI r) ((fun _ => []) r) := Nx.all (nslices_IndexFunc_i_Terrain_i_terrainIndex_1)
theorem cslices_IndexFunc_i_Terrain_i_terrainIndex_1 {a0 : (List Gi_Terrain)} {a100 : ByteArray} {r : Int} (H : Dslices_IndexFunc_i_Terrain_i_terrainIndex_1 a0 a100 = some r) : Ct X.P X.gl 244 [sl 5 gi_Terrain a0, .fn 245 [.fptr 1 [.agg [.str a100]] 0 0]] [] (RI r) [] :=
 Ct.of func244 (c := bdy f244) (by kernel_rfl) (by kernel_rfl) <|
 gO [r0, r0, .canon [] [0, 1, 7, 8]] (by kernel_rfl) P0 (wslices_IndexFunc_i_Terrain_i_terrainIndex_1 _ _ H)
theorem ci_terrainIndex {a0 : (List Gi_Terrain)} {a1 : ByteArray} {r : Int} (H : Di_terrainIndex a0 a1 = some r) : Ct X.P X.gl 206 [sl 5 gi_Terrain a0, .str a1] [] (RI r) [] :=
 Ct.of func206 (c := bdy f206) (by kernel_rfl) (by kernel_rfl) <|
 eBind H fun r1 hr1 H =>
 eW RI (fun _ => []) H<|gE func206 [r0, rg [hC 2 false [] (RI r1) []]] (by kernel_rfl) (P1 (cslices_IndexFunc_i_Terrain_i_terrainIndex_1 hr1)<|P0)
end Go.Proofs.YtogomlkoocbhcaaGreatDoor.Ab
