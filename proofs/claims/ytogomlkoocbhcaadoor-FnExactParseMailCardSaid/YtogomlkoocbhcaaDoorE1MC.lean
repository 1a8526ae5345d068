/- Part of the proof of FnExactParseMailCard: no condition of its own. -/
import Derived.Test.YtogomlkoocbhcaaDoorAb5
import Derived.Test.YtogomlkoocbhcaaDoorAb6
import Derived.Test.YtogomlkoocbhcaaDoorAb5
import Derived.Test.YtogomlkoocbhcaaDoorAb5
import Derived.Test.YtogomlkoocbhcaaDoorChecked
import Derived.Test.YtogomlkoocbhcaaDoorE1MD
set_option linter.unusedVariables false
set_option linter.unusedSimpArgs false
open Go Go.Proofs Go.Proofs.Tryd
namespace Go.Proofs.YtogomlkoocbhcaaDoor.Ab
def T : Tab := [(3, ⟨(TK.int IntKind.i64), 1, 8, I 0⟩),
 (4, ⟨TK.bool, 1, 1, (D.bool false)⟩),
 (5, ⟨(TK.int IntKind.u8), 1, 1, .int .u8 0⟩),
 (9, ⟨TK.str, 1, 16, (D.str (ByteArray.mk (Array.mk [])))⟩),
 (26, ⟨(TK.slice 37), 1, 24, D.nil⟩),
 (37, ⟨(TK.strct [(FI.mk 0 1 false), (FI.mk 1 1 false), (FI.mk 2 1 false)] (some [(LK.int IntKind.i64), (LK.int IntKind.i64), (LK.int IntKind.i64)])), 3, 24, (D.agg [I 0, I 0, I 0])⟩),
 (41, ⟨(TK.slice 9), 1, 24, D.nil⟩),
 (48, ⟨TK.ifc, 1, 16, (D.ifc false)⟩),
 (59, ⟨(TK.slice 5), 1, 24, D.nil⟩),
 (60, ⟨(TK.slice 3), 1, 24, D.nil⟩),
 (72, ⟨(TK.strct [(FI.mk 0 1 false), (FI.mk 1 1 false)] none), 2, 32, (D.agg [D.undef, D.nil])⟩),
 (79, ⟨(TK.int IntKind.u64), 1, 8, (D.int IntKind.u64 (Int.ofNat 0))⟩)]
noncomputable def X : Ctx := ⟨Go.Proofs.Tryd.prog, T, [(0, .fptr 1 [.agg [.ifc true]] 0 0), (1, .fptr 1 [.agg [.ifc true]] 0 0), (5, .fptr 20 gc105 0 0)]⟩
theorem T_ok : TabOK X.P X.T := ⟨by kernel_rfl, by kernel_rfl, by kernel_rfl, by kernel_rfl, by kernel_rfl, by kernel_rfl, by kernel_rfl, by kernel_rfl, by kernel_rfl, by kernel_rfl, by kernel_rfl, by kernel_rfl, trivial⟩
theorem mixed : X.P.follows .mixedOrders = true := Go.Proofs.Tryd.checked.mixed
theorem gO {f : FuncId} {M : Nat} {k k' : List Item} {σ σ' : St} {res : List D} {G' : List Root} (cmds : List Cmd) {ps : List Prop} (h : run X M cmds k σ = some (ps, k', σ')) (hp : AllP ps) (hk : Wc X f M k' σ' res G') : Wc X f M k σ res G' := run_ok T_ok mixed h hp hk
theorem gE {f : FuncId} {M : Nat} {k : List Item} {σ : St} {res : List D} {G' : List Root} {fn : Func} (hf : X.P.funcs[f]? = some fn) (cmds : List Cmd) {ps : List Prop} (h : runFinC X M cmds k σ fn.results.toList res = some (ps, res, G')) (hp : AllP ps) : Wc X f M k σ res G' := runFinC_ok T_ok mixed hf h hp
theorem gS {f : FuncId} {M : Nat} {k : List Item} {σ : St} {res : List D} {G' : List Root} (cmds : List Cmd) {ps : List Prop} (h : runP X M cmds k σ = some ps) (hp : AllP ps) (hk : Wc X f M (runK X M cmds k σ) (runS X M cmds k σ) res G') : Wc X f M k σ res G' := seg_ok T_ok mixed cmds h hp hk
theorem gN {ς ρ : Type} {f : FuncId} {M : Nat} {K : ς → List Item} {Z : ς → St} {R : ρ → List D} {G : ρ → List Root} {k : List Item} {σ : St} {o : ς ⊕ ρ} (cmds : List Cmd) {ps : List Prop} (h : runP X M cmds k σ = some ps) (hp : AllP ps) (hk : Nx X f M K Z R G (runK X M cmds k σ) (runS X M cmds k σ) o) : Nx X f M K Z R G k σ o := segN_ok T_ok mixed cmds h hp hk
def lays_n156_ren : Go.Shelf.Ren := ⟨fun | 156 => 40 | 165 => 50 | 166 => 51 | 169 => 52 | 240 => 61 | 241 => 62 | 276 => 74 | 277 => 75 | n => n, fun | 31 => 41 | 9 => 9 | 3 => 3 | 4 => 4 | 0 => 0 | 20 => 20 | 72 => 72 | 76 => 49 | 70 => 70 | 37 => 59 | 75 => 48 | 127 => 87 | 164 => 98 | 5 => 5 | 80 => 74 | n => n, fun | n => n⟩
theorem lays_n156 : Go.Proofs.Lays.n156 Go.Proofs.Tryd.prog lays_n156_ren := {
 mixed := by kernel_rfl
 f156 := Go.Proofs.Tryd.func40.trans (congrArg some (by kernel_rfl))
 f165 := Go.Proofs.Tryd.func50.trans (congrArg some (by kernel_rfl))
 f166 := Go.Proofs.Tryd.func51.trans (congrArg some (by kernel_rfl))
 f169 := Go.Proofs.Tryd.func52.trans (congrArg some (by kernel_rfl))
 f240 := Go.Proofs.Tryd.func61.trans (congrArg some (by kernel_rfl))
 f241 := Go.Proofs.Tryd.func62.trans (congrArg some (by kernel_rfl))
 f276 := Go.Proofs.Tryd.func74.trans (congrArg some (by kernel_rfl))
 f277 := Go.Proofs.Tryd.func75.trans (congrArg some (by kernel_rfl))
 t0 := Go.Proofs.Tryd.underlying0
 a0 := Go.Proofs.Tryd.isAgg0
 z0 := Go.Proofs.Tryd.sizeOf0
 v0 := Go.Proofs.Tryd.zeroValue0
 t3 := Go.Proofs.Tryd.underlying3
 a3 := Go.Proofs.Tryd.isAgg3
 z3 := Go.Proofs.Tryd.sizeOf3
 v3 := Go.Proofs.Tryd.zeroValue3
 t4 := Go.Proofs.Tryd.underlying4
 a4 := Go.Proofs.Tryd.isAgg4
 z4 := Go.Proofs.Tryd.sizeOf4
 v4 := Go.Proofs.Tryd.zeroValue4
 t9 := Go.Proofs.Tryd.underlying9
 a9 := Go.Proofs.Tryd.isAgg9
 z9 := Go.Proofs.Tryd.sizeOf9
 v9 := Go.Proofs.Tryd.zeroValue9
 t20 := Go.Proofs.Tryd.underlying20
 a20 := Go.Proofs.Tryd.isAgg20
 z20 := Go.Proofs.Tryd.sizeOf20
 v20 := Go.Proofs.Tryd.zeroValue20
 t31 := Go.Proofs.Tryd.underlying41
 a31 := Go.Proofs.Tryd.isAgg41
 z31 := Go.Proofs.Tryd.sizeOf41
 v31 := Go.Proofs.Tryd.zeroValue41
 t37 := Go.Proofs.Tryd.underlying59
 a37 := Go.Proofs.Tryd.isAgg59
 z37 := Go.Proofs.Tryd.sizeOf59
 v37 := Go.Proofs.Tryd.zeroValue59
 t70 := Go.Proofs.Tryd.underlying70
 a70 := Go.Proofs.Tryd.isAgg70
 z70 := Go.Proofs.Tryd.sizeOf70
 v70 := Go.Proofs.Tryd.zeroValue70
 t72 := Go.Proofs.Tryd.underlying72
 a72 := Go.Proofs.Tryd.isAgg72
 z72 := Go.Proofs.Tryd.sizeOf72
 v72 := Go.Proofs.Tryd.zeroValue72
 t75 := Go.Proofs.Tryd.underlying48
 a75 := Go.Proofs.Tryd.isAgg48
 z75 := Go.Proofs.Tryd.sizeOf48
 v75 := Go.Proofs.Tryd.zeroValue48
 t76 := Go.Proofs.Tryd.underlying49
 a76 := Go.Proofs.Tryd.isAgg49
 z76 := Go.Proofs.Tryd.sizeOf49
 v76 := Go.Proofs.Tryd.zeroValue49
 t127 := Go.Proofs.Tryd.underlying87
 a127 := Go.Proofs.Tryd.isAgg87
 z127 := Go.Proofs.Tryd.sizeOf87
 v127 := Go.Proofs.Tryd.zeroValue87
 t164 := Go.Proofs.Tryd.underlying98
 a164 := Go.Proofs.Tryd.isAgg98
 z164 := Go.Proofs.Tryd.sizeOf98
 v164 := Go.Proofs.Tryd.zeroValue98 }

def lays_n172_ren : Go.Shelf.Ren := ⟨fun | 172 => 25 | 244 => 37 | 245 => 38 | 247 => 45 | 279 => 46 | 280 => 47 | 281 => 48 | 282 => 49 | 287 => 58 | 316 => 59 | 171 => 36 | 205 => 60 | 321 => 72 | 322 => 73 | 243 => 44 | 246 => 57 | 283 => 68 | 284 => 69 | 285 => 70 | 286 => 71 | 129 => 79 | 317 => 78 | 318 => 80 | 319 => 81 | 320 => 82 | 337 => 83 | 338 => 84 | n => n, fun | 9 => 9 | 3 => 3 | 75 => 48 | 76 => 49 | 4 => 4 | 5 => 5 | 167 => 64 | 37 => 59 | 0 => 0 | 85 => 65 | 2 => 2 | 168 => 67 | 53 => 79 | 175 => 80 | 46 => 82 | 210 => 85 | 127 => 87 | 145 => 97 | 143 => 95 | 21 => 21 | 171 => 89 | 173 => 92 | 212 => 109 | 51 => 105 | 20 => 20 | 213 => 110 | 232 => 113 | 233 => 114 | 80 => 74 | n => n, fun | 15 => 0 | 16 => 1 | 17 => 5 | 18 => 6 | 19 => 7 | n => n⟩
theorem lays_n172 : Go.Proofs.LaysC.n172 Go.Proofs.Tryd.prog lays_n172_ren := {
 mixed := by kernel_rfl
 f129 := Go.Proofs.Tryd.func79.trans (congrArg some (by kernel_rfl))
 f171 := Go.Proofs.Tryd.func36.trans (congrArg some (by kernel_rfl))
 f172 := Go.Proofs.Tryd.func25.trans (congrArg some (by kernel_rfl))
 f205 := Go.Proofs.Tryd.func60.trans (congrArg some (by kernel_rfl))
 f243 := Go.Proofs.Tryd.func44.trans (congrArg some (by kernel_rfl))
 f244 := Go.Proofs.Tryd.func37.trans (congrArg some (by kernel_rfl))
 f245 := Go.Proofs.Tryd.func38.trans (congrArg some (by kernel_rfl))
 f246 := Go.Proofs.Tryd.func57.trans (congrArg some (by kernel_rfl))
 f247 := Go.Proofs.Tryd.func45.trans (congrArg some (by kernel_rfl))
 f279 := Go.Proofs.Tryd.func46.trans (congrArg some (by kernel_rfl))
 f280 := Go.Proofs.Tryd.func47.trans (congrArg some (by kernel_rfl))
 f281 := Go.Proofs.Tryd.func48.trans (congrArg some (by kernel_rfl))
 f282 := Go.Proofs.Tryd.func49.trans (congrArg some (by kernel_rfl))
 f283 := Go.Proofs.Tryd.func68.trans (congrArg some (by kernel_rfl))
 f284 := Go.Proofs.Tryd.func69.trans (congrArg some (by kernel_rfl))
 f285 := Go.Proofs.Tryd.func70.trans (congrArg some (by kernel_rfl))
 f286 := Go.Proofs.Tryd.func71.trans (congrArg some (by kernel_rfl))
 f287 := Go.Proofs.Tryd.func58.trans (congrArg some (by kernel_rfl))
 f316 := Go.Proofs.Tryd.func59.trans (congrArg some (by kernel_rfl))
 f317 := Go.Proofs.Tryd.func78.trans (congrArg some (by kernel_rfl))
 f318 := Go.Proofs.Tryd.func80.trans (congrArg some (by kernel_rfl))
 f319 := Go.Proofs.Tryd.func81.trans (congrArg some (by kernel_rfl))
 f320 := Go.Proofs.Tryd.func82.trans (congrArg some (by kernel_rfl))
 f321 := Go.Proofs.Tryd.func72.trans (congrArg some (by kernel_rfl))
 f322 := Go.Proofs.Tryd.func73.trans (congrArg some (by kernel_rfl))
 f337 := Go.Proofs.Tryd.func83.trans (congrArg some (by kernel_rfl))
 f338 := Go.Proofs.Tryd.func84.trans (congrArg some (by kernel_rfl))
 t0 := Go.Proofs.Tryd.underlying0
 a0 := Go.Proofs.Tryd.isAgg0
 z0 := Go.Proofs.Tryd.sizeOf0
 v0 := Go.Proofs.Tryd.zeroValue0
 t2 := Go.Proofs.Tryd.underlying2
 a2 := Go.Proofs.Tryd.isAgg2
 z2 := Go.Proofs.Tryd.sizeOf2
 v2 := Go.Proofs.Tryd.zeroValue2
 t3 := Go.Proofs.Tryd.underlying3
 a3 := Go.Proofs.Tryd.isAgg3
 z3 := Go.Proofs.Tryd.sizeOf3
 v3 := Go.Proofs.Tryd.zeroValue3
 t4 := Go.Proofs.Tryd.underlying4
 a4 := Go.Proofs.Tryd.isAgg4
 z4 := Go.Proofs.Tryd.sizeOf4
 v4 := Go.Proofs.Tryd.zeroValue4
 t5 := Go.Proofs.Tryd.underlying5
 a5 := Go.Proofs.Tryd.isAgg5
 z5 := Go.Proofs.Tryd.sizeOf5
 v5 := Go.Proofs.Tryd.zeroValue5
 t9 := Go.Proofs.Tryd.underlying9
 a9 := Go.Proofs.Tryd.isAgg9
 z9 := Go.Proofs.Tryd.sizeOf9
 v9 := Go.Proofs.Tryd.zeroValue9
 t20 := Go.Proofs.Tryd.underlying20
 a20 := Go.Proofs.Tryd.isAgg20
 z20 := Go.Proofs.Tryd.sizeOf20
 v20 := Go.Proofs.Tryd.zeroValue20
 t21 := Go.Proofs.Tryd.underlying21
 a21 := Go.Proofs.Tryd.isAgg21
 z21 := Go.Proofs.Tryd.sizeOf21
 v21 := Go.Proofs.Tryd.zeroValue21
 t37 := Go.Proofs.Tryd.underlying59
 a37 := Go.Proofs.Tryd.isAgg59
 z37 := Go.Proofs.Tryd.sizeOf59
 v37 := Go.Proofs.Tryd.zeroValue59
 t46 := Go.Proofs.Tryd.underlying82
 a46 := Go.Proofs.Tryd.isAgg82
 z46 := Go.Proofs.Tryd.sizeOf82
 v46 := Go.Proofs.Tryd.zeroValue82
 t51 := Go.Proofs.Tryd.underlying105
 a51 := Go.Proofs.Tryd.isAgg105
 z51 := Go.Proofs.Tryd.sizeOf105
 v51 := Go.Proofs.Tryd.zeroValue105
 t53 := Go.Proofs.Tryd.underlying79
 a53 := Go.Proofs.Tryd.isAgg79
 z53 := Go.Proofs.Tryd.sizeOf79
 v53 := Go.Proofs.Tryd.zeroValue79
 t75 := Go.Proofs.Tryd.underlying48
 a75 := Go.Proofs.Tryd.isAgg48
 z75 := Go.Proofs.Tryd.sizeOf48
 v75 := Go.Proofs.Tryd.zeroValue48
 t76 := Go.Proofs.Tryd.underlying49
 a76 := Go.Proofs.Tryd.isAgg49
 z76 := Go.Proofs.Tryd.sizeOf49
 v76 := Go.Proofs.Tryd.zeroValue49
 t85 := Go.Proofs.Tryd.underlying65
 a85 := Go.Proofs.Tryd.isAgg65
 z85 := Go.Proofs.Tryd.sizeOf65
 v85 := Go.Proofs.Tryd.zeroValue65
 t127 := Go.Proofs.Tryd.underlying87
 a127 := Go.Proofs.Tryd.isAgg87
 z127 := Go.Proofs.Tryd.sizeOf87
 v127 := Go.Proofs.Tryd.zeroValue87
 t143 := Go.Proofs.Tryd.underlying95
 a143 := Go.Proofs.Tryd.isAgg95
 z143 := Go.Proofs.Tryd.sizeOf95
 v143 := Go.Proofs.Tryd.zeroValue95
 t145 := Go.Proofs.Tryd.underlying97
 a145 := Go.Proofs.Tryd.isAgg97
 z145 := Go.Proofs.Tryd.sizeOf97
 v145 := Go.Proofs.Tryd.zeroValue97
 t167 := Go.Proofs.Tryd.underlying64
 a167 := Go.Proofs.Tryd.isAgg64
 z167 := Go.Proofs.Tryd.sizeOf64
 v167 := Go.Proofs.Tryd.zeroValue64
 t168 := Go.Proofs.Tryd.underlying67
 a168 := Go.Proofs.Tryd.isAgg67
 z168 := Go.Proofs.Tryd.sizeOf67
 v168 := Go.Proofs.Tryd.zeroValue67
 t171 := Go.Proofs.Tryd.underlying89
 a171 := Go.Proofs.Tryd.isAgg89
 z171 := Go.Proofs.Tryd.sizeOf89
 v171 := Go.Proofs.Tryd.zeroValue89
 t173 := Go.Proofs.Tryd.underlying92
 a173 := Go.Proofs.Tryd.isAgg92
 z173 := Go.Proofs.Tryd.sizeOf92
 v173 := Go.Proofs.Tryd.zeroValue92
 t175 := Go.Proofs.Tryd.underlying80
 a175 := Go.Proofs.Tryd.isAgg80
 z175 := Go.Proofs.Tryd.sizeOf80
 v175 := Go.Proofs.Tryd.zeroValue80
 t210 := Go.Proofs.Tryd.underlying85
 a210 := Go.Proofs.Tryd.isAgg85
 z210 := Go.Proofs.Tryd.sizeOf85
 v210 := Go.Proofs.Tryd.zeroValue85
 t212 := Go.Proofs.Tryd.underlying109
 a212 := Go.Proofs.Tryd.isAgg109
 z212 := Go.Proofs.Tryd.sizeOf109
 v212 := Go.Proofs.Tryd.zeroValue109
 t213 := Go.Proofs.Tryd.underlying110
 a213 := Go.Proofs.Tryd.isAgg110
 z213 := Go.Proofs.Tryd.sizeOf110
 t232 := Go.Proofs.Tryd.underlying113
 a232 := Go.Proofs.Tryd.isAgg113
 z232 := Go.Proofs.Tryd.sizeOf113
 v232 := Go.Proofs.Tryd.zeroValue113
 t233 := Go.Proofs.Tryd.underlying114
 a233 := Go.Proofs.Tryd.isAgg114
 z233 := Go.Proofs.Tryd.sizeOf114
 v233 := Go.Proofs.Tryd.zeroValue114
 g15 := by kernel_rfl
 g16 := by kernel_rfl
 g17 := by kernel_rfl
 g18 := by kernel_rfl
 g19 := by kernel_rfl
 t80 := Go.Proofs.Tryd.underlying74
 a80 := Go.Proofs.Tryd.isAgg74
 z80 := Go.Proofs.Tryd.sizeOf74
 v80 := Go.Proofs.Tryd.zeroValue74
 i0 := by kernel_rfl
 i2 := by kernel_rfl
 i3 := by kernel_rfl
 i4 := by kernel_rfl
 i5 := by kernel_rfl
 i9 := by kernel_rfl
 i20 := by kernel_rfl
 i21 := by kernel_rfl
 i37 := by kernel_rfl
 i46 := by kernel_rfl
 i51 := by kernel_rfl
 i53 := by kernel_rfl
 i75 := by kernel_rfl
 i76 := by kernel_rfl
 i80 := by kernel_rfl
 i85 := by kernel_rfl
 i127 := by kernel_rfl
 i143 := by kernel_rfl
 i145 := by kernel_rfl
 i167 := by kernel_rfl
 i168 := by kernel_rfl
 i171 := by kernel_rfl
 i173 := by kernel_rfl
 i175 := by kernel_rfl
 i210 := by kernel_rfl
 i212 := by kernel_rfl
 i232 := by kernel_rfl
 i233 := by kernel_rfl
 m15 := by kernel_rfl
 m16 := by kernel_rfl
 m17 := by kernel_rfl
 m18 := by kernel_rfl
 m19 := by kernel_rfl
 c0 := by kernel_rfl
 c2 := by kernel_rfl
 c3 := by kernel_rfl
 c4 := by kernel_rfl
 c5 := by kernel_rfl
 c9 := by kernel_rfl
 c20 := by kernel_rfl
 c21 := by kernel_rfl
 c37 := by kernel_rfl
 c46 := by kernel_rfl
 c51 := by kernel_rfl
 c53 := by kernel_rfl
 c75 := by kernel_rfl
 c76 := by kernel_rfl
 c80 := by kernel_rfl
 c85 := by kernel_rfl
 c127 := by kernel_rfl
 c143 := by kernel_rfl
 c145 := by kernel_rfl
 c167 := by kernel_rfl
 c168 := by kernel_rfl
 c171 := by kernel_rfl
 c173 := by kernel_rfl
 c175 := by kernel_rfl
 c210 := by kernel_rfl
 c212 := by kernel_rfl
 c213 := by kernel_rfl
 c232 := by kernel_rfl
 c233 := by kernel_rfl }

def lays_n146_ren : Go.Shelf.Ren := ⟨fun | 146 => 23 | 221 => 35 | 268 => 41 | 138 => 42 | 143 => 43 | 195 => 53 | 197 => 54 | 218 => 55 | 219 => 56 | 260 => 63 | 217 => 64 | 225 => 65 | 224 => 66 | 267 => 67 | 266 => 76 | 314 => 77 | n => n, fun | 9 => 9 | 31 => 41 | 3 => 3 | 4 => 4 | 0 => 0 | 105 => 75 | 21 => 21 | 5 => 5 | 46 => 82 | 119 => 101 | 139 => 104 | 138 => 103 | 146 => 106 | 51 => 105 | n => n, fun | 1 => 2 | 3 => 3 | 4 => 4 | n => n⟩
theorem lays_n146 : Go.Proofs.LaysM.n146 Go.Proofs.Tryd.prog lays_n146_ren := {
 mixed := by kernel_rfl
 f138 := Go.Proofs.Tryd.func42.trans (congrArg some (by kernel_rfl))
 f143 := Go.Proofs.Tryd.func43.trans (congrArg some (by kernel_rfl))
 f146 := Go.Proofs.Tryd.func23.trans (congrArg some (by kernel_rfl))
 f195 := Go.Proofs.Tryd.func53.trans (congrArg some (by kernel_rfl))
 f197 := Go.Proofs.Tryd.func54.trans (congrArg some (by kernel_rfl))
 f217 := Go.Proofs.Tryd.func64.trans (congrArg some (by kernel_rfl))
 f218 := Go.Proofs.Tryd.func55.trans (congrArg some (by kernel_rfl))
 f219 := Go.Proofs.Tryd.func56.trans (congrArg some (by kernel_rfl))
 f221 := Go.Proofs.Tryd.func35.trans (congrArg some (by kernel_rfl))
 f224 := Go.Proofs.Tryd.func66.trans (congrArg some (by kernel_rfl))
 f225 := Go.Proofs.Tryd.func65.trans (congrArg some (by kernel_rfl))
 f260 := Go.Proofs.Tryd.func63.trans (congrArg some (by kernel_rfl))
 f266 := Go.Proofs.Tryd.func76.trans (congrArg some (by kernel_rfl))
 f267 := Go.Proofs.Tryd.func67.trans (congrArg some (by kernel_rfl))
 f268 := Go.Proofs.Tryd.func41.trans (congrArg some (by kernel_rfl))
 f314 := Go.Proofs.Tryd.func77.trans (congrArg some (by kernel_rfl))
 t0 := Go.Proofs.Tryd.underlying0
 a0 := Go.Proofs.Tryd.isAgg0
 z0 := Go.Proofs.Tryd.sizeOf0
 v0 := Go.Proofs.Tryd.zeroValue0
 t3 := Go.Proofs.Tryd.underlying3
 a3 := Go.Proofs.Tryd.isAgg3
 z3 := Go.Proofs.Tryd.sizeOf3
 v3 := Go.Proofs.Tryd.zeroValue3
 t4 := Go.Proofs.Tryd.underlying4
 a4 := Go.Proofs.Tryd.isAgg4
 z4 := Go.Proofs.Tryd.sizeOf4
 v4 := Go.Proofs.Tryd.zeroValue4
 t5 := Go.Proofs.Tryd.underlying5
 a5 := Go.Proofs.Tryd.isAgg5
 z5 := Go.Proofs.Tryd.sizeOf5
 v5 := Go.Proofs.Tryd.zeroValue5
 t9 := Go.Proofs.Tryd.underlying9
 a9 := Go.Proofs.Tryd.isAgg9
 z9 := Go.Proofs.Tryd.sizeOf9
 v9 := Go.Proofs.Tryd.zeroValue9
 t21 := Go.Proofs.Tryd.underlying21
 a21 := Go.Proofs.Tryd.isAgg21
 z21 := Go.Proofs.Tryd.sizeOf21
 v21 := Go.Proofs.Tryd.zeroValue21
 t31 := Go.Proofs.Tryd.underlying41
 a31 := Go.Proofs.Tryd.isAgg41
 z31 := Go.Proofs.Tryd.sizeOf41
 v31 := Go.Proofs.Tryd.zeroValue41
 t46 := Go.Proofs.Tryd.underlying82
 a46 := Go.Proofs.Tryd.isAgg82
 z46 := Go.Proofs.Tryd.sizeOf82
 v46 := Go.Proofs.Tryd.zeroValue82
 t51 := Go.Proofs.Tryd.underlying105
 a51 := Go.Proofs.Tryd.isAgg105
 z51 := Go.Proofs.Tryd.sizeOf105
 v51 := Go.Proofs.Tryd.zeroValue105
 t105 := Go.Proofs.Tryd.underlying75
 a105 := Go.Proofs.Tryd.isAgg75
 z105 := Go.Proofs.Tryd.sizeOf75
 v105 := Go.Proofs.Tryd.zeroValue75
 t119 := Go.Proofs.Tryd.underlying101
 a119 := Go.Proofs.Tryd.isAgg101
 z119 := Go.Proofs.Tryd.sizeOf101
 t138 := Go.Proofs.Tryd.underlying103
 a138 := Go.Proofs.Tryd.isAgg103
 z138 := Go.Proofs.Tryd.sizeOf103
 v138 := Go.Proofs.Tryd.zeroValue103
 t139 := Go.Proofs.Tryd.underlying104
 a139 := Go.Proofs.Tryd.isAgg104
 z139 := Go.Proofs.Tryd.sizeOf104
 v139 := Go.Proofs.Tryd.zeroValue104
 t146 := Go.Proofs.Tryd.underlying106
 a146 := Go.Proofs.Tryd.isAgg106
 z146 := Go.Proofs.Tryd.sizeOf106
 v146 := Go.Proofs.Tryd.zeroValue106
 g1 := by kernel_rfl
 g3 := by kernel_rfl
 g4 := by kernel_rfl
 i0 := by kernel_rfl
 i3 := by kernel_rfl
 i4 := by kernel_rfl
 i5 := by kernel_rfl
 i9 := by kernel_rfl
 i21 := by kernel_rfl
 i31 := by kernel_rfl
 i46 := by kernel_rfl
 i51 := by kernel_rfl
 i105 := by kernel_rfl
 i138 := by kernel_rfl
 i139 := by kernel_rfl
 i146 := by kernel_rfl
 m1 := by kernel_rfl
 s1_3 := fun w h => Go.Proofs.cell_of_shapedOpen_int (zero := #[.int .i64 0]) (t := 3) h (of_decide_eq_true (by kernel_rfl)) (by kernel_rfl) rfl (by kernel_rfl) (by kernel_rfl) Go.Proofs.Tryd.underlying3
 m3 := by kernel_rfl
 m4 := by kernel_rfl }

def lays_n171_ren : Go.Shelf.Ren := ⟨fun | 171 => 36 | 243 => 44 | 246 => 57 | 283 => 68 | 284 => 69 | 285 => 70 | 286 => 71 | 129 => 79 | 317 => 78 | 318 => 80 | 319 => 81 | 320 => 82 | 337 => 83 | 338 => 84 | n => n, fun | 3 => 3 | 9 => 9 | 2 => 2 | 4 => 4 | 171 => 89 | 0 => 0 | 53 => 79 | 37 => 59 | 5 => 5 | 173 => 92 | 212 => 109 | 51 => 105 | 20 => 20 | 213 => 110 | 46 => 82 | 232 => 113 | 233 => 114 | n => n, fun | 17 => 5 | 18 => 6 | 19 => 7 | n => n⟩
theorem lays_n171 : Go.Proofs.LaysM.n171 Go.Proofs.Tryd.prog lays_n171_ren := {
 mixed := by kernel_rfl
 f129 := Go.Proofs.Tryd.func79.trans (congrArg some (by kernel_rfl))
 f171 := Go.Proofs.Tryd.func36.trans (congrArg some (by kernel_rfl))
 f243 := Go.Proofs.Tryd.func44.trans (congrArg some (by kernel_rfl))
 f246 := Go.Proofs.Tryd.func57.trans (congrArg some (by kernel_rfl))
 f283 := Go.Proofs.Tryd.func68.trans (congrArg some (by kernel_rfl))
 f284 := Go.Proofs.Tryd.func69.trans (congrArg some (by kernel_rfl))
 f285 := Go.Proofs.Tryd.func70.trans (congrArg some (by kernel_rfl))
 f286 := Go.Proofs.Tryd.func71.trans (congrArg some (by kernel_rfl))
 f317 := Go.Proofs.Tryd.func78.trans (congrArg some (by kernel_rfl))
 f318 := Go.Proofs.Tryd.func80.trans (congrArg some (by kernel_rfl))
 f319 := Go.Proofs.Tryd.func81.trans (congrArg some (by kernel_rfl))
 f320 := Go.Proofs.Tryd.func82.trans (congrArg some (by kernel_rfl))
 f337 := Go.Proofs.Tryd.func83.trans (congrArg some (by kernel_rfl))
 f338 := Go.Proofs.Tryd.func84.trans (congrArg some (by kernel_rfl))
 t0 := Go.Proofs.Tryd.underlying0
 a0 := Go.Proofs.Tryd.isAgg0
 z0 := Go.Proofs.Tryd.sizeOf0
 v0 := Go.Proofs.Tryd.zeroValue0
 t2 := Go.Proofs.Tryd.underlying2
 a2 := Go.Proofs.Tryd.isAgg2
 z2 := Go.Proofs.Tryd.sizeOf2
 v2 := Go.Proofs.Tryd.zeroValue2
 t3 := Go.Proofs.Tryd.underlying3
 a3 := Go.Proofs.Tryd.isAgg3
 z3 := Go.Proofs.Tryd.sizeOf3
 v3 := Go.Proofs.Tryd.zeroValue3
 t4 := Go.Proofs.Tryd.underlying4
 a4 := Go.Proofs.Tryd.isAgg4
 z4 := Go.Proofs.Tryd.sizeOf4
 v4 := Go.Proofs.Tryd.zeroValue4
 t5 := Go.Proofs.Tryd.underlying5
 a5 := Go.Proofs.Tryd.isAgg5
 z5 := Go.Proofs.Tryd.sizeOf5
 v5 := Go.Proofs.Tryd.zeroValue5
 t9 := Go.Proofs.Tryd.underlying9
 a9 := Go.Proofs.Tryd.isAgg9
 z9 := Go.Proofs.Tryd.sizeOf9
 v9 := Go.Proofs.Tryd.zeroValue9
 t20 := Go.Proofs.Tryd.underlying20
 a20 := Go.Proofs.Tryd.isAgg20
 z20 := Go.Proofs.Tryd.sizeOf20
 v20 := Go.Proofs.Tryd.zeroValue20
 t37 := Go.Proofs.Tryd.underlying59
 a37 := Go.Proofs.Tryd.isAgg59
 z37 := Go.Proofs.Tryd.sizeOf59
 v37 := Go.Proofs.Tryd.zeroValue59
 t46 := Go.Proofs.Tryd.underlying82
 a46 := Go.Proofs.Tryd.isAgg82
 z46 := Go.Proofs.Tryd.sizeOf82
 v46 := Go.Proofs.Tryd.zeroValue82
 t51 := Go.Proofs.Tryd.underlying105
 a51 := Go.Proofs.Tryd.isAgg105
 z51 := Go.Proofs.Tryd.sizeOf105
 v51 := Go.Proofs.Tryd.zeroValue105
 t53 := Go.Proofs.Tryd.underlying79
 a53 := Go.Proofs.Tryd.isAgg79
 z53 := Go.Proofs.Tryd.sizeOf79
 v53 := Go.Proofs.Tryd.zeroValue79
 t171 := Go.Proofs.Tryd.underlying89
 a171 := Go.Proofs.Tryd.isAgg89
 z171 := Go.Proofs.Tryd.sizeOf89
 v171 := Go.Proofs.Tryd.zeroValue89
 t173 := Go.Proofs.Tryd.underlying92
 a173 := Go.Proofs.Tryd.isAgg92
 z173 := Go.Proofs.Tryd.sizeOf92
 v173 := Go.Proofs.Tryd.zeroValue92
 t212 := Go.Proofs.Tryd.underlying109
 a212 := Go.Proofs.Tryd.isAgg109
 z212 := Go.Proofs.Tryd.sizeOf109
 v212 := Go.Proofs.Tryd.zeroValue109
 t213 := Go.Proofs.Tryd.underlying110
 a213 := Go.Proofs.Tryd.isAgg110
 z213 := Go.Proofs.Tryd.sizeOf110
 t232 := Go.Proofs.Tryd.underlying113
 a232 := Go.Proofs.Tryd.isAgg113
 z232 := Go.Proofs.Tryd.sizeOf113
 v232 := Go.Proofs.Tryd.zeroValue113
 t233 := Go.Proofs.Tryd.underlying114
 a233 := Go.Proofs.Tryd.isAgg114
 z233 := Go.Proofs.Tryd.sizeOf114
 v233 := Go.Proofs.Tryd.zeroValue114
 g17 := by kernel_rfl
 g18 := by kernel_rfl
 g19 := by kernel_rfl
 i0 := by kernel_rfl
 i2 := by kernel_rfl
 i3 := by kernel_rfl
 i4 := by kernel_rfl
 i5 := by kernel_rfl
 i9 := by kernel_rfl
 i20 := by kernel_rfl
 i37 := by kernel_rfl
 i46 := by kernel_rfl
 i51 := by kernel_rfl
 i53 := by kernel_rfl
 i171 := by kernel_rfl
 i173 := by kernel_rfl
 i212 := by kernel_rfl
 i232 := by kernel_rfl
 i233 := by kernel_rfl
 m17 := by kernel_rfl
 m18 := by kernel_rfl
 m19 := by kernel_rfl }

theorem lays_Extra : Builder.Extra Go.Proofs.Tryd.prog lays_n156_ren := {
 sizeBuilder := by kernel_rfl
 liesBuilder := by kernel_rfl
 t5 := Go.Proofs.Tryd.underlying5
 a5 := Go.Proofs.Tryd.isAgg5
 z5 := Go.Proofs.Tryd.sizeOf5
 v5 := Go.Proofs.Tryd.zeroValue5
 infoByte := by kernel_rfl
 cellsByte := by kernel_rfl
 sizeByte := by kernel_rfl
 neB5 := by decide }

def Rs_l1Split (r : (List ByteArray)) : List D := [ow 1 D.str r]
noncomputable def Ks_l1Split : Ss_l1Split → List Item
 | .h1 .. => nav 300 4 [] [.code (bdy f20)]
def Zs_l1Split : Ss_l1Split → St
 | .h1 s0 b1 vfrom2 i3 l4 => ⟨sts 34 [(0, .str s0), (1, .int .u8 b1), (5, .ref 0 1 none), (6, I vfrom2), (7, I i3)], [some ⟨false, false, 1, l4.length, List.map D.str l4⟩]⟩
abbrev Qs_l1Split := Nx X 20 0 Ks_l1Split Zs_l1Split Rs_l1Split (fun _ => [])
theorem ns_l1Split : ∀ s o, Bs_l1Split s = some o → Qs_l1Split (Ks_l1Split s) (Zs_l1Split s) o
 | .h1 s0 b1 vfrom2 i3 l4, o, H =>
  eIf H (fun h1 H =>
  eCk H fun h2 H =>
  eCk H fun h3 H =>
  gN [rg [hT 3]] (by kernel_rfl) (P2 ((decide (i3 < ((ByteArray.size s0 : Nat) : Int))) = true) (decide_eq_true h1)<|P0) <|
  eIf H (fun h4 H =>
  eCk H fun h5 H =>
  eCk H fun h6 H =>
  eCk H fun h7 H =>
  eCk H fun h8 H =>
  eN H fun r hn => gO [rg [{ i := 2, n := byteAt s0 (Int.toNat i3) }, hT 4], rg [hA 6 ((l4 ++ [(ByteArray.extract s0 (Int.toNat vfrom2) (Int.toNat i3))]).length) (List.map D.str (l4 ++ [(ByteArray.extract s0 (Int.toNat vfrom2) (Int.toNat i3))]))], r0, r0, .canon [2] [0, 1, 5, 6, 7]] (by kernel_rfl) (P2 ((0 : Int) ≤ i3) h2<|P2 (i3 < (ByteArray.size s0 : Int)) h3<|P2 ((s0.data.toList[(Int.toNat i3)]?.map fun b => (b.toNat : Int)) = some ((byteAt s0 (Int.toNat i3) : Nat) : Int)) (byteAt_ok (by omega))<|P2 (((((byteAt s0 (Int.toNat i3) : Nat) : Int) : Int) == b1) = true) (beqT h4)<|P2 ((0 : Int) ≤ vfrom2) h5<|P2 ((vfrom2 : Int) ≤ i3) h6<|P2 ((i3 : Int) ≤ ((ByteArray.size s0 : Nat) : Int)) h7<|P1 (apL l4 [(ByteArray.extract s0 (Int.toNat vfrom2) (Int.toNat i3))])<|P1 (apB h8)<|P1 (apM D.str l4 [(ByteArray.extract s0 (Int.toNat vfrom2) (Int.toNat i3))])<|P0) hn)
  (fun h4 H =>
  eN H fun r hn => gO [rg [{ i := 2, n := byteAt s0 (Int.toNat i3) }, hF 4], r0, .canon [0] [0, 1, 5, 6, 7]] (by kernel_rfl) (P2 ((0 : Int) ≤ i3) h2<|P2 (i3 < (ByteArray.size s0 : Int)) h3<|P2 ((s0.data.toList[(Int.toNat i3)]?.map fun b => (b.toNat : Int)) = some ((byteAt s0 (Int.toNat i3) : Nat) : Int)) (byteAt_ok (by omega))<|P2 (((((byteAt s0 (Int.toNat i3) : Nat) : Int) : Int) == b1) = false) (beqF h4)<|P0) hn))
  (fun h1 H =>
  eCk H fun h2 H =>
  eCk H fun h3 H =>
  eCk H fun h4 H =>
  eN H<|gE func20 [rg [hF 3], rg [hA 5 ((l4 ++ [(ByteArray.extract s0 (Int.toNat vfrom2) (ByteArray.size s0))]).length) (List.map D.str (l4 ++ [(ByteArray.extract s0 (Int.toNat vfrom2) (ByteArray.size s0))]))]] (by kernel_rfl) (P2 ((decide (i3 < ((ByteArray.size s0 : Nat) : Int))) = false) (decide_eq_false h1)<|P2 ((0 : Int) ≤ vfrom2) h2<|P2 ((vfrom2 : Int) ≤ ((ByteArray.size s0 : Nat) : Int)) h3<|P1 (apL l4 [(ByteArray.extract s0 (Int.toNat vfrom2) (ByteArray.size s0))])<|P1 (apB h4)<|P1 (apM D.str l4 [(ByteArray.extract s0 (Int.toNat vfrom2) (ByteArray.size s0))])<|P0))
theorem ws_l1Split : ∀ s r, loop Bs_l1Split s = some r → Wc X 20 0 (Ks_l1Split s) (Zs_l1Split s) (Rs_l1Split r) ((fun _ => []) r) := Nx.all (ns_l1Split)
theorem cs_l1Split {a0 : ByteArray} {a1 : Int} {r : (List ByteArray)} (H : Ds_l1Split a0 a1 = some r) : Ct X.P X.gl 20 [.str a0, .int .u8 a1] [] (Rs_l1Split r) [] :=
 Ct.of func20 (c := bdy f20) (by kernel_rfl) (by kernel_rfl) <|
 gO [r0, r0, r0, r0, .own 5 1, .canon [0] [0, 1, 5, 6, 7]] (by kernel_rfl) P0 (ws_l1Split _ _ H)
theorem cs_l1In {a0 : Int} {a1 : Int} {a2 : Int} {r : Bool} (H : Ds_l1In a0 a1 a2 = some r) : Ct X.P X.gl 26 [I a0, I a1, I a2] [] (RB r) [] :=
 Ct.of func26 (c := bdy f26) (by kernel_rfl) (by kernel_rfl) <|
 gS [r0] (by kernel_rfl) P0 <|
 eIf H (fun h1 H =>
 eW RB (fun _ => []) H<|gE func26 [rg [hT 2]] (by kernel_rfl) (P2 ((decide (a0 ≥ a1)) = true) (decide_eq_true h1)<|P0))
 (fun h1 H =>
 eW RB (fun _ => []) H<|gE func26 [rg [hF 2]] (by kernel_rfl) (P2 ((decide (a0 ≥ a1)) = false) (decide_eq_false h1)<|P0))
noncomputable def Ks_l1Read : Ss_l1Read → List Item
 | .h1 .. => nav 300 4 [false] [.code (bdy f21)]
def Zs_l1Read : Ss_l1Read → St
 | .h1 s0 n1 i2 => ⟨sts 44 [(0, .str s0), (3, I n1), (4, I i2)], []⟩
abbrev Qs_l1Read := Nx X 21 0 Ks_l1Read Zs_l1Read RI (fun _ => [])
theorem ns_l1Read : ∀ s o, Bs_l1Read s = some o → Qs_l1Read (Ks_l1Read s) (Zs_l1Read s) o
 | .h1 s0 n1 i2, o, H =>
  eIf H (fun h1 H =>
  eCk H fun h2 H =>
  eCk H fun h3 H =>
  gN [rg [hT 3]] (by kernel_rfl) (P2 ((decide (i2 < ((ByteArray.size s0 : Nat) : Int))) = true) (decide_eq_true h1)<|P0) <|
  eIf H (fun h4 H =>
  eN H<|gE func21 [rg [{ i := 2, n := byteAt s0 (Int.toNat i2) }, hT 3], r0] (by kernel_rfl) (P2 ((0 : Int) ≤ i2) h2<|P2 (i2 < (ByteArray.size s0 : Int)) h3<|P2 ((s0.data.toList[(Int.toNat i2)]?.map fun b => (b.toNat : Int)) = some ((byteAt s0 (Int.toNat i2) : Nat) : Int)) (byteAt_ok (by omega))<|P2 ((decide (((byteAt s0 (Int.toNat i2) : Nat) : Int) < 48)) = true) (decide_eq_true h4)<|P0))
  (fun h4 H =>
  eCk H fun h5 H =>
  eCk H fun h6 H =>
  eIf H (fun h7 H =>
  eN H<|gE func21 [rg [{ i := 2, n := byteAt s0 (Int.toNat i2) }, hF 3, { i := 7, n := byteAt s0 (Int.toNat i2) }, hT 8], r0] (by kernel_rfl) (P2 ((0 : Int) ≤ i2) h2<|P2 (i2 < (ByteArray.size s0 : Int)) h3<|P2 ((s0.data.toList[(Int.toNat i2)]?.map fun b => (b.toNat : Int)) = some ((byteAt s0 (Int.toNat i2) : Nat) : Int)) (byteAt_ok (by omega))<|P2 ((decide (((byteAt s0 (Int.toNat i2) : Nat) : Int) < 48)) = false) (decide_eq_false h4)<|P2 ((0 : Int) ≤ i2) h5<|P2 (i2 < (ByteArray.size s0 : Int)) h6<|P2 ((s0.data.toList[(Int.toNat i2)]?.map fun b => (b.toNat : Int)) = some ((byteAt s0 (Int.toNat i2) : Nat) : Int)) (byteAt_ok (by omega))<|P2 ((decide (((byteAt s0 (Int.toNat i2) : Nat) : Int) > 57)) = true) (decide_eq_true h7)<|P0))
  (fun h7 H =>
  eCk H fun h8 H =>
  eCk H fun h9 H =>
  eN H fun r hn => gO [rg [{ i := 2, n := byteAt s0 (Int.toNat i2) }, hF 3, { i := 7, n := byteAt s0 (Int.toNat i2) }, hF 8], rg [{ i := 4, n := byteAt s0 (Int.toNat i2) }], r0, .canon [] [0, 3, 4]] (by kernel_rfl) (P2 ((0 : Int) ≤ i2) h2<|P2 (i2 < (ByteArray.size s0 : Int)) h3<|P2 ((s0.data.toList[(Int.toNat i2)]?.map fun b => (b.toNat : Int)) = some ((byteAt s0 (Int.toNat i2) : Nat) : Int)) (byteAt_ok (by omega))<|P2 ((decide (((byteAt s0 (Int.toNat i2) : Nat) : Int) < 48)) = false) (decide_eq_false h4)<|P2 ((0 : Int) ≤ i2) h5<|P2 (i2 < (ByteArray.size s0 : Int)) h6<|P2 ((s0.data.toList[(Int.toNat i2)]?.map fun b => (b.toNat : Int)) = some ((byteAt s0 (Int.toNat i2) : Nat) : Int)) (byteAt_ok (by omega))<|P2 ((decide (((byteAt s0 (Int.toNat i2) : Nat) : Int) > 57)) = false) (decide_eq_false h7)<|P2 ((0 : Int) ≤ i2) h8<|P2 (i2 < (ByteArray.size s0 : Int)) h9<|P2 ((s0.data.toList[(Int.toNat i2)]?.map fun b => (b.toNat : Int)) = some ((byteAt s0 (Int.toNat i2) : Nat) : Int)) (byteAt_ok (by omega))<|P0) hn)))
  (fun h1 H =>
  eN H<|gE func21 [rg [hF 3], r0] (by kernel_rfl) (P2 ((decide (i2 < ((ByteArray.size s0 : Nat) : Int))) = false) (decide_eq_false h1)<|P0))
theorem ws_l1Read : ∀ s r, loop Bs_l1Read s = some r → Wc X 21 0 (Ks_l1Read s) (Zs_l1Read s) (RI r) ((fun _ => []) r) := Nx.all (ns_l1Read)
theorem cs_l1Read {a0 : ByteArray} {r : Int} (H : Ds_l1Read a0 = some r) : Ct X.P X.gl 21 [.str a0] [] (RI r) [] :=
 Ct.of func21 (c := bdy f21) (by kernel_rfl) (by kernel_rfl) <|
 eBind H fun r1 hr1 H =>
 gS [r0] (by kernel_rfl) P0 <|
 eIf H (fun h2 H =>
 eCk H fun h3 H =>
 eIf H (fun h4 H =>
 eIf H (fun h5 H =>
 eW RI (fun _ => []) H<|gE func21 [rg [{ i := 2, call := some { cl := true, auto := true, ins := [], res := (RB r1), G' := [] }, dec := some true }, { i := 6, n := byteAt a0 (Int.toNat 0) }, hT 7, hT 11], r0] (by kernel_rfl) (P1 (cs_l1In hr1)<|P2 (r1 = true) (h2)<|P2 ((0 : Int) ≤ 0) (by decide)<|P2 (0 < (ByteArray.size a0 : Int)) h3<|P2 ((a0.data.toList[(Int.toNat 0)]?.map fun b => (b.toNat : Int)) = some ((byteAt a0 (Int.toNat 0) : Nat) : Int)) (byteAt_ok (by omega))<|P2 (((((byteAt a0 (Int.toNat 0) : Nat) : Int) : Int) == 48) = true) (beqT h4)<|P2 ((decide (((ByteArray.size a0 : Nat) : Int) > 1)) = true) (decide_eq_true h5)<|P0))
 (fun h5 H =>
 gO [rg [{ i := 2, call := some { cl := true, auto := true, ins := [], res := (RB r1), G' := [] }, dec := some true }, { i := 6, n := byteAt a0 (Int.toNat 0) }, hT 7, hF 11], r0, r0, .canon [] [0, 3, 4]] (by kernel_rfl) (P1 (cs_l1In hr1)<|P2 (r1 = true) (h2)<|P2 ((0 : Int) ≤ 0) (by decide)<|P2 (0 < (ByteArray.size a0 : Int)) h3<|P2 ((a0.data.toList[(Int.toNat 0)]?.map fun b => (b.toNat : Int)) = some ((byteAt a0 (Int.toNat 0) : Nat) : Int)) (byteAt_ok (by omega))<|P2 (((((byteAt a0 (Int.toNat 0) : Nat) : Int) : Int) == 48) = true) (beqT h4)<|P2 ((decide (((ByteArray.size a0 : Nat) : Int) > 1)) = false) (decide_eq_false h5)<|P0) (ws_l1Read _ _ H)))
 (fun h4 H =>
 gO [rg [{ i := 2, call := some { cl := true, auto := true, ins := [], res := (RB r1), G' := [] }, dec := some true }, { i := 6, n := byteAt a0 (Int.toNat 0) }, hF 7], r0, r0, .canon [] [0, 3, 4]] (by kernel_rfl) (P1 (cs_l1In hr1)<|P2 (r1 = true) (h2)<|P2 ((0 : Int) ≤ 0) (by decide)<|P2 (0 < (ByteArray.size a0 : Int)) h3<|P2 ((a0.data.toList[(Int.toNat 0)]?.map fun b => (b.toNat : Int)) = some ((byteAt a0 (Int.toNat 0) : Nat) : Int)) (byteAt_ok (by omega))<|P2 (((((byteAt a0 (Int.toNat 0) : Nat) : Int) : Int) == 48) = false) (beqF h4)<|P0) (ws_l1Read _ _ H)))
 (fun h2 H =>
 eW RI (fun _ => []) H<|gE func21 [rg [{ i := 2, call := some { cl := true, auto := true, ins := [], res := (RB r1), G' := [] }, dec := some false }], r0] (by kernel_rfl) (P1 (cs_l1In hr1)<|P2 (r1 = false) (eqF h2)<|P0))
noncomputable def Ks_eDigits : Ss_eDigits → List Item
 | .h1 .. => nav 300 3 [] [.code (bdy f22)]
def Zs_eDigits : Ss_eDigits → St
 | .h1 s0 n1 i2 => ⟨sts 24 [(0, .str s0), (3, I n1), (4, I i2)], []⟩
abbrev Qs_eDigits := Nx X 22 0 Ks_eDigits Zs_eDigits RI (fun _ => [])
theorem ns_eDigits : ∀ s o, Bs_eDigits s = some o → Qs_eDigits (Ks_eDigits s) (Zs_eDigits s) o
 | .h1 s0 n1 i2, o, H =>
  eIf H (fun h1 H =>
  eIf H (fun h2 H =>
  eCk H fun h3 H =>
  eCk H fun h4 H =>
  eN H fun r hn => gO [rg [hT 3, hT 6], rg [{ i := 4, n := byteAt s0 (Int.toNat i2) }], r0, .canon [] [0, 3, 4]] (by kernel_rfl) (P2 ((decide (i2 < ((ByteArray.size s0 : Nat) : Int))) = true) (decide_eq_true h1)<|P2 ((decide (i2 < 19)) = true) (decide_eq_true h2)<|P2 ((0 : Int) ≤ i2) h3<|P2 (i2 < (ByteArray.size s0 : Int)) h4<|P2 ((s0.data.toList[(Int.toNat i2)]?.map fun b => (b.toNat : Int)) = some ((byteAt s0 (Int.toNat i2) : Nat) : Int)) (byteAt_ok (by omega))<|P0) hn)
  (fun h2 H =>
  eN H<|gE func22 [rg [hT 3, hF 6], r0] (by kernel_rfl) (P2 ((decide (i2 < ((ByteArray.size s0 : Nat) : Int))) = true) (decide_eq_true h1)<|P2 ((decide (i2 < 19)) = false) (decide_eq_false h2)<|P0)))
  (fun h1 H =>
  eN H<|gE func22 [rg [hF 3], r0] (by kernel_rfl) (P2 ((decide (i2 < ((ByteArray.size s0 : Nat) : Int))) = false) (decide_eq_false h1)<|P0))
theorem ws_eDigits : ∀ s r, loop Bs_eDigits s = some r → Wc X 22 0 (Ks_eDigits s) (Zs_eDigits s) (RI r) ((fun _ => []) r) := Nx.all (ns_eDigits)
theorem cs_eDigits {a0 : ByteArray} {r : Int} (H : Ds_eDigits a0 = some r) : Ct X.P X.gl 22 [.str a0] [] (RI r) [] :=
 Ct.of func22 (c := bdy f22) (by kernel_rfl) (by kernel_rfl) <|
 gO [r0, r0, r0, .canon [] [0, 3, 4]] (by kernel_rfl) P0 (ws_eDigits _ _ H)
theorem cs_dSeed {a0 : Int} {r : Bool} (H : Ds_dSeed a0 = some r) : Ct X.P X.gl 27 [I a0] [] (RB r) [] :=
 Ct.of func27 (c := bdy f27) (by kernel_rfl) (by kernel_rfl) <|
 eBind H fun r1 hr1 H =>
 eW RB (fun _ => []) H<|gE func27 [r0, rg [hC 1 true [] (RB r1) []]] (by kernel_rfl) (P1 (cs_l1In hr1)<|P0)
theorem cs_nKey {a0 : Gi_Mail} {r : Int} (H : Ds_nKey a0 = some r) : Ct X.P X.gl 28 [gi_Mail a0] [] (RI r) [] :=
 Ct.of func28 (c := bdy f28) (by kernel_rfl) (by kernel_rfl) <|
 eW RI (fun _ => []) H<|gE func28 [r0, r0] (by kernel_rfl) P0
noncomputable def Ks_nMails : Ss_nMails → List Item
 | .h1 .. => nav 300 2 [] [.code (bdy f14)]
def Zs_nMails : Ss_nMails → St
 | .h1 l0 t1 t2 t3 => ⟨sts 47 [(0, sl 3 gi_Mail l0), (5, sl 3 gi_Mail t1), (6, I t2), (7, I t3)], []⟩
abbrev Qs_nMails := Nx X 14 0 Ks_nMails Zs_nMails RB (fun _ => [])
theorem ns_nMails : ∀ s o, Bs_nMails s = some o → Qs_nMails (Ks_nMails s) (Zs_nMails s) o
 | .h1 l0 t1 t2 t3, o, H =>
  eIf H (fun h1 H =>
  eCk H fun h2 H =>
  eBind H fun x3 hx3 H =>
  eBind H fun r4 hr4 H =>
  gN [rg [hT 0], rg [hE 2 (gi_Mail x3)]] (by kernel_rfl) (P2 ((decide (t3 < t2)) = true) (decide_eq_true h1)<|P1 h2<|P1 (int_lt_of_at h2 hx3)<|P1 (at_map gi_Mail hx3)<|P0) <|
  eIf H (fun h5 H =>
  eBind H fun r6 hr6 H =>
  eIf H (fun h7 H =>
  eBind H fun r8 hr8 H =>
  eIf H (fun h9 H =>
  eIf H (fun h10 H =>
  eCk H fun h11 H =>
  eBind H fun x12 hx12 H =>
  eBind H fun r13 hr13 H =>
  eBind H fun r14 hr14 H =>
  eIf H (fun h15 H =>
  eN H<|gE func14 [rg [{ i := 2, call := some { cl := true, auto := true, ins := [], res := (RB r4), G' := [] }, dec := some true }, { i := 7, call := some { cl := true, auto := true, ins := [], res := (RB r6), G' := [] }, dec := some true }, { i := 13, call := some { cl := true, auto := true, ins := [], res := (RB r8), G' := [] }, dec := some true }, hT 18, hE 24 (gi_Mail x12), hC 25 true [] (RI r13) [], hC 27 true [] (RI r14) [], hT 28], r0] (by kernel_rfl) (P1 (cs_l1In hr4)<|P2 (r4 = true) (h5)<|P1 (cs_l1In hr6)<|P2 (r6 = true) (h7)<|P1 (cs_dSeed hr8)<|P2 (r8 = true) (h9)<|P2 ((decide (t3 > 0)) = true) (decide_eq_true h10)<|P1 h11<|P1 (int_lt_of_at h11 hx12)<|P1 (at_map gi_Mail hx12)<|P1 (cs_nKey hr13)<|P1 (cs_nKey hr14)<|P2 ((decide (r13 ≥ r14)) = true) (decide_eq_true h15)<|P0))
  (fun h15 H =>
  eN H fun r hn => gO [rg [{ i := 2, call := some { cl := true, auto := true, ins := [], res := (RB r4), G' := [] }, dec := some true }, { i := 7, call := some { cl := true, auto := true, ins := [], res := (RB r6), G' := [] }, dec := some true }, { i := 13, call := some { cl := true, auto := true, ins := [], res := (RB r8), G' := [] }, dec := some true }, hT 18, hE 24 (gi_Mail x12), hC 25 true [] (RI r13) [], hC 27 true [] (RI r14) [], hF 28], r0, .canon [] [0, 5, 6, 7]] (by kernel_rfl) (P1 (cs_l1In hr4)<|P2 (r4 = true) (h5)<|P1 (cs_l1In hr6)<|P2 (r6 = true) (h7)<|P1 (cs_dSeed hr8)<|P2 (r8 = true) (h9)<|P2 ((decide (t3 > 0)) = true) (decide_eq_true h10)<|P1 h11<|P1 (int_lt_of_at h11 hx12)<|P1 (at_map gi_Mail hx12)<|P1 (cs_nKey hr13)<|P1 (cs_nKey hr14)<|P2 ((decide (r13 ≥ r14)) = false) (decide_eq_false h15)<|P0) hn))
  (fun h10 H =>
  eN H fun r hn => gO [rg [{ i := 2, call := some { cl := true, auto := true, ins := [], res := (RB r4), G' := [] }, dec := some true }, { i := 7, call := some { cl := true, auto := true, ins := [], res := (RB r6), G' := [] }, dec := some true }, { i := 13, call := some { cl := true, auto := true, ins := [], res := (RB r8), G' := [] }, dec := some true }, hF 18], r0, .canon [] [0, 5, 6, 7]] (by kernel_rfl) (P1 (cs_l1In hr4)<|P2 (r4 = true) (h5)<|P1 (cs_l1In hr6)<|P2 (r6 = true) (h7)<|P1 (cs_dSeed hr8)<|P2 (r8 = true) (h9)<|P2 ((decide (t3 > 0)) = false) (decide_eq_false h10)<|P0) hn))
  (fun h9 H =>
  eN H<|gE func14 [rg [{ i := 2, call := some { cl := true, auto := true, ins := [], res := (RB r4), G' := [] }, dec := some true }, { i := 7, call := some { cl := true, auto := true, ins := [], res := (RB r6), G' := [] }, dec := some true }, { i := 13, call := some { cl := true, auto := true, ins := [], res := (RB r8), G' := [] }, dec := some false }], r0] (by kernel_rfl) (P1 (cs_l1In hr4)<|P2 (r4 = true) (h5)<|P1 (cs_l1In hr6)<|P2 (r6 = true) (h7)<|P1 (cs_dSeed hr8)<|P2 (r8 = false) (eqF h9)<|P0)))
  (fun h7 H =>
  eN H<|gE func14 [rg [{ i := 2, call := some { cl := true, auto := true, ins := [], res := (RB r4), G' := [] }, dec := some true }, { i := 7, call := some { cl := true, auto := true, ins := [], res := (RB r6), G' := [] }, dec := some false }], r0] (by kernel_rfl) (P1 (cs_l1In hr4)<|P2 (r4 = true) (h5)<|P1 (cs_l1In hr6)<|P2 (r6 = false) (eqF h7)<|P0)))
  (fun h5 H =>
  eN H<|gE func14 [rg [{ i := 2, call := some { cl := true, auto := true, ins := [], res := (RB r4), G' := [] }, dec := some false }], r0] (by kernel_rfl) (P1 (cs_l1In hr4)<|P2 (r4 = false) (eqF h5)<|P0)))
  (fun h1 H =>
  eN H<|gE func14 [rg [hF 0], r0] (by kernel_rfl) (P2 ((decide (t3 < t2)) = false) (decide_eq_false h1)<|P0))
theorem ws_nMails : ∀ s r, loop Bs_nMails s = some r → Wc X 14 0 (Ks_nMails s) (Zs_nMails s) (RB r) ((fun _ => []) r) := Nx.all (ns_nMails)
theorem cs_nMails {a0 : (List Gi_Mail)} {r : Bool} (H : Ds_nMails a0 = some r) : Ct X.P X.gl 14 [sl 3 gi_Mail a0] [] (RB r) [] :=
 Ct.of func14 (c := bdy f14) (by kernel_rfl) (by kernel_rfl) <|
 gO [r0, r0, .canon [] [0, 5, 6, 7]] (by kernel_rfl) P0 (ws_nMails _ _ H)
def Rs_l1Num (r : ByteArray) : List D := [.str r]
theorem ks_l1Num {rec_ : Int → Option (ByteArray)} (ih : ∀ (a0 : Int) (r : ByteArray), rec_ a0 = some r → Ct X.P X.gl 29 [I a0] [] (Rs_l1Num r) []) {a0 : Int} {r : ByteArray} (H : Fs_l1Num rec_ a0 = some r) : Ct X.P X.gl 29 [I a0] [] (Rs_l1Num r) [] :=
 Ct.of func29 (c := bdy f29) (by kernel_rfl) (by kernel_rfl) <|
 gS [r0] (by kernel_rfl) P0 <|
 eIf H (fun h1 H =>
 eCk H fun h2 H =>
 eW Rs_l1Num (fun _ => []) H<|gE func29 [rg [hT 1], rg [{ i := 4, s := (bytesOf [(IntKind.wrap .u8 (IntKind.wrap .i64 (48 + a0)))]) }]] (by kernel_rfl) (P2 ((decide (a0 < 10)) = true) (decide_eq_true h1)<|P1 (bytesD_of h2)<|P0))
 (fun h1 H =>
 eBind H fun r2 hr2 H =>
 eCk H fun h3 H =>
 eCk H fun h4 H =>
 eW Rs_l1Num (fun _ => []) H<|gE func29 [rg [hF 1], rg [hC 2 true [] (Rs_l1Num r2) [], { i := 8, s := (bytesOf [(IntKind.wrap .u8 (IntKind.wrap .i64 (48 + (Int.tmod a0 10))))]) }]] (by kernel_rfl) (P2 ((decide (a0 < 10)) = false) (decide_eq_false h1)<|P2 (¬ (10 : Int) = 0) (by decide)<|P1 (ih _ _ hr2)<|P2 (¬ (10 : Int) = 0) (by decide)<|P1 (bytesD_of h3)<|P1 h4<|P0))
theorem crs_l1Num : ∀ (n_ : Nat) (a0 : Int) (r : ByteArray), Ds_l1Num n_ a0 = some r → Ct X.P X.gl 29 [I a0] [] (Rs_l1Num r) []
 | 0, a0, r, H => nomatch (show (none : Option (ByteArray)) = some r from H)
 | n_ + 1, a0, r, H => ks_l1Num (crs_l1Num n_) H
theorem cs_l1Num {n_ : Nat} {a0 : Int} {r : ByteArray} (H : Ds_l1Num n_ a0 = some r) : Ct X.P X.gl 29 [I a0] [] (Rs_l1Num r) [] := crs_l1Num n_ a0 r H
def Rs_nText (r : ByteArray) : List D := [.str r]
noncomputable def Ks_nText : Ss_nText → List Item
 | .h1 .. => nav 300 3 [] [.code (bdy f15)]
def Zs_nText : Ss_nText → St
 | .h1 s0 t1 t2 t3 => ⟨sts 31 [(3, .str s0), (6, sl 3 gi_Mail t1), (7, I t2), (8, I t3)], []⟩
abbrev Qs_nText := Nx X 15 0 Ks_nText Zs_nText Rs_nText (fun _ => [])
theorem ns_nText : ∀ s o, Bs_nText s = some o → Qs_nText (Ks_nText s) (Zs_nText s) o
 | .h1 s0 t1 t2 t3, o, H =>
  eIf H (fun h1 H =>
  eCk H fun h2 H =>
  eBind H fun x3 hx3 H =>
  eBind H fun r4 hr4 H =>
  eCk H fun h5 H =>
  eCk H fun h6 H =>
  eBind H fun r7 hr7 H =>
  eCk H fun h8 H =>
  eCk H fun h9 H =>
  eBind H fun r10 hr10 H =>
  eCk H fun h11 H =>
  eCk H fun h12 H =>
  eCk H fun h13 H =>
  eN H fun r hn => gO [rg [hT 0], rg [hE 1 (gi_Mail x3)], rg [hC 3 true [] (Rs_l1Num r4) [], hC 8 true [] (Rs_l1Num r7) [], hC 13 true [] (Rs_l1Num r10) []], r0, .canon [] [3, 6, 7, 8]] (by kernel_rfl) (P2 ((decide (t3 < t2)) = true) (decide_eq_true h1)<|P1 h2<|P1 (int_lt_of_at h2 hx3)<|P1 (at_map gi_Mail hx3)<|P1 (cs_l1Num hr4)<|P1 h5<|P1 h6<|P1 (cs_l1Num hr7)<|P1 h8<|P1 h9<|P1 (cs_l1Num hr10)<|P1 h11<|P1 h12<|P1 h13<|P0) hn)
  (fun h1 H =>
  eN H<|gE func15 [rg [hF 0], r0] (by kernel_rfl) (P2 ((decide (t3 < t2)) = false) (decide_eq_false h1)<|P0))
theorem ws_nText : ∀ s r, loop Bs_nText s = some r → Wc X 15 0 (Ks_nText s) (Zs_nText s) (Rs_nText r) ((fun _ => []) r) := Nx.all (ns_nText)
theorem cs_nText {a0 : (List Gi_Mail)} {r : ByteArray} (H : Ds_nText a0 = some r) : Ct X.P X.gl 15 [sl 3 gi_Mail a0] [] (Rs_nText r) [] :=
 Ct.of func15 (c := bdy f15) (by kernel_rfl) (by kernel_rfl) <|
 gO [r0, r0, r0, .canon [] [3, 6, 7, 8]] (by kernel_rfl) P0 (ws_nText _ _ H)
def Rs_ParseMail (r : (List Gi_Mail) × Bool) : List D := [ow 3 gi_Mail r.1, .bool r.2]
noncomputable def Ks_ParseMail : Ss_ParseMail → List Item
 | .h1 .. => nav 300 4 [] [.code (bdy f10)]
def Zs_ParseMail : Ss_ParseMail → St
 | .h1 s0 t1 t2 l3 l4 => ⟨sts 60 [(0, .str s0), (4, .ref 0 3 none), (15, .ref 1 1 none), (16, I t1), (17, I t2)], [some ⟨false, false, 3, l3.length, List.map gi_Mail l3⟩, some ⟨false, false, 1, l4.length, List.map D.str l4⟩]⟩
abbrev Qs_ParseMail := Nx X 10 0 Ks_ParseMail Zs_ParseMail Rs_ParseMail (fun _ => [])
theorem ns_ParseMail : ∀ s o, Bs_ParseMail s = some o → Qs_ParseMail (Ks_ParseMail s) (Zs_ParseMail s) o
 | .h1 s0 t1 t2 l3 l4, o, H =>
  eIf H (fun h1 H =>
  eCk H fun h2 H =>
  eBind H fun x3 hx3 H =>
  eBind H fun r4 hr4 H =>
  gN [rg [hT 0], rg [hE 1 (D.str x3)], rg [hC 1 true [] (Rs_l1Split r4) []]] (by kernel_rfl) (P2 ((decide (t2 < t1)) = true) (decide_eq_true h1)<|P1 h2<|P1 (int_lt_of_at h2 hx3)<|P1 (at_map D.str hx3)<|P1 (cs_l1Split hr4)<|P0) <|
  eIf H (fun h5 H =>
  eBind H fun x6 hx6 H =>
  eIf H (fun h7 H =>
  eN H<|gE func10 [rg [hF 2, hE 6 (D.str x6), hT 8], r0] (by kernel_rfl) (P2 (((((r4.length : Nat) : Int) : Int) != 4) = false) (bneF h5)<|P2 ((0 : Int) ≤ 3) (by decide)<|P1 (int_lt_of_at (by decide : (0 : Int) ≤ 3) hx6)<|P1 (at_map D.str hx6)<|P2 ((decide (((ByteArray.size x6 : Nat) : Int) > 19)) = true) (decide_eq_true h7)<|P0))
  (fun h7 H =>
  eBind H fun x8 hx8 H =>
  eBind H fun r9 hr9 H =>
  eBind H fun x10 hx10 H =>
  eBind H fun r11 hr11 H =>
  eBind H fun x12 hx12 H =>
  eBind H fun r13 hr13 H =>
  eCk H fun h14 H =>
  eN H fun r hn => gO [rg [hF 2, hE 6 (D.str x6), hF 8], rg [hE 3 (D.str x8), hC 4 true [] (RI r9) [], hE 7 (D.str x10), hC 8 true [] (RI r11) [], hE 11 (D.str x12), hC 12 true [] (RI r13) [], hA 15 ((l3 ++ [(Gi_Mail.mk r9 r11 r13)]).length) (List.map gi_Mail (l3 ++ [(Gi_Mail.mk r9 r11 r13)]))], r0, .canon [4, 1] [0, 4, 15, 16, 17]] (by kernel_rfl) (P2 (((((r4.length : Nat) : Int) : Int) != 4) = false) (bneF h5)<|P2 ((0 : Int) ≤ 3) (by decide)<|P1 (int_lt_of_at (by decide : (0 : Int) ≤ 3) hx6)<|P1 (at_map D.str hx6)<|P2 ((decide (((ByteArray.size x6 : Nat) : Int) > 19)) = false) (decide_eq_false h7)<|P2 ((0 : Int) ≤ 1) (by decide)<|P1 (int_lt_of_at (by decide : (0 : Int) ≤ 1) hx8)<|P1 (at_map D.str hx8)<|P1 (cs_l1Read hr9)<|P2 ((0 : Int) ≤ 2) (by decide)<|P1 (int_lt_of_at (by decide : (0 : Int) ≤ 2) hx10)<|P1 (at_map D.str hx10)<|P1 (cs_l1Read hr11)<|P2 ((0 : Int) ≤ 3) (by decide)<|P1 (int_lt_of_at (by decide : (0 : Int) ≤ 3) hx12)<|P1 (at_map D.str hx12)<|P1 (cs_eDigits hr13)<|P1 (apL l3 [(Gi_Mail.mk r9 r11 r13)])<|P1 (apB h14)<|P1 (apM gi_Mail l3 [(Gi_Mail.mk r9 r11 r13)])<|P0) hn))
  (fun h5 H =>
  eN H<|gE func10 [rg [hT 2], r0] (by kernel_rfl) (P2 (((((r4.length : Nat) : Int) : Int) != 4) = true) (bneT h5)<|P0)))
  (fun h1 H =>
  eBind H fun r2 hr2 H =>
  gN [rg [hF 0]] (by kernel_rfl) (P2 ((decide (t2 < t1)) = false) (decide_eq_false h1)<|P0) <|
  eIf H (fun h3 H =>
  eBind H fun r4 hr4 H =>
  eIf H (fun h5 H =>
  eN H<|gE func10 [rg [{ i := 1, call := some { cl := false, auto := true, ins := [], res := (RB r2), G' := [] }, dec := some true }, hC 5 false [] (Rs_nText r4) [], hF 7], r0] (by kernel_rfl) (P1 (cs_nMails hr2)<|P2 (r2 = true) (h3)<|P1 (cs_nText hr4)<|P2 ((!(r4 == s0)) = false) (nbeqF h5)<|P0))
  (fun h5 H =>
  eN H<|gE func10 [rg [{ i := 1, call := some { cl := false, auto := true, ins := [], res := (RB r2), G' := [] }, dec := some true }, hC 5 false [] (Rs_nText r4) [], hT 7], r0] (by kernel_rfl) (P1 (cs_nMails hr2)<|P2 (r2 = true) (h3)<|P1 (cs_nText hr4)<|P2 ((!(r4 == s0)) = true) (nbeqT h5)<|P0)))
  (fun h3 H =>
  eN H<|gE func10 [rg [{ i := 1, call := some { cl := false, auto := true, ins := [], res := (RB r2), G' := [] }, dec := some false }], r0] (by kernel_rfl) (P1 (cs_nMails hr2)<|P2 (r2 = false) (eqF h3)<|P0)))
theorem ws_ParseMail : ∀ s r, loop Bs_ParseMail s = some r → Wc X 10 0 (Ks_ParseMail s) (Zs_ParseMail s) (Rs_ParseMail r) ((fun _ => []) r) := Nx.all (ns_ParseMail)
theorem cs_ParseMail {a0 : ByteArray} {r : (List Gi_Mail) × Bool} (H : Ds_ParseMail a0 = some r) : Ct X.P X.gl 10 [.str a0] [] (Rs_ParseMail r) [] :=
 Ct.of func10 (c := bdy f10) (by kernel_rfl) (by kernel_rfl) <|
 eBind H fun r1 hr1 H =>
 eCk H fun h2 H =>
 eCk H fun h3 H =>
 gO [r0, r0, rg [hC 1 true [] (Rs_l1Split r1) []], r0, .own 4 3, .view 15 (List.take ((Int.toNat (IntKind.wrap .i64 (((r1.length : Nat) : Int) - 1))) - 0) (List.drop 0 r1)).length (List.map D.str (List.take ((Int.toNat (IntKind.wrap .i64 (((r1.length : Nat) : Int) - 1))) - 0) (List.drop 0 r1))), .canon [1, 2] [0, 4, 15, 16, 17]] (by kernel_rfl) (P1 (cs_l1Split hr1)<|P2 ((0 : Int) ≤ (IntKind.wrap .i64 (((r1.length : Nat) : Int) - 1))) h2<|P2 (((IntKind.wrap .i64 (((r1.length : Nat) : Int) - 1)) : Int) ≤ ((r1.length : Nat) : Int)) h3<|P2 (((Int.toNat (IntKind.wrap .i64 (((r1.length : Nat) : Int) - 1))) - 0) = (List.take ((Int.toNat (IntKind.wrap .i64 (((r1.length : Nat) : Int) - 1))) - 0) (List.drop 0 r1)).length) (by first | (simp <;> omega) | (simp only [List.length_take, List.length_drop, List.length_nil] <;> omega))<|P2 (List.take ((Int.toNat (IntKind.wrap .i64 (((r1.length : Nat) : Int) - 1))) - 0) (List.drop 0 (List.map D.str r1)) = List.map D.str (List.take ((Int.toNat (IntKind.wrap .i64 (((r1.length : Nat) : Int) - 1))) - 0) (List.drop 0 r1))) (by rw [List.map_take, List.map_drop])<|P0) (ws_ParseMail _ _ H)
def Rstrings_Split (r : (List ByteArray)) : List D := [ow 1 D.str r]
theorem cstrings_Split {a0 : ByteArray} {a1 : ByteArray} {r : (List ByteArray)} (H : Dstrings_Split a0 a1 = some r) : Ct X.P X.gl 23 [.str a0, .str a1] [] (Rstrings_Split r) [] :=
 ct_split (P := X.P) (ρ := lays_n146_ren) lays_n146 ⟨f23, func23, by kernel_rfl, by kernel_rfl⟩ H
def Rstrconv_Atoi (r : (Int × Bool)) : List D := [I r.1, .ifc r.2]
theorem cstrconv_Atoi {a0 : ByteArray} {r : (Int × Bool)} (H : Dstrconv_Atoi a0 = some r) : Ct X.P X.gl 25 [.str a0] [] (Rstrconv_Atoi r) [] :=
 ct_atoi (P := X.P) (ρ := lays_n172_ren) lays_n172 ⟨f25, func25, by kernel_rfl, by kernel_rfl⟩ (W1 := 1) (W2 := 1) (by kernel_rfl) (by kernel_rfl) H
def Rstrconv_Itoa (r : ByteArray) : List D := [.str r]
theorem cstrconv_Itoa {a0 : Int} {r : ByteArray} (H : Dstrconv_Itoa a0 = some r) : Ct X.P X.gl 36 [I a0] [] (Rstrconv_Itoa r) [] :=
 eCk H fun h H => eRet (P := fun r => Ct X.P X.gl 36 [I a0] [] (Rstrconv_Itoa r) []) H<|ct_itoa (P := X.P) (ρ := lays_n171_ren) lays_n171 ⟨f36, func36, by kernel_rfl, by kernel_rfl⟩ (g := 5) (W := 20) (by kernel_rfl) (by kernel_rfl) h
def Ri_readInt (r : Int × Bool) : List D := [I r.1, .bool r.2]
theorem ci_readInt {a0 : ByteArray} {r : Int × Bool} (H : Di_readInt a0 = some r) : Ct X.P X.gl 24 [.str a0] [] (Ri_readInt r) [] :=
 have H := (Di_readInt.eq_1 ..).symm.trans H
 Ct.of func24 (c := bdy f24) (by kernel_rfl) (by kernel_rfl) <|
 eBind H fun r1 hr1 H =>
 gS [r0, rg [hC 1 true [] (Rstrconv_Atoi r1) []]] (by kernel_rfl) (P1 (cstrconv_Atoi hr1)<|P0) <|
 eIf H (fun h2 H =>
 eW Ri_readInt (fun _ => []) H<|gE func24 [rg [hT 1], r0] (by kernel_rfl) (P2 (r1.2 = true) (h2)<|P0))
 (fun h2 H =>
 eIf H (fun h3 H =>
 eW Ri_readInt (fun _ => []) H<|gE func24 [rg [hF 1, hT 5], r0] (by kernel_rfl) (P2 (r1.2 = false) (eqF h2)<|P2 ((decide (((ByteArray.size a0 : Nat) : Int) > 10)) = true) (decide_eq_true h3)<|P0))
 (fun h3 H =>
 eBind H fun r4 hr4 H =>
 eIf H (fun h5 H =>
 eW Ri_readInt (fun _ => []) H<|gE func24 [rg [hF 1, hF 5, hC 9 true [] (Rstrconv_Itoa r4) [], hF 11], r0] (by kernel_rfl) (P2 (r1.2 = false) (eqF h2)<|P2 ((decide (((ByteArray.size a0 : Nat) : Int) > 10)) = false) (decide_eq_false h3)<|P1 (cstrconv_Itoa hr4)<|P2 ((!(r4 == a0)) = false) (nbeqF h5)<|P0))
 (fun h5 H =>
 eW Ri_readInt (fun _ => []) H<|gE func24 [rg [hF 1, hF 5, hC 9 true [] (Rstrconv_Itoa r4) [], hT 11], r0] (by kernel_rfl) (P2 (r1.2 = false) (eqF h2)<|P2 ((decide (((ByteArray.size a0 : Nat) : Int) > 10)) = false) (decide_eq_false h3)<|P1 (cstrconv_Itoa hr4)<|P2 ((!(r4 == a0)) = true) (nbeqT h5)<|P0))))
theorem ci_inRange {a0 : Int} {a1 : Int} {a2 : Int} {r : Bool} (H : Di_inRange a0 a1 a2 = some r) : Ct X.P X.gl 39 [I a0, I a1, I a2] [] (RB r) [] :=
 Ct.of func39 (c := bdy f39) (by kernel_rfl) (by kernel_rfl) <|
 gS [r0] (by kernel_rfl) P0 <|
 eIf H (fun h1 H =>
 eW RB (fun _ => []) H<|gE func39 [rg [hT 2]] (by kernel_rfl) (P2 ((decide (a1 ≤ a0)) = true) (decide_eq_true h1)<|P0))
 (fun h1 H =>
 eW RB (fun _ => []) H<|gE func39 [rg [hF 2]] (by kernel_rfl) (P2 ((decide (a1 ≤ a0)) = false) (decide_eq_false h1)<|P0))
theorem ci_isTurn {a0 : Int} {r : Bool} (H : Di_isTurn a0 = some r) : Ct X.P X.gl 30 [I a0] [] (RB r) [] :=
 Ct.of func30 (c := bdy f30) (by kernel_rfl) (by kernel_rfl) <|
 eBind H fun r1 hr1 H =>
 eW RB (fun _ => []) H<|gE func30 [r0, rg [hC 1 true [] (RB r1) []]] (by kernel_rfl) (P1 (ci_inRange hr1)<|P0)
theorem ci_isSide {a0 : Int} {r : Bool} (H : Di_isSide a0 = some r) : Ct X.P X.gl 31 [I a0] [] (RB r) [] :=
 Ct.of func31 (c := bdy f31) (by kernel_rfl) (by kernel_rfl) <|
 eBind H fun r1 hr1 H =>
 eW RB (fun _ => []) H<|gE func31 [r0, rg [hC 1 true [] (RB r1) []]] (by kernel_rfl) (P1 (ci_inRange hr1)<|P0)
theorem ci_isSeed {a0 : Int} {r : Bool} (H : Di_isSeed a0 = some r) : Ct X.P X.gl 32 [I a0] [] (RB r) [] :=
 Ct.of func32 (c := bdy f32) (by kernel_rfl) (by kernel_rfl) <|
 eBind H fun r1 hr1 H =>
 eW RB (fun _ => []) H<|gE func32 [r0, rg [hC 1 true [] (RB r1) []]] (by kernel_rfl) (P1 (ci_inRange hr1)<|P0)
theorem ci_compareMails {a0 : Gi_Mail} {a1 : Gi_Mail} {r : Int} (H : Di_compareMails a0 a1 = some r) : Ct X.P X.gl 33 [gi_Mail a0, gi_Mail a1] [] (RI r) [] :=
 Ct.of func33 (c := bdy f33) (by kernel_rfl) (by kernel_rfl) <|
 gS [r0] (by kernel_rfl) P0 <|
 eIf H (fun h1 H =>
 eW RI (fun _ => []) H<|gE func33 [rg [hF 4], r0] (by kernel_rfl) (P2 (((a0.Turn : Int) != a1.Turn) = false) (bneF h1)<|P0))
 (fun h1 H =>
 eW RI (fun _ => []) H<|gE func33 [rg [hT 4], r0] (by kernel_rfl) (P2 (((a0.Turn : Int) != a1.Turn) = true) (bneT h1)<|P0))
noncomputable def Ki_IsMailbox : Si_IsMailbox → List Item
 | .h1 .. => nav 300 3 [false] [.code (bdy f17)]
def Zi_IsMailbox : Si_IsMailbox → St
 | .h1 l0 t1 t2 t3 => ⟨sts 46 [(0, sl 3 gi_Mail l0), (8, sl 3 gi_Mail t1), (9, I t2), (10, I t3)], []⟩
abbrev Qi_IsMailbox := Nx X 17 0 Ki_IsMailbox Zi_IsMailbox RB (fun _ => [])
theorem ni_IsMailbox : ∀ s o, Bi_IsMailbox s = some o → Qi_IsMailbox (Ki_IsMailbox s) (Zi_IsMailbox s) o
 | .h1 l0 t1 t2 t3, o, H =>
  eIf H (fun h1 H =>
  eCk H fun h2 H =>
  eBind H fun x3 hx3 H =>
  eBind H fun r4 hr4 H =>
  gN [rg [hT 0], rg [hE 2 (gi_Mail x3)]] (by kernel_rfl) (P2 ((decide (t3 < t2)) = true) (decide_eq_true h1)<|P1 h2<|P1 (int_lt_of_at h2 hx3)<|P1 (at_map gi_Mail hx3)<|P0) <|
  eIf H (fun h5 H =>
  eBind H fun r6 hr6 H =>
  eIf H (fun h7 H =>
  eBind H fun r8 hr8 H =>
  eIf H (fun h9 H =>
  eIf H (fun h10 H =>
  eCk H fun h11 H =>
  eBind H fun x12 hx12 H =>
  eBind H fun r13 hr13 H =>
  eIf H (fun h14 H =>
  eN H<|gE func17 [rg [{ i := 2, call := some { cl := true, auto := true, ins := [], res := (RB r4), G' := [] }, dec := some true }, { i := 7, call := some { cl := true, auto := true, ins := [], res := (RB r6), G' := [] }, dec := some true }, { i := 13, call := some { cl := true, auto := true, ins := [], res := (RB r8), G' := [] }, dec := some true }, hT 18, hE 24 (gi_Mail x12), hC 26 true [] (RI r13) [], hT 27], r0] (by kernel_rfl) (P1 (ci_isTurn hr4)<|P2 (r4 = true) (h5)<|P1 (ci_isSide hr6)<|P2 (r6 = true) (h7)<|P1 (ci_isSeed hr8)<|P2 (r8 = true) (h9)<|P2 ((decide (t3 > 0)) = true) (decide_eq_true h10)<|P1 h11<|P1 (int_lt_of_at h11 hx12)<|P1 (at_map gi_Mail hx12)<|P1 (ci_compareMails hr13)<|P2 ((decide (r13 ≥ 0)) = true) (decide_eq_true h14)<|P0))
  (fun h14 H =>
  eN H fun r hn => gO [rg [{ i := 2, call := some { cl := true, auto := true, ins := [], res := (RB r4), G' := [] }, dec := some true }, { i := 7, call := some { cl := true, auto := true, ins := [], res := (RB r6), G' := [] }, dec := some true }, { i := 13, call := some { cl := true, auto := true, ins := [], res := (RB r8), G' := [] }, dec := some true }, hT 18, hE 24 (gi_Mail x12), hC 26 true [] (RI r13) [], hF 27], r0, .canon [] [0, 8, 9, 10]] (by kernel_rfl) (P1 (ci_isTurn hr4)<|P2 (r4 = true) (h5)<|P1 (ci_isSide hr6)<|P2 (r6 = true) (h7)<|P1 (ci_isSeed hr8)<|P2 (r8 = true) (h9)<|P2 ((decide (t3 > 0)) = true) (decide_eq_true h10)<|P1 h11<|P1 (int_lt_of_at h11 hx12)<|P1 (at_map gi_Mail hx12)<|P1 (ci_compareMails hr13)<|P2 ((decide (r13 ≥ 0)) = false) (decide_eq_false h14)<|P0) hn))
  (fun h10 H =>
  eN H fun r hn => gO [rg [{ i := 2, call := some { cl := true, auto := true, ins := [], res := (RB r4), G' := [] }, dec := some true }, { i := 7, call := some { cl := true, auto := true, ins := [], res := (RB r6), G' := [] }, dec := some true }, { i := 13, call := some { cl := true, auto := true, ins := [], res := (RB r8), G' := [] }, dec := some true }, hF 18], r0, .canon [] [0, 8, 9, 10]] (by kernel_rfl) (P1 (ci_isTurn hr4)<|P2 (r4 = true) (h5)<|P1 (ci_isSide hr6)<|P2 (r6 = true) (h7)<|P1 (ci_isSeed hr8)<|P2 (r8 = true) (h9)<|P2 ((decide (t3 > 0)) = false) (decide_eq_false h10)<|P0) hn))
  (fun h9 H =>
  eN H<|gE func17 [rg [{ i := 2, call := some { cl := true, auto := true, ins := [], res := (RB r4), G' := [] }, dec := some true }, { i := 7, call := some { cl := true, auto := true, ins := [], res := (RB r6), G' := [] }, dec := some true }, { i := 13, call := some { cl := true, auto := true, ins := [], res := (RB r8), G' := [] }, dec := some false }], r0] (by kernel_rfl) (P1 (ci_isTurn hr4)<|P2 (r4 = true) (h5)<|P1 (ci_isSide hr6)<|P2 (r6 = true) (h7)<|P1 (ci_isSeed hr8)<|P2 (r8 = false) (eqF h9)<|P0)))
  (fun h7 H =>
  eN H<|gE func17 [rg [{ i := 2, call := some { cl := true, auto := true, ins := [], res := (RB r4), G' := [] }, dec := some true }, { i := 7, call := some { cl := true, auto := true, ins := [], res := (RB r6), G' := [] }, dec := some false }], r0] (by kernel_rfl) (P1 (ci_isTurn hr4)<|P2 (r4 = true) (h5)<|P1 (ci_isSide hr6)<|P2 (r6 = false) (eqF h7)<|P0)))
  (fun h5 H =>
  eN H<|gE func17 [rg [{ i := 2, call := some { cl := true, auto := true, ins := [], res := (RB r4), G' := [] }, dec := some false }], r0] (by kernel_rfl) (P1 (ci_isTurn hr4)<|P2 (r4 = false) (eqF h5)<|P0)))
  (fun h1 H =>
  eN H<|gE func17 [rg [hF 0], r0] (by kernel_rfl) (P2 ((decide (t3 < t2)) = false) (decide_eq_false h1)<|P0))
theorem wi_IsMailbox : ∀ s r, loop Bi_IsMailbox s = some r → Wc X 17 0 (Ki_IsMailbox s) (Zi_IsMailbox s) (RB r) ((fun _ => []) r) := Nx.all (ni_IsMailbox)
theorem ci_IsMailbox {a0 : (List Gi_Mail)} {r : Bool} (H : Di_IsMailbox a0 = some r) : Ct X.P X.gl 17 [sl 3 gi_Mail a0] [] (RB r) [] :=
 Ct.of func17 (c := bdy f17) (by kernel_rfl) (by kernel_rfl) <|
 gS [r0] (by kernel_rfl) P0 <|
 eIf H (fun h1 H =>
 eW RB (fun _ => []) H<|gE func17 [rg [hT 2], r0] (by kernel_rfl) (P2 ((decide (((a0.length : Nat) : Int) > 20)) = true) (decide_eq_true h1)<|P0))
 (fun h1 H =>
 gO [rg [hF 2], r0, .canon [] [0, 8, 9, 10]] (by kernel_rfl) (P2 ((decide (((a0.length : Nat) : Int) > 20)) = false) (decide_eq_false h1)<|P0) (wi_IsMailbox _ _ H))
def Rstrings_Join (r : ByteArray) : List D := [.str r]
theorem cstrings_Join {a0 : (List ByteArray)} {a1 : ByteArray} {r : ByteArray} (H : Dstrings_Join a0 a1 = some r) : Ct X.P X.gl 40 [sl 1 D.str a0, .str a1] [] (Rstrings_Join r) [] :=
 eCk H fun h H => eRet (P := fun r => Ct X.P X.gl 40 [sl 1 D.str a0, .str a1] [] (Rstrings_Join r) []) H<|ct_join (P := X.P) (ρ := lays_n156_ren) lays_n156 lays_Extra ⟨f40, func40, by kernel_rfl, by kernel_rfl⟩ h
def Ri_wordsText (r : ByteArray) : List D := [.str r]
noncomputable def Ki_wordsText : Si_wordsText → List Item
 | .h1 .. => nav 300 3 [] [.code (bdy f34)]
def Zi_wordsText : Si_wordsText → St
 | .h1 t0 t1 t2 l3 => ⟨sts 24 [(5, .ref 0 1 none), (10, sl 1 I t0), (11, I t1), (12, I t2)], [some ⟨false, false, 1, l3.length, List.map D.str l3⟩]⟩
abbrev Qi_wordsText := Nx X 34 0 Ki_wordsText Zi_wordsText Ri_wordsText (fun _ => [])
theorem ni_wordsText : ∀ s o, Bi_wordsText s = some o → Qi_wordsText (Ki_wordsText s) (Zi_wordsText s) o
 | .h1 t0 t1 t2 l3, o, H =>
  eIf H (fun h1 H =>
  eCk H fun h2 H =>
  eBind H fun x3 hx3 H =>
  eBind H fun r4 hr4 H =>
  eCk H fun h5 H =>
  eN H fun r hn => gO [rg [hT 0], rg [hE 1 (I x3)], rg [hC 2 true [] (Rstrconv_Itoa r4) [], hA 4 ((l3 ++ [r4]).length) (List.map D.str (l3 ++ [r4]))], r0, .canon [2] [5, 10, 11, 12]] (by kernel_rfl) (P2 ((decide (t2 < t1)) = true) (decide_eq_true h1)<|P1 h2<|P1 (int_lt_of_at h2 hx3)<|P1 (at_map I hx3)<|P1 (cstrconv_Itoa hr4)<|P1 (apL l3 [r4])<|P1 (apB h5)<|P1 (apM D.str l3 [r4])<|P0) hn)
  (fun h1 H =>
  eBind H fun r2 hr2 H =>
  eN H<|gE func34 [rg [hF 0], rg [hC 1 false [] (Rstrings_Join r2) []]] (by kernel_rfl) (P2 ((decide (t2 < t1)) = false) (decide_eq_false h1)<|P1 (cstrings_Join hr2)<|P0))
theorem wi_wordsText : ∀ s r, loop Bi_wordsText s = some r → Wc X 34 0 (Ki_wordsText s) (Zi_wordsText s) (Ri_wordsText r) ((fun _ => []) r) := Nx.all (ni_wordsText)
theorem ci_wordsText {a0 : ByteArray} {a1 : (List Int)} {r : ByteArray} (H : Di_wordsText a0 a1 = some r) : Ct X.P X.gl 34 [.str a0, sl 1 I a1] [] (Ri_wordsText r) [] :=
 Ct.of func34 (c := bdy f34) (by kernel_rfl) (by kernel_rfl) <|
 gO [r0, r0, r0, .canon [0] [5, 10, 11, 12]] (by kernel_rfl) P0 (wi_wordsText _ _ H)
def Ri_mailText (r : ByteArray) : List D := [.str r]
noncomputable def Ki_mailText : Si_mailText → List Item
 | .h1 .. => nav 300 3 [] [.code (bdy f18)]
def Zi_mailText : Si_mailText → St
 | .h1 out0 t1 t2 t3 => ⟨sts 25 [(3, .str out0), (6, sl 3 gi_Mail t1), (7, I t2), (8, I t3)], []⟩
abbrev Qi_mailText := Nx X 18 0 Ki_mailText Zi_mailText Ri_mailText (fun _ => [])
theorem ni_mailText : ∀ s o, Bi_mailText s = some o → Qi_mailText (Ki_mailText s) (Zi_mailText s) o
 | .h1 out0 t1 t2 t3, o, H =>
  eIf H (fun h1 H =>
  eCk H fun h2 H =>
  eBind H fun x3 hx3 H =>
  eBind H fun r4 hr4 H =>
  eCk H fun h5 H =>
  eCk H fun h6 H =>
  eN H fun r hn => gO [rg [hT 0], rg [hE 1 (gi_Mail x3)], rg [hC 8 false [] (Ri_wordsText r4) []], r0, .canon [] [3, 6, 7, 8]] (by kernel_rfl) (P2 ((decide (t3 < t2)) = true) (decide_eq_true h1)<|P1 h2<|P1 (int_lt_of_at h2 hx3)<|P1 (at_map gi_Mail hx3)<|P1 (ci_wordsText hr4)<|P1 h5<|P1 h6<|P0) hn)
  (fun h1 H =>
  eN H<|gE func18 [rg [hF 0], r0] (by kernel_rfl) (P2 ((decide (t3 < t2)) = false) (decide_eq_false h1)<|P0))
theorem wi_mailText : ∀ s r, loop Bi_mailText s = some r → Wc X 18 0 (Ki_mailText s) (Zi_mailText s) (Ri_mailText r) ((fun _ => []) r) := Nx.all (ni_mailText)
theorem ci_mailText {a0 : (List Gi_Mail)} {r : ByteArray} (H : Di_mailText a0 = some r) : Ct X.P X.gl 18 [sl 3 gi_Mail a0] [] (Ri_mailText r) [] :=
 Ct.of func18 (c := bdy f18) (by kernel_rfl) (by kernel_rfl) <|
 gO [r0, r0, r0, .canon [] [3, 6, 7, 8]] (by kernel_rfl) P0 (wi_mailText _ _ H)
def Ri_ParseMail (r : (List Gi_Mail) × Bool) : List D := [ow 3 gi_Mail r.1, .bool r.2]
noncomputable def Ki_ParseMail : Si_ParseMail → List Item
 | .h1 .. => nav 300 4 [] [.code (bdy f11)]
def Zi_ParseMail : Si_ParseMail → St
 | .h1 s0 t1 t2 l3 l4 => ⟨sts 87 [(0, .str s0), (5, .ref 0 3 none), (22, .ref 1 1 none), (23, I t1), (24, I t2)], [some ⟨false, false, 3, l3.length, List.map gi_Mail l3⟩, some ⟨false, false, 1, l4.length, List.map D.str l4⟩]⟩
abbrev Qi_ParseMail := Nx X 11 0 Ki_ParseMail Zi_ParseMail Ri_ParseMail (fun _ => [])
theorem ni_ParseMail : ∀ s o, Bi_ParseMail s = some o → Qi_ParseMail (Ki_ParseMail s) (Zi_ParseMail s) o
 | .h1 s0 t1 t2 l3 l4, o, H =>
  eIf H (fun h1 H =>
  eCk H fun h2 H =>
  eBind H fun x3 hx3 H =>
  eBind H fun r4 hr4 H =>
  gN [rg [hT 0], rg [hE 1 (D.str x3)], rg [hC 1 true [] (Rstrings_Split r4) []]] (by kernel_rfl) (P2 ((decide (t2 < t1)) = true) (decide_eq_true h1)<|P1 h2<|P1 (int_lt_of_at h2 hx3)<|P1 (at_map D.str hx3)<|P1 (cstrings_Split hr4)<|P0) <|
  eIf H (fun h5 H =>
  eIf H (fun h6 H =>
  eN H<|gE func11 [rg [hF 2, hT 6], r0] (by kernel_rfl) (P2 (((((r4.length : Nat) : Int) : Int) != 4) = false) (bneF h5)<|P2 (((((l3.length : Nat) : Int) : Int) == 20) = true) (beqT h6)<|P0))
  (fun h6 H =>
  eBind H fun x7 hx7 H =>
  eBind H fun r8 hr8 H =>
  gN [rg [hF 2, hF 6]] (by kernel_rfl) (P2 (((((r4.length : Nat) : Int) : Int) != 4) = false) (bneF h5)<|P2 (((((l3.length : Nat) : Int) : Int) == 20) = false) (beqF h6)<|P0) <|
  eIf H (fun h9 H =>
  eBind H fun x10 hx10 H =>
  eBind H fun r11 hr11 H =>
  gN [rg [hE 2 (D.str x7), hC 3 true [] (Ri_readInt r8) [], hT 6]] (by kernel_rfl) (P2 ((0 : Int) ≤ 1) (by decide)<|P1 (int_lt_of_at (by decide : (0 : Int) ≤ 1) hx7)<|P1 (at_map D.str hx7)<|P1 (ci_readInt hr8)<|P2 (r8.2 = true) (h9)<|P0) <|
  eIf H (fun h12 H =>
  eBind H fun x13 hx13 H =>
  eBind H fun r14 hr14 H =>
  gN [rg [hE 2 (D.str x10), hC 3 true [] (Ri_readInt r11) [], hT 6], rg [hE 2 (D.str x13), hC 3 true [] (Rstrconv_Atoi r14) []]] (by kernel_rfl) (P2 ((0 : Int) ≤ 2) (by decide)<|P1 (int_lt_of_at (by decide : (0 : Int) ≤ 2) hx10)<|P1 (at_map D.str hx10)<|P1 (ci_readInt hr11)<|P2 (r11.2 = true) (h12)<|P2 ((0 : Int) ≤ 3) (by decide)<|P1 (int_lt_of_at (by decide : (0 : Int) ≤ 3) hx13)<|P1 (at_map D.str hx13)<|P1 (cstrconv_Atoi hr14)<|P0) <|
  eIf H (fun h15 H =>
  eN H<|gE func11 [rg [hT 8], r0] (by kernel_rfl) (P2 (r14.2 = true) (h15)<|P0))
  (fun h15 H =>
  eCk H fun h16 H =>
  eN H fun r hn => gO [rg [hF 8], rg [hA 6 ((l3 ++ [(Gi_Mail.mk r8.1 r11.1 r14.1)]).length) (List.map gi_Mail (l3 ++ [(Gi_Mail.mk r8.1 r11.1 r14.1)]))], r0, .canon [4, 1] [0, 5, 22, 23, 24]] (by kernel_rfl) (P2 (r14.2 = false) (eqF h15)<|P1 (apL l3 [(Gi_Mail.mk r8.1 r11.1 r14.1)])<|P1 (apB h16)<|P1 (apM gi_Mail l3 [(Gi_Mail.mk r8.1 r11.1 r14.1)])<|P0) hn))
  (fun h12 H =>
  eBind H fun x13 hx13 H =>
  eBind H fun r14 hr14 H =>
  eN H<|gE func11 [rg [hE 2 (D.str x10), hC 3 true [] (Ri_readInt r11) [], hF 6], rg [hE 2 (D.str x13), hC 3 true [] (Rstrconv_Atoi r14) []], r0, r0] (by kernel_rfl) (P2 ((0 : Int) ≤ 2) (by decide)<|P1 (int_lt_of_at (by decide : (0 : Int) ≤ 2) hx10)<|P1 (at_map D.str hx10)<|P1 (ci_readInt hr11)<|P2 (r11.2 = false) (eqF h12)<|P2 ((0 : Int) ≤ 3) (by decide)<|P1 (int_lt_of_at (by decide : (0 : Int) ≤ 3) hx13)<|P1 (at_map D.str hx13)<|P1 (cstrconv_Atoi hr14)<|P0)))
  (fun h9 H =>
  eBind H fun x10 hx10 H =>
  eBind H fun r11 hr11 H =>
  eBind H fun x12 hx12 H =>
  eBind H fun r13 hr13 H =>
  eN H<|gE func11 [rg [hE 2 (D.str x7), hC 3 true [] (Ri_readInt r8) [], hF 6], rg [hE 2 (D.str x10), hC 3 true [] (Ri_readInt r11) []], rg [hE 2 (D.str x12), hC 3 true [] (Rstrconv_Atoi r13) []], r0, r0] (by kernel_rfl) (P2 ((0 : Int) ≤ 1) (by decide)<|P1 (int_lt_of_at (by decide : (0 : Int) ≤ 1) hx7)<|P1 (at_map D.str hx7)<|P1 (ci_readInt hr8)<|P2 (r8.2 = false) (eqF h9)<|P2 ((0 : Int) ≤ 2) (by decide)<|P1 (int_lt_of_at (by decide : (0 : Int) ≤ 2) hx10)<|P1 (at_map D.str hx10)<|P1 (ci_readInt hr11)<|P2 ((0 : Int) ≤ 3) (by decide)<|P1 (int_lt_of_at (by decide : (0 : Int) ≤ 3) hx12)<|P1 (at_map D.str hx12)<|P1 (cstrconv_Atoi hr13)<|P0))))
  (fun h5 H =>
  eN H<|gE func11 [rg [hT 2], r0] (by kernel_rfl) (P2 (((((r4.length : Nat) : Int) : Int) != 4) = true) (bneT h5)<|P0)))
  (fun h1 H =>
  eBind H fun r2 hr2 H =>
  gN [rg [hF 0]] (by kernel_rfl) (P2 ((decide (t2 < t1)) = false) (decide_eq_false h1)<|P0) <|
  eIf H (fun h3 H =>
  eBind H fun r4 hr4 H =>
  eIf H (fun h5 H =>
  eN H<|gE func11 [rg [{ i := 1, call := some { cl := false, auto := true, ins := [], res := (RB r2), G' := [] }, dec := some true }, hC 5 false [] (Ri_mailText r4) [], hF 7], r0] (by kernel_rfl) (P1 (ci_IsMailbox hr2)<|P2 (r2 = true) (h3)<|P1 (ci_mailText hr4)<|P2 ((!(r4 == s0)) = false) (nbeqF h5)<|P0))
  (fun h5 H =>
  eN H<|gE func11 [rg [{ i := 1, call := some { cl := false, auto := true, ins := [], res := (RB r2), G' := [] }, dec := some true }, hC 5 false [] (Ri_mailText r4) [], hT 7], r0] (by kernel_rfl) (P1 (ci_IsMailbox hr2)<|P2 (r2 = true) (h3)<|P1 (ci_mailText hr4)<|P2 ((!(r4 == s0)) = true) (nbeqT h5)<|P0)))
  (fun h3 H =>
  eN H<|gE func11 [rg [{ i := 1, call := some { cl := false, auto := true, ins := [], res := (RB r2), G' := [] }, dec := some false }], r0] (by kernel_rfl) (P1 (ci_IsMailbox hr2)<|P2 (r2 = false) (eqF h3)<|P0)))
theorem wi_ParseMail : ∀ s r, loop Bi_ParseMail s = some r → Wc X 11 0 (Ki_ParseMail s) (Zi_ParseMail s) (Ri_ParseMail r) ((fun _ => []) r) := Nx.all (ni_ParseMail)
theorem ci_ParseMail {a0 : ByteArray} {r : (List Gi_Mail) × Bool} (H : Di_ParseMail a0 = some r) : Ct X.P X.gl 11 [.str a0] [] (Ri_ParseMail r) [] :=
 have H := (Di_ParseMail.eq_1 ..).symm.trans H
 Ct.of func11 (c := bdy f11) (by kernel_rfl) (by kernel_rfl) <|
 eBind H fun r1 hr1 H =>
 eCk H fun h2 H =>
 eCk H fun h3 H =>
 gO [r0, rg [hC 1 true [] (Rstrings_Split r1) []], r0, r0, .view 22 (List.take ((Int.toNat (IntKind.wrap .i64 (((r1.length : Nat) : Int) - 1))) - 0) (List.drop 0 r1)).length (List.map D.str (List.take ((Int.toNat (IntKind.wrap .i64 (((r1.length : Nat) : Int) - 1))) - 0) (List.drop 0 r1))), .canon [1, 2] [0, 5, 22, 23, 24]] (by kernel_rfl) (P1 (cstrings_Split hr1)<|P2 ((0 : Int) ≤ (IntKind.wrap .i64 (((r1.length : Nat) : Int) - 1))) h2<|P2 (((IntKind.wrap .i64 (((r1.length : Nat) : Int) - 1)) : Int) ≤ ((r1.length : Nat) : Int)) h3<|P2 (((Int.toNat (IntKind.wrap .i64 (((r1.length : Nat) : Int) - 1))) - 0) = (List.take ((Int.toNat (IntKind.wrap .i64 (((r1.length : Nat) : Int) - 1))) - 0) (List.drop 0 r1)).length) (by first | (simp <;> omega) | (simp only [List.length_take, List.length_drop, List.length_nil] <;> omega))<|P2 (List.take ((Int.toNat (IntKind.wrap .i64 (((r1.length : Nat) : Int) - 1))) - 0) (List.drop 0 (List.map D.str r1)) = List.map D.str (List.take ((Int.toNat (IntKind.wrap .i64 (((r1.length : Nat) : Int) - 1))) - 0) (List.drop 0 r1))) (by rw [List.map_take, List.map_drop])<|P0) (wi_ParseMail _ _ H)
theorem cw_eqMail {a0 : Gi_Mail} {a1 : Gi_Mail} {r : Bool} (H : Dw_eqMail a0 a1 = some r) : Ct X.P X.gl 19 [gi_Mail a0, gi_Mail a1] [] (RB r) [] :=
 Ct.of func19 (c := bdy f19) (by kernel_rfl) (by kernel_rfl) <|
 gS [r0] (by kernel_rfl) P0 <|
 eIf H (fun h1 H =>
 gS [rg [hF 4]] (by kernel_rfl) (P2 (((a0.Turn : Int) != a1.Turn) = false) (bneF h1)<|P0) <|
 eIf H (fun h2 H =>
 gS [rg [hF 4]] (by kernel_rfl) (P2 (((a0.Side : Int) != a1.Side) = false) (bneF h2)<|P0) <|
 eIf H (fun h3 H =>
 eW RB (fun _ => []) H<|gE func19 [rg [hF 4], r0] (by kernel_rfl) (P2 (((a0.Seal : Int) != a1.Seal) = false) (bneF h3)<|P0))
 (fun h3 H =>
 eW RB (fun _ => []) H<|gE func19 [rg [hT 4], r0] (by kernel_rfl) (P2 (((a0.Seal : Int) != a1.Seal) = true) (bneT h3)<|P0)))
 (fun h2 H =>
 eW RB (fun _ => []) H<|gE func19 [rg [hT 4], r0] (by kernel_rfl) (P2 (((a0.Side : Int) != a1.Side) = true) (bneT h2)<|P0)))
 (fun h1 H =>
 eW RB (fun _ => []) H<|gE func19 [rg [hT 4], r0] (by kernel_rfl) (P2 (((a0.Turn : Int) != a1.Turn) = true) (bneT h1)<|P0))
noncomputable def Kw_eqMailS : Sw_eqMailS → List Item
 | .h1 .. => nav 300 3 [false] [.code (bdy f9)]
def Zw_eqMailS : Sw_eqMailS → St
 | .h1 va0 b1 i2 => ⟨sts 27 [(0, sl 3 gi_Mail va0), (1, sl 3 gi_Mail b1), (5, I i2)], []⟩
abbrev Qw_eqMailS := Nx X 9 0 Kw_eqMailS Zw_eqMailS RB (fun _ => [])
theorem nw_eqMailS : ∀ s o, Bw_eqMailS s = some o → Qw_eqMailS (Kw_eqMailS s) (Zw_eqMailS s) o
 | .h1 va0 b1 i2, o, H =>
  eIf H (fun h1 H =>
  eCk H fun h2 H =>
  eBind H fun x3 hx3 H =>
  eCk H fun h4 H =>
  eBind H fun x5 hx5 H =>
  eBind H fun r6 hr6 H =>
  gN [rg [hT 3]] (by kernel_rfl) (P2 ((decide (i2 < ((va0.length : Nat) : Int))) = true) (decide_eq_true h1)<|P0) <|
  eIf H (fun h7 H =>
  eN H fun r hn => gO [rg [hE 3 (gi_Mail x3), hE 7 (gi_Mail x5), { i := 8, call := some { cl := true, auto := true, ins := [], res := (RB r6), G' := [] }, dec := some true }], r0, .canon [] [0, 1, 5]] (by kernel_rfl) (P1 h2<|P1 (int_lt_of_at h2 hx3)<|P1 (at_map gi_Mail hx3)<|P1 h4<|P1 (int_lt_of_at h4 hx5)<|P1 (at_map gi_Mail hx5)<|P1 (cw_eqMail hr6)<|P2 (r6 = true) (h7)<|P0) hn)
  (fun h7 H =>
  eN H<|gE func9 [rg [hE 3 (gi_Mail x3), hE 7 (gi_Mail x5), { i := 8, call := some { cl := true, auto := true, ins := [], res := (RB r6), G' := [] }, dec := some false }], r0] (by kernel_rfl) (P1 h2<|P1 (int_lt_of_at h2 hx3)<|P1 (at_map gi_Mail hx3)<|P1 h4<|P1 (int_lt_of_at h4 hx5)<|P1 (at_map gi_Mail hx5)<|P1 (cw_eqMail hr6)<|P2 (r6 = false) (eqF h7)<|P0)))
  (fun h1 H =>
  eN H<|gE func9 [rg [hF 3], r0] (by kernel_rfl) (P2 ((decide (i2 < ((va0.length : Nat) : Int))) = false) (decide_eq_false h1)<|P0))
theorem ww_eqMailS : ∀ s r, loop Bw_eqMailS s = some r → Wc X 9 0 (Kw_eqMailS s) (Zw_eqMailS s) (RB r) ((fun _ => []) r) := Nx.all (nw_eqMailS)
theorem cw_eqMailS {a0 : (List Gi_Mail)} {a1 : (List Gi_Mail)} {r : Bool} (H : Dw_eqMailS a0 a1 = some r) : Ct X.P X.gl 9 [sl 3 gi_Mail a0, sl 3 gi_Mail a1] [] (RB r) [] :=
 Ct.of func9 (c := bdy f9) (by kernel_rfl) (by kernel_rfl) <|
 gS [r0] (by kernel_rfl) P0 <|
 eIf H (fun h1 H =>
 gO [rg [hF 4], r0, .canon [] [0, 1, 5]] (by kernel_rfl) (P2 (((((a0.length : Nat) : Int) : Int) != ((a1.length : Nat) : Int)) = false) (bneF h1)<|P0) (ww_eqMailS _ _ H))
 (fun h1 H =>
 eW RB (fun _ => []) H<|gE func9 [rg [hT 4], r0] (by kernel_rfl) (P2 (((((a0.length : Nat) : Int) : Int) != ((a1.length : Nat) : Int)) = true) (bneT h1)<|P0))
def Rw_markMailS (r : Int × (List Gi_Mail)) : List D := [I r.1]
def Nw_markMailS (r : Int × (List Gi_Mail)) : List Root := [⟨false, false, 3, r.2.length, List.map gi_Mail r.2⟩]
noncomputable def Kw_markMailS : Sw_markMailS → List Item
 | .h1 .. => nav 300 2 [] [.code (bdy f12)]
def Zw_markMailS : Sw_markMailS → St
 | .h1 k0 i1 l2 => ⟨sts 34 [(0, .ref 0 3 none), (1, I k0), (5, I i1)], [some ⟨false, false, 3, l2.length, List.map gi_Mail l2⟩]⟩
abbrev Qw_markMailS := Nx X 12 1 Kw_markMailS Zw_markMailS Rw_markMailS Nw_markMailS
theorem nw_markMailS : ∀ s o, Bw_markMailS s = some o → Qw_markMailS (Kw_markMailS s) (Zw_markMailS s) o
 | .h1 k0 i1 l2, o, H =>
  eIf H (fun h1 H =>
  eCk H fun h2 H =>
  eBind H fun x3 hx3 H =>
  eCk H fun h4 H =>
  eBind H fun x5 hx5 H =>
  eCk H fun h6 H =>
  eBind H fun x7 hx7 H =>
  eN H fun r hn => gO [rg [hT 3], rg [hA 5 ((List.set l2 (Int.toNat i1) (Gi_Mail.mk k0 x3.Side x3.Seal)).length) (List.map gi_Mail (List.set l2 (Int.toNat i1) (Gi_Mail.mk k0 x3.Side x3.Seal)))], r0, rg [hA 5 ((List.set (List.set l2 (Int.toNat i1) (Gi_Mail.mk k0 x3.Side x3.Seal)) (Int.toNat i1) (Gi_Mail.mk x5.Turn (IntKind.wrap .i64 (k0 + 1)) x5.Seal)).length) (List.map gi_Mail (List.set (List.set l2 (Int.toNat i1) (Gi_Mail.mk k0 x3.Side x3.Seal)) (Int.toNat i1) (Gi_Mail.mk x5.Turn (IntKind.wrap .i64 (k0 + 1)) x5.Seal)))], r0, rg [hA 5 ((List.set (List.set (List.set l2 (Int.toNat i1) (Gi_Mail.mk k0 x3.Side x3.Seal)) (Int.toNat i1) (Gi_Mail.mk x5.Turn (IntKind.wrap .i64 (k0 + 1)) x5.Seal)) (Int.toNat i1) (Gi_Mail.mk x7.Turn x7.Side (IntKind.wrap .i64 ((IntKind.wrap .i64 (k0 + 1)) + 1)))).length) (List.map gi_Mail (List.set (List.set (List.set l2 (Int.toNat i1) (Gi_Mail.mk k0 x3.Side x3.Seal)) (Int.toNat i1) (Gi_Mail.mk x5.Turn (IntKind.wrap .i64 (k0 + 1)) x5.Seal)) (Int.toNat i1) (Gi_Mail.mk x7.Turn x7.Side (IntKind.wrap .i64 ((IntKind.wrap .i64 (k0 + 1)) + 1)))))], r0, r0, .canon [0] [0, 1, 5]] (by kernel_rfl) (P2 ((decide (i1 < ((l2.length : Nat) : Int))) = true) (decide_eq_true h1)<|P1 h2<|P1 (int_lt_of_at h2 hx3)<|P1 (lt_of_at hx3)<|P2 (setCells (List.map gi_Mail l2) (Int.toNat i1) 0 [I k0] = List.map gi_Mail (List.set l2 (Int.toNat i1) (Gi_Mail.mk k0 x3.Side x3.Seal))) (setCells_map hx3 rfl)<|P1 (setLen l2 (Int.toNat i1) (Gi_Mail.mk k0 x3.Side x3.Seal))<|P1 h4<|P1 (int_lt_of_at h4 hx5)<|P1 (lt_of_at hx5)<|P2 (setCells (List.map gi_Mail (List.set l2 (Int.toNat i1) (Gi_Mail.mk k0 x3.Side x3.Seal))) (Int.toNat i1) 1 [I (IntKind.wrap .i64 (k0 + 1))] = List.map gi_Mail (List.set (List.set l2 (Int.toNat i1) (Gi_Mail.mk k0 x3.Side x3.Seal)) (Int.toNat i1) (Gi_Mail.mk x5.Turn (IntKind.wrap .i64 (k0 + 1)) x5.Seal))) (setCells_map hx5 rfl)<|P1 (setLen (List.set l2 (Int.toNat i1) (Gi_Mail.mk k0 x3.Side x3.Seal)) (Int.toNat i1) (Gi_Mail.mk x5.Turn (IntKind.wrap .i64 (k0 + 1)) x5.Seal))<|P1 h6<|P1 (int_lt_of_at h6 hx7)<|P1 (lt_of_at hx7)<|P2 (setCells (List.map gi_Mail (List.set (List.set l2 (Int.toNat i1) (Gi_Mail.mk k0 x3.Side x3.Seal)) (Int.toNat i1) (Gi_Mail.mk x5.Turn (IntKind.wrap .i64 (k0 + 1)) x5.Seal))) (Int.toNat i1) 2 [I (IntKind.wrap .i64 ((IntKind.wrap .i64 (k0 + 1)) + 1))] = List.map gi_Mail (List.set (List.set (List.set l2 (Int.toNat i1) (Gi_Mail.mk k0 x3.Side x3.Seal)) (Int.toNat i1) (Gi_Mail.mk x5.Turn (IntKind.wrap .i64 (k0 + 1)) x5.Seal)) (Int.toNat i1) (Gi_Mail.mk x7.Turn x7.Side (IntKind.wrap .i64 ((IntKind.wrap .i64 (k0 + 1)) + 1))))) (setCells_map hx7 rfl)<|P1 (setLen (List.set (List.set l2 (Int.toNat i1) (Gi_Mail.mk k0 x3.Side x3.Seal)) (Int.toNat i1) (Gi_Mail.mk x5.Turn (IntKind.wrap .i64 (k0 + 1)) x5.Seal)) (Int.toNat i1) (Gi_Mail.mk x7.Turn x7.Side (IntKind.wrap .i64 ((IntKind.wrap .i64 (k0 + 1)) + 1))))<|P0) hn)
  (fun h1 H =>
  eN H<|gE func12 [rg [hF 3], r0] (by kernel_rfl) (P2 ((decide (i1 < ((l2.length : Nat) : Int))) = false) (decide_eq_false h1)<|P0))
theorem ww_markMailS : ∀ s r, loop Bw_markMailS s = some r → Wc X 12 1 (Kw_markMailS s) (Zw_markMailS s) (Rw_markMailS r) (Nw_markMailS r) := Nx.all (nw_markMailS)
theorem cw_markMailS {a0 : (List Gi_Mail)} {a1 : Int} {r : Int × (List Gi_Mail)} (H : Dw_markMailS a0 a1 = some r) : Ct X.P X.gl 12 [.ref 0 3 none, I a1] [⟨false, false, 3, a0.length, List.map gi_Mail a0⟩] (Rw_markMailS r) (Nw_markMailS r) :=
 Ct.of func12 (c := bdy f12) (by kernel_rfl) (by kernel_rfl) <|
 gO [r0, r0, .canon [0] [0, 1, 5]] (by kernel_rfl) P0 (ww_markMailS _ _ H)
noncomputable def Kw_heldMailS : Sw_heldMailS → List Item
 | .h1 .. => nav 300 2 [] [.code (bdy f13)]
def Zw_heldMailS : Sw_heldMailS → St
 | .h1 va0 k1 i2 => ⟨sts 40 [(0, sl 3 gi_Mail va0), (1, I k1), (5, I i2)], []⟩
abbrev Qw_heldMailS := Nx X 13 0 Kw_heldMailS Zw_heldMailS RI (fun _ => [])
theorem nw_heldMailS : ∀ s o, Bw_heldMailS s = some o → Qw_heldMailS (Kw_heldMailS s) (Zw_heldMailS s) o
 | .h1 va0 k1 i2, o, H =>
  eIf H (fun h1 H =>
  eCk H fun h2 H =>
  eBind H fun x3 hx3 H =>
  gN [rg [hT 3]] (by kernel_rfl) (P2 ((decide (i2 < ((va0.length : Nat) : Int))) = true) (decide_eq_true h1)<|P0) <|
  eIf H (fun h4 H =>
  eCk H fun h5 H =>
  eBind H fun x6 hx6 H =>
  gN [rg [hE 4 (gi_Mail x3), hF 6], r0] (by kernel_rfl) (P1 h2<|P1 (int_lt_of_at h2 hx3)<|P1 (at_map gi_Mail hx3)<|P2 (((x3.Turn : Int) != k1) = false) (bneF h4)<|P0) <|
  eIf H (fun h7 H =>
  eCk H fun h8 H =>
  eBind H fun x9 hx9 H =>
  gN [rg [hE 4 (gi_Mail x6), hF 6], r0] (by kernel_rfl) (P1 h5<|P1 (int_lt_of_at h5 hx6)<|P1 (at_map gi_Mail hx6)<|P2 (((x6.Side : Int) != (IntKind.wrap .i64 (k1 + 1))) = false) (bneF h7)<|P0) <|
  eIf H (fun h10 H =>
  eN H fun r hn => gO [rg [hE 4 (gi_Mail x9), hF 6], r0, r0, .canon [] [0, 1, 5]] (by kernel_rfl) (P1 h8<|P1 (int_lt_of_at h8 hx9)<|P1 (at_map gi_Mail hx9)<|P2 (((x9.Seal : Int) != (IntKind.wrap .i64 ((IntKind.wrap .i64 (k1 + 1)) + 1))) = false) (bneF h10)<|P0) hn)
  (fun h10 H =>
  eN H<|gE func13 [rg [hE 4 (gi_Mail x9), hT 6], r0] (by kernel_rfl) (P1 h8<|P1 (int_lt_of_at h8 hx9)<|P1 (at_map gi_Mail hx9)<|P2 (((x9.Seal : Int) != (IntKind.wrap .i64 ((IntKind.wrap .i64 (k1 + 1)) + 1))) = true) (bneT h10)<|P0)))
  (fun h7 H =>
  eN H<|gE func13 [rg [hE 4 (gi_Mail x6), hT 6], r0] (by kernel_rfl) (P1 h5<|P1 (int_lt_of_at h5 hx6)<|P1 (at_map gi_Mail hx6)<|P2 (((x6.Side : Int) != (IntKind.wrap .i64 (k1 + 1))) = true) (bneT h7)<|P0)))
  (fun h4 H =>
  eN H<|gE func13 [rg [hE 4 (gi_Mail x3), hT 6], r0] (by kernel_rfl) (P1 h2<|P1 (int_lt_of_at h2 hx3)<|P1 (at_map gi_Mail hx3)<|P2 (((x3.Turn : Int) != k1) = true) (bneT h4)<|P0)))
  (fun h1 H =>
  eN H<|gE func13 [rg [hF 3], r0] (by kernel_rfl) (P2 ((decide (i2 < ((va0.length : Nat) : Int))) = false) (decide_eq_false h1)<|P0))
theorem ww_heldMailS : ∀ s r, loop Bw_heldMailS s = some r → Wc X 13 0 (Kw_heldMailS s) (Zw_heldMailS s) (RI r) ((fun _ => []) r) := Nx.all (nw_heldMailS)
theorem cw_heldMailS {a0 : (List Gi_Mail)} {a1 : Int} {r : Int} (H : Dw_heldMailS a0 a1 = some r) : Ct X.P X.gl 13 [sl 3 gi_Mail a0, I a1] [] (RI r) [] :=
 Ct.of func13 (c := bdy f13) (by kernel_rfl) (by kernel_rfl) <|
 gO [r0, r0, .canon [] [0, 1, 5]] (by kernel_rfl) P0 (ww_heldMailS _ _ H)
theorem cw_FnExactParseMail {a0 : ByteArray} {r : Bool} (H : Dw_FnExactParseMail a0 = some r) : Ct X.P X.gl 4 [.str a0] [] (RB r) [] :=
 Ct.of func4 (c := bdy f4) (by kernel_rfl) (by kernel_rfl) <|
 gS [r0] (by kernel_rfl) P0 <|
 eIf H (fun h1 H =>
 eW RB (fun _ => []) H<|gE func4 [rg [hT 2], r0] (by kernel_rfl) (P2 ((decide (((ByteArray.size a0 : Nat) : Int) > 1048576)) = true) (decide_eq_true h1)<|P0))
 (fun h1 H =>
 eBind H fun r2 hr2 H =>
 eBind H fun r3 hr3 H =>
 eBind H fun r4 hr4 H =>
 gS [rg [hF 2], rg [hC 1 true [] (Rs_ParseMail r2) []], rg [hC 1 true [] (Ri_ParseMail r3) []]] (by kernel_rfl) (P2 ((decide (((ByteArray.size a0 : Nat) : Int) > 1048576)) = false) (decide_eq_false h1)<|P1 (cs_ParseMail hr2)<|P1 (ci_ParseMail hr3)<|P0) <|
 eIf H (fun h5 H =>
 eIf H (fun h6 H =>
 eW RB (fun _ => []) H<|gE func4 [rg [{ i := 2, call := some { cl := false, auto := true, ins := [], res := (RB r4), G' := [] }, dec := some true }, hT 7], r0] (by kernel_rfl) (P1 (cw_eqMailS hr4)<|P2 (r4 = true) (h5)<|P2 ((!(r3.2 == r2.2)) = true) (h6)<|P0))
 (fun h6 H =>
 eBind H fun r7 hr7 H =>
 eCk H fun h8 H =>
 eBind H fun r9 hr9 H =>
 gS [rg [{ i := 2, call := some { cl := false, auto := true, ins := [], res := (RB r4), G' := [] }, dec := some true }, hF 7], r0, rg [hC 2 true [1] (Rw_markMailS r7) (Nw_markMailS r7)], r0, rg [hC 2 false [] (RI r9) []]] (by kernel_rfl) (P1 (cw_eqMailS hr4)<|P2 (r4 = true) (h5)<|P2 ((!(r3.2 == r2.2)) = false) (eqF h6)<|P1 h8<|P1 (cw_markMailS hr7)<|P1 (cw_heldMailS hr9)<|P0) <|
 eIf H (fun h10 H =>
 eW RB (fun _ => []) H<|gE func4 [rg [hT 1], r0] (by kernel_rfl) (P2 ((decide (r9 < 0)) = true) (decide_eq_true h10)<|P0))
 (fun h10 H =>
 gS [rg [hF 1]] (by kernel_rfl) (P2 ((decide (r9 < 0)) = false) (decide_eq_false h10)<|P0) <|
 eIf H (fun h11 H =>
 eBind H fun r12 hr12 H =>
 eBind H fun r13 hr13 H =>
 gS [rg [hF 2], rg [hC 1 true [] (Ri_ParseMail r12) []]] (by kernel_rfl) (P2 (((r9 : Int) != r7.1) = false) (bneF h11)<|P1 (ci_ParseMail hr12)<|P0) <|
 eIf H (fun h14 H =>
 eIf H (fun h15 H =>
 eW RB (fun _ => []) H<|gE func4 [rg [{ i := 2, call := some { cl := false, auto := true, ins := [], res := (RB r13), G' := [] }, dec := some true }, hT 7], r0] (by kernel_rfl) (P1 (cw_eqMailS hr13)<|P2 (r13 = true) (h14)<|P2 ((!(r12.2 == r2.2)) = true) (h15)<|P0))
 (fun h15 H =>
 eBind H fun r16 hr16 H =>
 gS [rg [{ i := 2, call := some { cl := false, auto := true, ins := [], res := (RB r13), G' := [] }, dec := some true }, hF 7], r0, rg [hC 2 false [] (RI r16) []]] (by kernel_rfl) (P1 (cw_eqMailS hr13)<|P2 (r13 = true) (h14)<|P2 ((!(r12.2 == r2.2)) = false) (eqF h15)<|P1 (cw_heldMailS hr16)<|P0) <|
 eIf H (fun h17 H =>
 eW RB (fun _ => []) H<|gE func4 [rg [hT 1], r0] (by kernel_rfl) (P2 ((decide (r16 < 0)) = true) (decide_eq_true h17)<|P0))
 (fun h17 H =>
 gS [rg [hF 1]] (by kernel_rfl) (P2 ((decide (r16 < 0)) = false) (decide_eq_false h17)<|P0) <|
 eIf H (fun h18 H =>
 eW RB (fun _ => []) H<|gE func4 [rg [hF 2], r0] (by kernel_rfl) (P2 (((r16 : Int) != r7.1) = false) (bneF h18)<|P0))
 (fun h18 H =>
 eW RB (fun _ => []) H<|gE func4 [rg [hT 2], r0] (by kernel_rfl) (P2 (((r16 : Int) != r7.1) = true) (bneT h18)<|P0)))))
 (fun h14 H =>
 eW RB (fun _ => []) H<|gE func4 [rg [{ i := 2, call := some { cl := false, auto := true, ins := [], res := (RB r13), G' := [] }, dec := some false }], r0] (by kernel_rfl) (P1 (cw_eqMailS hr13)<|P2 (r13 = false) (eqF h14)<|P0)))
 (fun h11 H =>
 eW RB (fun _ => []) H<|gE func4 [rg [hT 2], r0] (by kernel_rfl) (P2 (((r9 : Int) != r7.1) = true) (bneT h11)<|P0)))))
 (fun h5 H =>
 eW RB (fun _ => []) H<|gE func4 [rg [{ i := 2, call := some { cl := false, auto := true, ins := [], res := (RB r4), G' := [] }, dec := some false }], r0] (by kernel_rfl) (P1 (cw_eqMailS hr4)<|P2 (r4 = false) (eqF h5)<|P0)))
end Go.Proofs.YtogomlkoocbhcaaDoor.Ab
