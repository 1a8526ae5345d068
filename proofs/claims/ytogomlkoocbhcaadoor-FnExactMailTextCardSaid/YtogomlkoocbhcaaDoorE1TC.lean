/- Part of the proof of FnExactMailTextCard: no condition of its own. -/
import Derived.Test.YtogomlkoocbhcaaDoorAb5
import Derived.Test.YtogomlkoocbhcaaDoorAb5
import Derived.Test.YtogomlkoocbhcaaDoorChecked
import Derived.Test.YtogomlkoocbhcaaDoorE1TD
set_option linter.unusedVariables false
set_option linter.unusedSimpArgs false
open Go Go.Proofs Go.Proofs.Tryd
namespace Go.Proofs.YtogomlkoocbhcaaDoor.Ab
def T : Tab := [(3, ⟨(TK.int IntKind.i64), 1, 8, I 0⟩),
 (4, ⟨TK.bool, 1, 1, (D.bool false)⟩),
 (5, ⟨(TK.int IntKind.u8), 1, 1, .int .u8 0⟩),
 (9, ⟨TK.str, 1, 16, (D.str (ByteArray.mk (Array.mk [])))⟩),
 (22, ⟨(TK.slice 39), 1, 24, D.nil⟩),
 (26, ⟨(TK.slice 37), 1, 24, D.nil⟩),
 (37, ⟨(TK.strct [(FI.mk 0 1 false), (FI.mk 1 1 false), (FI.mk 2 1 false)] (some [(LK.int IntKind.i64), (LK.int IntKind.i64), (LK.int IntKind.i64)])), 3, 24, (D.agg [I 0, I 0, I 0])⟩),
 (39, ⟨(TK.strct [(FI.mk 0 1 false), (FI.mk 1 1 false), (FI.mk 2 1 false)] (some [(LK.int IntKind.i64), (LK.int IntKind.i64), (LK.int IntKind.i64)])), 3, 24, (D.agg [I 0, I 0, I 0])⟩),
 (41, ⟨(TK.slice 9), 1, 24, D.nil⟩),
 (48, ⟨TK.other, 1, 16, D.undef⟩),
 (59, ⟨(TK.slice 5), 1, 24, D.nil⟩),
 (60, ⟨(TK.slice 3), 1, 24, D.nil⟩),
 (72, ⟨(TK.strct [(FI.mk 0 1 false), (FI.mk 1 1 false)] none), 2, 32, (D.agg [D.undef, D.nil])⟩),
 (79, ⟨(TK.int IntKind.u64), 1, 8, (D.int IntKind.u64 (Int.ofNat 0))⟩)]
noncomputable def X : Ctx := ⟨Go.Proofs.Tryd.prog, T, [(5, .fptr 20 gc105 0 0)]⟩
theorem T_ok : TabOK X.P X.T := ⟨by kernel_rfl, by kernel_rfl, by kernel_rfl, by kernel_rfl, by kernel_rfl, by kernel_rfl, by kernel_rfl, by kernel_rfl, by kernel_rfl, by kernel_rfl, by kernel_rfl, by kernel_rfl, by kernel_rfl, by kernel_rfl, trivial⟩
theorem mixed : X.P.follows .mixedOrders = true := Go.Proofs.Tryd.checked.mixed
theorem gO {f : FuncId} {M : Nat} {k k' : List Item} {σ σ' : St} {res : List D} {G' : List Root} (cmds : List Cmd) {ps : List Prop} (h : run X M cmds k σ = some (ps, k', σ')) (hp : AllP ps) (hk : Wc X f M k' σ' res G') : Wc X f M k σ res G' := run_ok T_ok mixed h hp hk
theorem gE {f : FuncId} {M : Nat} {k : List Item} {σ : St} {res : List D} {G' : List Root} {fn : Func} (hf : X.P.funcs[f]? = some fn) (cmds : List Cmd) {ps : List Prop} (h : runFinC X M cmds k σ fn.results.toList res = some (ps, res, G')) (hp : AllP ps) : Wc X f M k σ res G' := runFinC_ok T_ok mixed hf h hp
theorem gS {f : FuncId} {M : Nat} {k : List Item} {σ : St} {res : List D} {G' : List Root} (cmds : List Cmd) {ps : List Prop} (h : runP X M cmds k σ = some ps) (hp : AllP ps) (hk : Wc X f M (runK X M cmds k σ) (runS X M cmds k σ) res G') : Wc X f M k σ res G' := seg_ok T_ok mixed cmds h hp hk
theorem gN {ς ρ : Type} {f : FuncId} {M : Nat} {K : ς → List Item} {Z : ς → St} {R : ρ → List D} {G : ρ → List Root} {k : List Item} {σ : St} {o : ς ⊕ ρ} (cmds : List Cmd) {ps : List Prop} (h : runP X M cmds k σ = some ps) (hp : AllP ps) (hk : Nx X f M K Z R G (runK X M cmds k σ) (runS X M cmds k σ) o) : Nx X f M K Z R G k σ o := segN_ok T_ok mixed cmds h hp hk
def lays_n156_ren : Go.Shelf.Ren := ⟨fun | 156 => 40 | 165 => 50 | 166 => 51 | 169 => 52 | 240 => 61 | 241 => 62 | 276 => 74 | 277 => 75 | n => n, fun | 31 => 41 | 9 => 9 | 3 => 3 | 4 => 4 | 0 => 0 | 20 => 20 | 72 => 72 | 76 => 49 | 70 => 70 | 37 => 59 | 75 => 48 | 127 => 87 | 164 => 98 | 5 => 5 | 80 => 74 | n => n, fun | n => n⟩
theorem lays_n156 : Go.Proofs.Lays.n156 Go.Proofs.Tryd.prog lays_n156_ren := {
 mixed := by kernel_rfl
 f156 := Go.Proofs.Tryd.func40.trans (congrArg some (by kernel_rfl))
 f165 := Go.Proofs.Tryd.func50.trans (congrArg some (by kernel_rfl))
 f166 := Go.Proofs.Tryd.func51.trans (congrArg some (by kernel_rfl))
 f169 := Go.Proofs.Tryd.func52.trans (congrArg some (by kernel_rfl))
 f240 := Go.Proofs.Tryd.func61.trans (congrArg some (by kernel_rfl))
 f241 := Go.Proofs.Tryd.func62.trans (congrArg some (by kernel_rfl))
 f276 := Go.Proofs.Tryd.func74.trans (congrArg some (by kernel_rfl))
 f277 := Go.Proofs.Tryd.func75.trans (congrArg some (by kernel_rfl))
 t0 := Go.Proofs.Tryd.underlying0
 a0 := Go.Proofs.Tryd.isAgg0
 z0 := Go.Proofs.Tryd.sizeOf0
 v0 := Go.Proofs.Tryd.zeroValue0
 t3 := Go.Proofs.Tryd.underlying3
 a3 := Go.Proofs.Tryd.isAgg3
 z3 := Go.Proofs.Tryd.sizeOf3
 v3 := Go.Proofs.Tryd.zeroValue3
 t4 := Go.Proofs.Tryd.underlying4
 a4 := Go.Proofs.Tryd.isAgg4
 z4 := Go.Proofs.Tryd.sizeOf4
 v4 := Go.Proofs.Tryd.zeroValue4
 t9 := Go.Proofs.Tryd.underlying9
 a9 := Go.Proofs.Tryd.isAgg9
 z9 := Go.Proofs.Tryd.sizeOf9
 v9 := Go.Proofs.Tryd.zeroValue9
 t20 := Go.Proofs.Tryd.underlying20
 a20 := Go.Proofs.Tryd.isAgg20
 z20 := Go.Proofs.Tryd.sizeOf20
 v20 := Go.Proofs.Tryd.zeroValue20
 t31 := Go.Proofs.Tryd.underlying41
 a31 := Go.Proofs.Tryd.isAgg41
 z31 := Go.Proofs.Tryd.sizeOf41
 v31 := Go.Proofs.Tryd.zeroValue41
 t37 := Go.Proofs.Tryd.underlying59
 a37 := Go.Proofs.Tryd.isAgg59
 z37 := Go.Proofs.Tryd.sizeOf59
 v37 := Go.Proofs.Tryd.zeroValue59
 t70 := Go.Proofs.Tryd.underlying70
 a70 := Go.Proofs.Tryd.isAgg70
 z70 := Go.Proofs.Tryd.sizeOf70
 v70 := Go.Proofs.Tryd.zeroValue70
 t72 := Go.Proofs.Tryd.underlying72
 a72 := Go.Proofs.Tryd.isAgg72
 z72 := Go.Proofs.Tryd.sizeOf72
 v72 := Go.Proofs.Tryd.zeroValue72
 t75 := Go.Proofs.Tryd.underlying48
 a75 := Go.Proofs.Tryd.isAgg48
 z75 := Go.Proofs.Tryd.sizeOf48
 v75 := Go.Proofs.Tryd.zeroValue48
 t76 := Go.Proofs.Tryd.underlying49
 a76 := Go.Proofs.Tryd.isAgg49
 z76 := Go.Proofs.Tryd.sizeOf49
 v76 := Go.Proofs.Tryd.zeroValue49
 t127 := Go.Proofs.Tryd.underlying87
 a127 := Go.Proofs.Tryd.isAgg87
 z127 := Go.Proofs.Tryd.sizeOf87
 v127 := Go.Proofs.Tryd.zeroValue87
 t164 := Go.Proofs.Tryd.underlying98
 a164 := Go.Proofs.Tryd.isAgg98
 z164 := Go.Proofs.Tryd.sizeOf98
 v164 := Go.Proofs.Tryd.zeroValue98 }

def lays_n171_ren : Go.Shelf.Ren := ⟨fun | 171 => 36 | 243 => 44 | 246 => 57 | 283 => 68 | 284 => 69 | 285 => 70 | 286 => 71 | 129 => 79 | 317 => 78 | 318 => 80 | 319 => 81 | 320 => 82 | 337 => 83 | 338 => 84 | n => n, fun | 3 => 3 | 9 => 9 | 2 => 2 | 4 => 4 | 171 => 89 | 0 => 0 | 53 => 79 | 37 => 59 | 5 => 5 | 173 => 92 | 212 => 109 | 51 => 105 | 20 => 20 | 213 => 110 | 46 => 82 | 232 => 113 | 233 => 114 | n => n, fun | 17 => 5 | 18 => 6 | 19 => 7 | n => n⟩
theorem lays_n171 : Go.Proofs.LaysM.n171 Go.Proofs.Tryd.prog lays_n171_ren := {
 mixed := by kernel_rfl
 f129 := Go.Proofs.Tryd.func79.trans (congrArg some (by kernel_rfl))
 f171 := Go.Proofs.Tryd.func36.trans (congrArg some (by kernel_rfl))
 f243 := Go.Proofs.Tryd.func44.trans (congrArg some (by kernel_rfl))
 f246 := Go.Proofs.Tryd.func57.trans (congrArg some (by kernel_rfl))
 f283 := Go.Proofs.Tryd.func68.trans (congrArg some (by kernel_rfl))
 f284 := Go.Proofs.Tryd.func69.trans (congrArg some (by kernel_rfl))
 f285 := Go.Proofs.Tryd.func70.trans (congrArg some (by kernel_rfl))
 f286 := Go.Proofs.Tryd.func71.trans (congrArg some (by kernel_rfl))
 f317 := Go.Proofs.Tryd.func78.trans (congrArg some (by kernel_rfl))
 f318 := Go.Proofs.Tryd.func80.trans (congrArg some (by kernel_rfl))
 f319 := Go.Proofs.Tryd.func81.trans (congrArg some (by kernel_rfl))
 f320 := Go.Proofs.Tryd.func82.trans (congrArg some (by kernel_rfl))
 f337 := Go.Proofs.Tryd.func83.trans (congrArg some (by kernel_rfl))
 f338 := Go.Proofs.Tryd.func84.trans (congrArg some (by kernel_rfl))
 t0 := Go.Proofs.Tryd.underlying0
 a0 := Go.Proofs.Tryd.isAgg0
 z0 := Go.Proofs.Tryd.sizeOf0
 v0 := Go.Proofs.Tryd.zeroValue0
 t2 := Go.Proofs.Tryd.underlying2
 a2 := Go.Proofs.Tryd.isAgg2
 z2 := Go.Proofs.Tryd.sizeOf2
 v2 := Go.Proofs.Tryd.zeroValue2
 t3 := Go.Proofs.Tryd.underlying3
 a3 := Go.Proofs.Tryd.isAgg3
 z3 := Go.Proofs.Tryd.sizeOf3
 v3 := Go.Proofs.Tryd.zeroValue3
 t4 := Go.Proofs.Tryd.underlying4
 a4 := Go.Proofs.Tryd.isAgg4
 z4 := Go.Proofs.Tryd.sizeOf4
 v4 := Go.Proofs.Tryd.zeroValue4
 t5 := Go.Proofs.Tryd.underlying5
 a5 := Go.Proofs.Tryd.isAgg5
 z5 := Go.Proofs.Tryd.sizeOf5
 v5 := Go.Proofs.Tryd.zeroValue5
 t9 := Go.Proofs.Tryd.underlying9
 a9 := Go.Proofs.Tryd.isAgg9
 z9 := Go.Proofs.Tryd.sizeOf9
 v9 := Go.Proofs.Tryd.zeroValue9
 t20 := Go.Proofs.Tryd.underlying20
 a20 := Go.Proofs.Tryd.isAgg20
 z20 := Go.Proofs.Tryd.sizeOf20
 v20 := Go.Proofs.Tryd.zeroValue20
 t37 := Go.Proofs.Tryd.underlying59
 a37 := Go.Proofs.Tryd.isAgg59
 z37 := Go.Proofs.Tryd.sizeOf59
 v37 := Go.Proofs.Tryd.zeroValue59
 t46 := Go.Proofs.Tryd.underlying82
 a46 := Go.Proofs.Tryd.isAgg82
 z46 := Go.Proofs.Tryd.sizeOf82
 v46 := Go.Proofs.Tryd.zeroValue82
 t51 := Go.Proofs.Tryd.underlying105
 a51 := Go.Proofs.Tryd.isAgg105
 z51 := Go.Proofs.Tryd.sizeOf105
 v51 := Go.Proofs.Tryd.zeroValue105
 t53 := Go.Proofs.Tryd.underlying79
 a53 := Go.Proofs.Tryd.isAgg79
 z53 := Go.Proofs.Tryd.sizeOf79
 v53 := Go.Proofs.Tryd.zeroValue79
 t171 := Go.Proofs.Tryd.underlying89
 a171 := Go.Proofs.Tryd.isAgg89
 z171 := Go.Proofs.Tryd.sizeOf89
 v171 := Go.Proofs.Tryd.zeroValue89
 t173 := Go.Proofs.Tryd.underlying92
 a173 := Go.Proofs.Tryd.isAgg92
 z173 := Go.Proofs.Tryd.sizeOf92
 v173 := Go.Proofs.Tryd.zeroValue92
 t212 := Go.Proofs.Tryd.underlying109
 a212 := Go.Proofs.Tryd.isAgg109
 z212 := Go.Proofs.Tryd.sizeOf109
 v212 := Go.Proofs.Tryd.zeroValue109
 t213 := Go.Proofs.Tryd.underlying110
 a213 := Go.Proofs.Tryd.isAgg110
 z213 := Go.Proofs.Tryd.sizeOf110
 t232 := Go.Proofs.Tryd.underlying113
 a232 := Go.Proofs.Tryd.isAgg113
 z232 := Go.Proofs.Tryd.sizeOf113
 v232 := Go.Proofs.Tryd.zeroValue113
 t233 := Go.Proofs.Tryd.underlying114
 a233 := Go.Proofs.Tryd.isAgg114
 z233 := Go.Proofs.Tryd.sizeOf114
 v233 := Go.Proofs.Tryd.zeroValue114
 g17 := by kernel_rfl
 g18 := by kernel_rfl
 g19 := by kernel_rfl
 i0 := by kernel_rfl
 i2 := by kernel_rfl
 i3 := by kernel_rfl
 i4 := by kernel_rfl
 i5 := by kernel_rfl
 i9 := by kernel_rfl
 i20 := by kernel_rfl
 i37 := by kernel_rfl
 i46 := by kernel_rfl
 i51 := by kernel_rfl
 i53 := by kernel_rfl
 i171 := by kernel_rfl
 i173 := by kernel_rfl
 i212 := by kernel_rfl
 i232 := by kernel_rfl
 i233 := by kernel_rfl
 m17 := by kernel_rfl
 m18 := by kernel_rfl
 m19 := by kernel_rfl }

theorem lays_Extra : Builder.Extra Go.Proofs.Tryd.prog lays_n156_ren := {
 sizeBuilder := by kernel_rfl
 liesBuilder := by kernel_rfl
 t5 := Go.Proofs.Tryd.underlying5
 a5 := Go.Proofs.Tryd.isAgg5
 z5 := Go.Proofs.Tryd.sizeOf5
 v5 := Go.Proofs.Tryd.zeroValue5
 infoByte := by kernel_rfl
 cellsByte := by kernel_rfl
 sizeByte := by kernel_rfl
 neB5 := by decide }

theorem cw_szMailS {a0 : (List Gw_Mail)} {a1 : Int} {r : Int} (H : Dw_szMailS a0 a1 = some r) : Ct X.P X.gl 5 [sl 3 gw_Mail a0, I a1] [] (RI r) [] :=
 Ct.of func5 (c := bdy f5) (by kernel_rfl) (by kernel_rfl) <|
 gS [r0, r0] (by kernel_rfl) P0 <|
 eIf H (fun h1 H =>
 eW RI (fun _ => []) H<|gE func5 [rg [hT 1], r0] (by kernel_rfl) (P2 ((decide ((IntKind.wrap .i64 (a1 - ((a0.length : Nat) : Int))) < 0)) = true) (decide_eq_true h1)<|P0))
 (fun h1 H =>
 eW RI (fun _ => []) H<|gE func5 [rg [hF 1], r0] (by kernel_rfl) (P2 ((decide ((IntKind.wrap .i64 (a1 - ((a0.length : Nat) : Int))) < 0)) = false) (decide_eq_false h1)<|P0))
def Rw_toMail (r : Gi_Mail) : List D := [.agg [I r.Turn, I r.Side, I r.Seal]]
theorem cw_toMail {a0 : Gw_Mail} {r : Gi_Mail} (H : Dw_toMail a0 = some r) : Ct X.P X.gl 16 [gw_Mail a0] [] (Rw_toMail r) [] :=
 Ct.of func16 (c := bdy f16) (by kernel_rfl) (by kernel_rfl) <|
 eW Rw_toMail (fun _ => []) H<|gE func16 [r0, r0, r0, r0, r0, r0] (by kernel_rfl) P0
def Rw_toMailS (r : (List Gi_Mail)) : List D := [ow 3 gi_Mail r]
noncomputable def Kw_toMailS : Sw_toMailS → List Item
 | .h1 .. => nav 300 3 [] [.code (bdy f7)]
def Zw_toMailS : Sw_toMailS → St
 | .h1 va0 i1 l2 => ⟨sts 23 [(0, sl 3 gw_Mail va0), (3, .ref 0 3 none), (4, I i1)], [some ⟨false, false, 3, l2.length, List.map gi_Mail l2⟩]⟩
abbrev Qw_toMailS := Nx X 7 0 Kw_toMailS Zw_toMailS Rw_toMailS (fun _ => [])
theorem nw_toMailS : ∀ s o, Bw_toMailS s = some o → Qw_toMailS (Kw_toMailS s) (Zw_toMailS s) o
 | .h1 va0 i1 l2, o, H =>
  eIf H (fun h1 H =>
  eCk H fun h2 H =>
  eBind H fun x3 hx3 H =>
  eBind H fun r4 hr4 H =>
  eCk H fun h5 H =>
  eBind H fun x6 hx6 H =>
  eN H fun r hn => gO [rg [hT 3], rg [hE 5 (gw_Mail x3), hC 6 true [] (Rw_toMail r4) [], hA 8 ((List.set l2 (Int.toNat i1) r4).length) (List.map gi_Mail (List.set l2 (Int.toNat i1) r4))], r0, .canon [0] [0, 3, 4]] (by kernel_rfl) (P2 ((decide (i1 < ((va0.length : Nat) : Int))) = true) (decide_eq_true h1)<|P1 h2<|P1 (int_lt_of_at h2 hx3)<|P1 (at_map gw_Mail hx3)<|P1 (cw_toMail hr4)<|P1 h5<|P1 (int_lt_of_at h5 hx6)<|P1 (lt_of_at hx6)<|P2 (setCells (List.map gi_Mail l2) (Int.toNat i1) 0 [I r4.Turn, I r4.Side, I r4.Seal] = List.map gi_Mail (List.set l2 (Int.toNat i1) r4)) (setCells_map hx6 rfl)<|P1 (setLen l2 (Int.toNat i1) r4)<|P0) hn)
  (fun h1 H =>
  eN H<|gE func7 [rg [hF 3], r0] (by kernel_rfl) (P2 ((decide (i1 < ((va0.length : Nat) : Int))) = false) (decide_eq_false h1)<|P0))
theorem ww_toMailS : ∀ s r, loop Bw_toMailS s = some r → Wc X 7 0 (Kw_toMailS s) (Zw_toMailS s) (Rw_toMailS r) ((fun _ => []) r) := Nx.all (nw_toMailS)
theorem cw_toMailS {a0 : (List Gw_Mail)} {r : (List Gi_Mail)} (H : Dw_toMailS a0 = some r) : Ct X.P X.gl 7 [sl 3 gw_Mail a0] [] (Rw_toMailS r) [] :=
 Ct.of func7 (c := bdy f7) (by kernel_rfl) (by kernel_rfl) <|
 eCk H fun h1 H =>
 gO [r0, rg [hA 2 ((List.replicate (Int.toNat ((a0.length : Nat) : Int)) (Gi_Mail.mk 0 0 0)).length) (List.map gi_Mail (List.replicate (Int.toNat ((a0.length : Nat) : Int)) (Gi_Mail.mk 0 0 0)))], r0, .canon [0] [0, 3, 4]] (by kernel_rfl) (PI (((a0.length : Nat) : Int) : Int)<|P2 ((0 : Int) ≤ ((a0.length : Nat) : Int)) (by omega)<|P2 (Int.toNat ((a0.length : Nat) : Int) * 24 ≤ 140737488355328) h1<|P1 (repLen (Int.toNat ((a0.length : Nat) : Int)) (Gi_Mail.mk 0 0 0))<|P1 (repMap gi_Mail (Int.toNat ((a0.length : Nat) : Int)) (Gi_Mail.mk 0 0 0))<|P0) (ww_toMailS _ _ H)
theorem cs_l1In {a0 : Int} {a1 : Int} {a2 : Int} {r : Bool} (H : Ds_l1In a0 a1 a2 = some r) : Ct X.P X.gl 26 [I a0, I a1, I a2] [] (RB r) [] :=
 Ct.of func26 (c := bdy f26) (by kernel_rfl) (by kernel_rfl) <|
 gS [r0] (by kernel_rfl) P0 <|
 eIf H (fun h1 H =>
 eW RB (fun _ => []) H<|gE func26 [rg [hT 2]] (by kernel_rfl) (P2 ((decide (a0 ≥ a1)) = true) (decide_eq_true h1)<|P0))
 (fun h1 H =>
 eW RB (fun _ => []) H<|gE func26 [rg [hF 2]] (by kernel_rfl) (P2 ((decide (a0 ≥ a1)) = false) (decide_eq_false h1)<|P0))
theorem cs_dSeed {a0 : Int} {r : Bool} (H : Ds_dSeed a0 = some r) : Ct X.P X.gl 27 [I a0] [] (RB r) [] :=
 Ct.of func27 (c := bdy f27) (by kernel_rfl) (by kernel_rfl) <|
 eBind H fun r1 hr1 H =>
 eW RB (fun _ => []) H<|gE func27 [r0, rg [hC 1 true [] (RB r1) []]] (by kernel_rfl) (P1 (cs_l1In hr1)<|P0)
theorem cs_nKey {a0 : Gi_Mail} {r : Int} (H : Ds_nKey a0 = some r) : Ct X.P X.gl 28 [gi_Mail a0] [] (RI r) [] :=
 Ct.of func28 (c := bdy f28) (by kernel_rfl) (by kernel_rfl) <|
 eW RI (fun _ => []) H<|gE func28 [r0, r0] (by kernel_rfl) P0
noncomputable def Ks_nMails : Ss_nMails → List Item
 | .h1 .. => nav 300 2 [] [.code (bdy f14)]
def Zs_nMails : Ss_nMails → St
 | .h1 l0 t1 t2 t3 => ⟨sts 47 [(0, sl 3 gi_Mail l0), (5, sl 3 gi_Mail t1), (6, I t2), (7, I t3)], []⟩
abbrev Qs_nMails := Nx X 14 0 Ks_nMails Zs_nMails RB (fun _ => [])
theorem ns_nMails : ∀ s o, Bs_nMails s = some o → Qs_nMails (Ks_nMails s) (Zs_nMails s) o
 | .h1 l0 t1 t2 t3, o, H =>
  eIf H (fun h1 H =>
  eCk H fun h2 H =>
  eBind H fun x3 hx3 H =>
  eBind H fun r4 hr4 H =>
  gN [rg [hT 0], rg [hE 2 (gi_Mail x3)]] (by kernel_rfl) (P2 ((decide (t3 < t2)) = true) (decide_eq_true h1)<|P1 h2<|P1 (int_lt_of_at h2 hx3)<|P1 (at_map gi_Mail hx3)<|P0) <|
  eIf H (fun h5 H =>
  eBind H fun r6 hr6 H =>
  eIf H (fun h7 H =>
  eBind H fun r8 hr8 H =>
  eIf H (fun h9 H =>
  eIf H (fun h10 H =>
  eCk H fun h11 H =>
  eBind H fun x12 hx12 H =>
  eBind H fun r13 hr13 H =>
  eBind H fun r14 hr14 H =>
  eIf H (fun h15 H =>
  eN H<|gE func14 [rg [{ i := 2, call := some { cl := true, auto := true, ins := [], res := (RB r4), G' := [] }, dec := some true }, { i := 7, call := some { cl := true, auto := true, ins := [], res := (RB r6), G' := [] }, dec := some true }, { i := 13, call := some { cl := true, auto := true, ins := [], res := (RB r8), G' := [] }, dec := some true }, hT 18, hE 24 (gi_Mail x12), hC 25 true [] (RI r13) [], hC 27 true [] (RI r14) [], hT 28], r0] (by kernel_rfl) (P1 (cs_l1In hr4)<|P2 (r4 = true) (h5)<|P1 (cs_l1In hr6)<|P2 (r6 = true) (h7)<|P1 (cs_dSeed hr8)<|P2 (r8 = true) (h9)<|P2 ((decide (t3 > 0)) = true) (decide_eq_true h10)<|P1 h11<|P1 (int_lt_of_at h11 hx12)<|P1 (at_map gi_Mail hx12)<|P1 (cs_nKey hr13)<|P1 (cs_nKey hr14)<|P2 ((decide (r13 ≥ r14)) = true) (decide_eq_true h15)<|P0))
  (fun h15 H =>
  eN H fun r hn => gO [rg [{ i := 2, call := some { cl := true, auto := true, ins := [], res := (RB r4), G' := [] }, dec := some true }, { i := 7, call := some { cl := true, auto := true, ins := [], res := (RB r6), G' := [] }, dec := some true }, { i := 13, call := some { cl := true, auto := true, ins := [], res := (RB r8), G' := [] }, dec := some true }, hT 18, hE 24 (gi_Mail x12), hC 25 true [] (RI r13) [], hC 27 true [] (RI r14) [], hF 28], r0, .canon [] [0, 5, 6, 7]] (by kernel_rfl) (P1 (cs_l1In hr4)<|P2 (r4 = true) (h5)<|P1 (cs_l1In hr6)<|P2 (r6 = true) (h7)<|P1 (cs_dSeed hr8)<|P2 (r8 = true) (h9)<|P2 ((decide (t3 > 0)) = true) (decide_eq_true h10)<|P1 h11<|P1 (int_lt_of_at h11 hx12)<|P1 (at_map gi_Mail hx12)<|P1 (cs_nKey hr13)<|P1 (cs_nKey hr14)<|P2 ((decide (r13 ≥ r14)) = false) (decide_eq_false h15)<|P0) hn))
  (fun h10 H =>
  eN H fun r hn => gO [rg [{ i := 2, call := some { cl := true, auto := true, ins := [], res := (RB r4), G' := [] }, dec := some true }, { i := 7, call := some { cl := true, auto := true, ins := [], res := (RB r6), G' := [] }, dec := some true }, { i := 13, call := some { cl := true, auto := true, ins := [], res := (RB r8), G' := [] }, dec := some true }, hF 18], r0, .canon [] [0, 5, 6, 7]] (by kernel_rfl) (P1 (cs_l1In hr4)<|P2 (r4 = true) (h5)<|P1 (cs_l1In hr6)<|P2 (r6 = true) (h7)<|P1 (cs_dSeed hr8)<|P2 (r8 = true) (h9)<|P2 ((decide (t3 > 0)) = false) (decide_eq_false h10)<|P0) hn))
  (fun h9 H =>
  eN H<|gE func14 [rg [{ i := 2, call := some { cl := true, auto := true, ins := [], res := (RB r4), G' := [] }, dec := some true }, { i := 7, call := some { cl := true, auto := true, ins := [], res := (RB r6), G' := [] }, dec := some true }, { i := 13, call := some { cl := true, auto := true, ins := [], res := (RB r8), G' := [] }, dec := some false }], r0] (by kernel_rfl) (P1 (cs_l1In hr4)<|P2 (r4 = true) (h5)<|P1 (cs_l1In hr6)<|P2 (r6 = true) (h7)<|P1 (cs_dSeed hr8)<|P2 (r8 = false) (eqF h9)<|P0)))
  (fun h7 H =>
  eN H<|gE func14 [rg [{ i := 2, call := some { cl := true, auto := true, ins := [], res := (RB r4), G' := [] }, dec := some true }, { i := 7, call := some { cl := true, auto := true, ins := [], res := (RB r6), G' := [] }, dec := some false }], r0] (by kernel_rfl) (P1 (cs_l1In hr4)<|P2 (r4 = true) (h5)<|P1 (cs_l1In hr6)<|P2 (r6 = false) (eqF h7)<|P0)))
  (fun h5 H =>
  eN H<|gE func14 [rg [{ i := 2, call := some { cl := true, auto := true, ins := [], res := (RB r4), G' := [] }, dec := some false }], r0] (by kernel_rfl) (P1 (cs_l1In hr4)<|P2 (r4 = false) (eqF h5)<|P0)))
  (fun h1 H =>
  eN H<|gE func14 [rg [hF 0], r0] (by kernel_rfl) (P2 ((decide (t3 < t2)) = false) (decide_eq_false h1)<|P0))
theorem ws_nMails : ∀ s r, loop Bs_nMails s = some r → Wc X 14 0 (Ks_nMails s) (Zs_nMails s) (RB r) ((fun _ => []) r) := Nx.all (ns_nMails)
theorem cs_nMails {a0 : (List Gi_Mail)} {r : Bool} (H : Ds_nMails a0 = some r) : Ct X.P X.gl 14 [sl 3 gi_Mail a0] [] (RB r) [] :=
 Ct.of func14 (c := bdy f14) (by kernel_rfl) (by kernel_rfl) <|
 gO [r0, r0, .canon [] [0, 5, 6, 7]] (by kernel_rfl) P0 (ws_nMails _ _ H)
def Rs_l1Num (r : ByteArray) : List D := [.str r]
theorem ks_l1Num {rec_ : Int → Option (ByteArray)} (ih : ∀ (a0 : Int) (r : ByteArray), rec_ a0 = some r → Ct X.P X.gl 29 [I a0] [] (Rs_l1Num r) []) {a0 : Int} {r : ByteArray} (H : Fs_l1Num rec_ a0 = some r) : Ct X.P X.gl 29 [I a0] [] (Rs_l1Num r) [] :=
 Ct.of func29 (c := bdy f29) (by kernel_rfl) (by kernel_rfl) <|
 gS [r0] (by kernel_rfl) P0 <|
 eIf H (fun h1 H =>
 eCk H fun h2 H =>
 eW Rs_l1Num (fun _ => []) H<|gE func29 [rg [hT 1], rg [{ i := 4, s := (bytesOf [(IntKind.wrap .u8 (IntKind.wrap .i64 (48 + a0)))]) }]] (by kernel_rfl) (P2 ((decide (a0 < 10)) = true) (decide_eq_true h1)<|P1 (bytesD_of h2)<|P0))
 (fun h1 H =>
 eBind H fun r2 hr2 H =>
 eCk H fun h3 H =>
 eCk H fun h4 H =>
 eW Rs_l1Num (fun _ => []) H<|gE func29 [rg [hF 1], rg [hC 2 true [] (Rs_l1Num r2) [], { i := 8, s := (bytesOf [(IntKind.wrap .u8 (IntKind.wrap .i64 (48 + (Int.tmod a0 10))))]) }]] (by kernel_rfl) (P2 ((decide (a0 < 10)) = false) (decide_eq_false h1)<|P2 (¬ (10 : Int) = 0) (by decide)<|P1 (ih _ _ hr2)<|P2 (¬ (10 : Int) = 0) (by decide)<|P1 (bytesD_of h3)<|P1 h4<|P0))
theorem crs_l1Num : ∀ (n_ : Nat) (a0 : Int) (r : ByteArray), Ds_l1Num n_ a0 = some r → Ct X.P X.gl 29 [I a0] [] (Rs_l1Num r) []
 | 0, a0, r, H => nomatch (show (none : Option (ByteArray)) = some r from H)
 | n_ + 1, a0, r, H => ks_l1Num (crs_l1Num n_) H
theorem cs_l1Num {n_ : Nat} {a0 : Int} {r : ByteArray} (H : Ds_l1Num n_ a0 = some r) : Ct X.P X.gl 29 [I a0] [] (Rs_l1Num r) [] := crs_l1Num n_ a0 r H
def Rs_nText (r : ByteArray) : List D := [.str r]
noncomputable def Ks_nText : Ss_nText → List Item
 | .h1 .. => nav 300 3 [] [.code (bdy f15)]
def Zs_nText : Ss_nText → St
 | .h1 s0 t1 t2 t3 => ⟨sts 31 [(3, .str s0), (6, sl 3 gi_Mail t1), (7, I t2), (8, I t3)], []⟩
abbrev Qs_nText := Nx X 15 0 Ks_nText Zs_nText Rs_nText (fun _ => [])
theorem ns_nText : ∀ s o, Bs_nText s = some o → Qs_nText (Ks_nText s) (Zs_nText s) o
 | .h1 s0 t1 t2 t3, o, H =>
  eIf H (fun h1 H =>
  eCk H fun h2 H =>
  eBind H fun x3 hx3 H =>
  eBind H fun r4 hr4 H =>
  eCk H fun h5 H =>
  eCk H fun h6 H =>
  eBind H fun r7 hr7 H =>
  eCk H fun h8 H =>
  eCk H fun h9 H =>
  eBind H fun r10 hr10 H =>
  eCk H fun h11 H =>
  eCk H fun h12 H =>
  eCk H fun h13 H =>
  eN H fun r hn => gO [rg [hT 0], rg [hE 1 (gi_Mail x3)], rg [hC 3 true [] (Rs_l1Num r4) [], hC 8 true [] (Rs_l1Num r7) [], hC 13 true [] (Rs_l1Num r10) []], r0, .canon [] [3, 6, 7, 8]] (by kernel_rfl) (P2 ((decide (t3 < t2)) = true) (decide_eq_true h1)<|P1 h2<|P1 (int_lt_of_at h2 hx3)<|P1 (at_map gi_Mail hx3)<|P1 (cs_l1Num hr4)<|P1 h5<|P1 h6<|P1 (cs_l1Num hr7)<|P1 h8<|P1 h9<|P1 (cs_l1Num hr10)<|P1 h11<|P1 h12<|P1 h13<|P0) hn)
  (fun h1 H =>
  eN H<|gE func15 [rg [hF 0], r0] (by kernel_rfl) (P2 ((decide (t3 < t2)) = false) (decide_eq_false h1)<|P0))
theorem ws_nText : ∀ s r, loop Bs_nText s = some r → Wc X 15 0 (Ks_nText s) (Zs_nText s) (Rs_nText r) ((fun _ => []) r) := Nx.all (ns_nText)
theorem cs_nText {a0 : (List Gi_Mail)} {r : ByteArray} (H : Ds_nText a0 = some r) : Ct X.P X.gl 15 [sl 3 gi_Mail a0] [] (Rs_nText r) [] :=
 Ct.of func15 (c := bdy f15) (by kernel_rfl) (by kernel_rfl) <|
 gO [r0, r0, r0, .canon [] [3, 6, 7, 8]] (by kernel_rfl) P0 (ws_nText _ _ H)
def Rs_MailText (r : ByteArray × Bool) : List D := [.str r.1, .bool r.2]
theorem cs_MailText {a0 : (List Gi_Mail)} {r : ByteArray × Bool} (H : Ds_MailText a0 = some r) : Ct X.P X.gl 6 [sl 3 gi_Mail a0] [] (Rs_MailText r) [] :=
 Ct.of func6 (c := bdy f6) (by kernel_rfl) (by kernel_rfl) <|
 eBind H fun r1 hr1 H =>
 gS [r0] (by kernel_rfl) P0 <|
 eIf H (fun h2 H =>
 eBind H fun r3 hr3 H =>
 eW Rs_MailText (fun _ => []) H<|gE func6 [rg [{ i := 1, call := some { cl := true, auto := true, ins := [], res := (RB r1), G' := [] }, dec := some true }], rg [hC 1 true [] (Rs_nText r3) []]] (by kernel_rfl) (P1 (cs_nMails hr1)<|P2 (r1 = true) (h2)<|P1 (cs_nText hr3)<|P0))
 (fun h2 H =>
 eW Rs_MailText (fun _ => []) H<|gE func6 [rg [{ i := 1, call := some { cl := true, auto := true, ins := [], res := (RB r1), G' := [] }, dec := some false }], r0] (by kernel_rfl) (P1 (cs_nMails hr1)<|P2 (r1 = false) (eqF h2)<|P0))
theorem ci_inRange {a0 : Int} {a1 : Int} {a2 : Int} {r : Bool} (H : Di_inRange a0 a1 a2 = some r) : Ct X.P X.gl 39 [I a0, I a1, I a2] [] (RB r) [] :=
 Ct.of func39 (c := bdy f39) (by kernel_rfl) (by kernel_rfl) <|
 gS [r0] (by kernel_rfl) P0 <|
 eIf H (fun h1 H =>
 eW RB (fun _ => []) H<|gE func39 [rg [hT 2]] (by kernel_rfl) (P2 ((decide (a1 ≤ a0)) = true) (decide_eq_true h1)<|P0))
 (fun h1 H =>
 eW RB (fun _ => []) H<|gE func39 [rg [hF 2]] (by kernel_rfl) (P2 ((decide (a1 ≤ a0)) = false) (decide_eq_false h1)<|P0))
theorem ci_isTurn {a0 : Int} {r : Bool} (H : Di_isTurn a0 = some r) : Ct X.P X.gl 30 [I a0] [] (RB r) [] :=
 Ct.of func30 (c := bdy f30) (by kernel_rfl) (by kernel_rfl) <|
 eBind H fun r1 hr1 H =>
 eW RB (fun _ => []) H<|gE func30 [r0, rg [hC 1 true [] (RB r1) []]] (by kernel_rfl) (P1 (ci_inRange hr1)<|P0)
theorem ci_isSide {a0 : Int} {r : Bool} (H : Di_isSide a0 = some r) : Ct X.P X.gl 31 [I a0] [] (RB r) [] :=
 Ct.of func31 (c := bdy f31) (by kernel_rfl) (by kernel_rfl) <|
 eBind H fun r1 hr1 H =>
 eW RB (fun _ => []) H<|gE func31 [r0, rg [hC 1 true [] (RB r1) []]] (by kernel_rfl) (P1 (ci_inRange hr1)<|P0)
theorem ci_isSeed {a0 : Int} {r : Bool} (H : Di_isSeed a0 = some r) : Ct X.P X.gl 32 [I a0] [] (RB r) [] :=
 Ct.of func32 (c := bdy f32) (by kernel_rfl) (by kernel_rfl) <|
 eBind H fun r1 hr1 H =>
 eW RB (fun _ => []) H<|gE func32 [r0, rg [hC 1 true [] (RB r1) []]] (by kernel_rfl) (P1 (ci_inRange hr1)<|P0)
theorem ci_compareMails {a0 : Gi_Mail} {a1 : Gi_Mail} {r : Int} (H : Di_compareMails a0 a1 = some r) : Ct X.P X.gl 33 [gi_Mail a0, gi_Mail a1] [] (RI r) [] :=
 Ct.of func33 (c := bdy f33) (by kernel_rfl) (by kernel_rfl) <|
 gS [r0] (by kernel_rfl) P0 <|
 eIf H (fun h1 H =>
 eW RI (fun _ => []) H<|gE func33 [rg [hF 4], r0] (by kernel_rfl) (P2 (((a0.Turn : Int) != a1.Turn) = false) (bneF h1)<|P0))
 (fun h1 H =>
 eW RI (fun _ => []) H<|gE func33 [rg [hT 4], r0] (by kernel_rfl) (P2 (((a0.Turn : Int) != a1.Turn) = true) (bneT h1)<|P0))
noncomputable def Ki_IsMailbox : Si_IsMailbox → List Item
 | .h1 .. => nav 300 3 [false] [.code (bdy f17)]
def Zi_IsMailbox : Si_IsMailbox → St
 | .h1 l0 t1 t2 t3 => ⟨sts 46 [(0, sl 3 gi_Mail l0), (8, sl 3 gi_Mail t1), (9, I t2), (10, I t3)], []⟩
abbrev Qi_IsMailbox := Nx X 17 0 Ki_IsMailbox Zi_IsMailbox RB (fun _ => [])
theorem ni_IsMailbox : ∀ s o, Bi_IsMailbox s = some o → Qi_IsMailbox (Ki_IsMailbox s) (Zi_IsMailbox s) o
 | .h1 l0 t1 t2 t3, o, H =>
  eIf H (fun h1 H =>
  eCk H fun h2 H =>
  eBind H fun x3 hx3 H =>
  eBind H fun r4 hr4 H =>
  gN [rg [hT 0], rg [hE 2 (gi_Mail x3)]] (by kernel_rfl) (P2 ((decide (t3 < t2)) = true) (decide_eq_true h1)<|P1 h2<|P1 (int_lt_of_at h2 hx3)<|P1 (at_map gi_Mail hx3)<|P0) <|
  eIf H (fun h5 H =>
  eBind H fun r6 hr6 H =>
  eIf H (fun h7 H =>
  eBind H fun r8 hr8 H =>
  eIf H (fun h9 H =>
  eIf H (fun h10 H =>
  eCk H fun h11 H =>
  eBind H fun x12 hx12 H =>
  eBind H fun r13 hr13 H =>
  eIf H (fun h14 H =>
  eN H<|gE func17 [rg [{ i := 2, call := some { cl := true, auto := true, ins := [], res := (RB r4), G' := [] }, dec := some true }, { i := 7, call := some { cl := true, auto := true, ins := [], res := (RB r6), G' := [] }, dec := some true }, { i := 13, call := some { cl := true, auto := true, ins := [], res := (RB r8), G' := [] }, dec := some true }, hT 18, hE 24 (gi_Mail x12), hC 26 true [] (RI r13) [], hT 27], r0] (by kernel_rfl) (P1 (ci_isTurn hr4)<|P2 (r4 = true) (h5)<|P1 (ci_isSide hr6)<|P2 (r6 = true) (h7)<|P1 (ci_isSeed hr8)<|P2 (r8 = true) (h9)<|P2 ((decide (t3 > 0)) = true) (decide_eq_true h10)<|P1 h11<|P1 (int_lt_of_at h11 hx12)<|P1 (at_map gi_Mail hx12)<|P1 (ci_compareMails hr13)<|P2 ((decide (r13 ≥ 0)) = true) (decide_eq_true h14)<|P0))
  (fun h14 H =>
  eN H fun r hn => gO [rg [{ i := 2, call := some { cl := true, auto := true, ins := [], res := (RB r4), G' := [] }, dec := some true }, { i := 7, call := some { cl := true, auto := true, ins := [], res := (RB r6), G' := [] }, dec := some true }, { i := 13, call := some { cl := true, auto := true, ins := [], res := (RB r8), G' := [] }, dec := some true }, hT 18, hE 24 (gi_Mail x12), hC 26 true [] (RI r13) [], hF 27], r0, .canon [] [0, 8, 9, 10]] (by kernel_rfl) (P1 (ci_isTurn hr4)<|P2 (r4 = true) (h5)<|P1 (ci_isSide hr6)<|P2 (r6 = true) (h7)<|P1 (ci_isSeed hr8)<|P2 (r8 = true) (h9)<|P2 ((decide (t3 > 0)) = true) (decide_eq_true h10)<|P1 h11<|P1 (int_lt_of_at h11 hx12)<|P1 (at_map gi_Mail hx12)<|P1 (ci_compareMails hr13)<|P2 ((decide (r13 ≥ 0)) = false) (decide_eq_false h14)<|P0) hn))
  (fun h10 H =>
  eN H fun r hn => gO [rg [{ i := 2, call := some { cl := true, auto := true, ins := [], res := (RB r4), G' := [] }, dec := some true }, { i := 7, call := some { cl := true, auto := true, ins := [], res := (RB r6), G' := [] }, dec := some true }, { i := 13, call := some { cl := true, auto := true, ins := [], res := (RB r8), G' := [] }, dec := some true }, hF 18], r0, .canon [] [0, 8, 9, 10]] (by kernel_rfl) (P1 (ci_isTurn hr4)<|P2 (r4 = true) (h5)<|P1 (ci_isSide hr6)<|P2 (r6 = true) (h7)<|P1 (ci_isSeed hr8)<|P2 (r8 = true) (h9)<|P2 ((decide (t3 > 0)) = false) (decide_eq_false h10)<|P0) hn))
  (fun h9 H =>
  eN H<|gE func17 [rg [{ i := 2, call := some { cl := true, auto := true, ins := [], res := (RB r4), G' := [] }, dec := some true }, { i := 7, call := some { cl := true, auto := true, ins := [], res := (RB r6), G' := [] }, dec := some true }, { i := 13, call := some { cl := true, auto := true, ins := [], res := (RB r8), G' := [] }, dec := some false }], r0] (by kernel_rfl) (P1 (ci_isTurn hr4)<|P2 (r4 = true) (h5)<|P1 (ci_isSide hr6)<|P2 (r6 = true) (h7)<|P1 (ci_isSeed hr8)<|P2 (r8 = false) (eqF h9)<|P0)))
  (fun h7 H =>
  eN H<|gE func17 [rg [{ i := 2, call := some { cl := true, auto := true, ins := [], res := (RB r4), G' := [] }, dec := some true }, { i := 7, call := some { cl := true, auto := true, ins := [], res := (RB r6), G' := [] }, dec := some false }], r0] (by kernel_rfl) (P1 (ci_isTurn hr4)<|P2 (r4 = true) (h5)<|P1 (ci_isSide hr6)<|P2 (r6 = false) (eqF h7)<|P0)))
  (fun h5 H =>
  eN H<|gE func17 [rg [{ i := 2, call := some { cl := true, auto := true, ins := [], res := (RB r4), G' := [] }, dec := some false }], r0] (by kernel_rfl) (P1 (ci_isTurn hr4)<|P2 (r4 = false) (eqF h5)<|P0)))
  (fun h1 H =>
  eN H<|gE func17 [rg [hF 0], r0] (by kernel_rfl) (P2 ((decide (t3 < t2)) = false) (decide_eq_false h1)<|P0))
theorem wi_IsMailbox : ∀ s r, loop Bi_IsMailbox s = some r → Wc X 17 0 (Ki_IsMailbox s) (Zi_IsMailbox s) (RB r) ((fun _ => []) r) := Nx.all (ni_IsMailbox)
theorem ci_IsMailbox {a0 : (List Gi_Mail)} {r : Bool} (H : Di_IsMailbox a0 = some r) : Ct X.P X.gl 17 [sl 3 gi_Mail a0] [] (RB r) [] :=
 Ct.of func17 (c := bdy f17) (by kernel_rfl) (by kernel_rfl) <|
 gS [r0] (by kernel_rfl) P0 <|
 eIf H (fun h1 H =>
 eW RB (fun _ => []) H<|gE func17 [rg [hT 2], r0] (by kernel_rfl) (P2 ((decide (((a0.length : Nat) : Int) > 20)) = true) (decide_eq_true h1)<|P0))
 (fun h1 H =>
 gO [rg [hF 2], r0, .canon [] [0, 8, 9, 10]] (by kernel_rfl) (P2 ((decide (((a0.length : Nat) : Int) > 20)) = false) (decide_eq_false h1)<|P0) (wi_IsMailbox _ _ H))
def Rstrconv_Itoa (r : ByteArray) : List D := [.str r]
theorem cstrconv_Itoa {a0 : Int} {r : ByteArray} (H : Dstrconv_Itoa a0 = some r) : Ct X.P X.gl 36 [I a0] [] (Rstrconv_Itoa r) [] :=
 eCk H fun h H => eRet (P := fun r => Ct X.P X.gl 36 [I a0] [] (Rstrconv_Itoa r) []) H<|ct_itoa (P := X.P) (ρ := lays_n171_ren) lays_n171 ⟨f36, func36, by kernel_rfl, by kernel_rfl⟩ (g := 5) (W := 20) (by kernel_rfl) (by kernel_rfl) h
def Rstrings_Join (r : ByteArray) : List D := [.str r]
theorem cstrings_Join {a0 : (List ByteArray)} {a1 : ByteArray} {r : ByteArray} (H : Dstrings_Join a0 a1 = some r) : Ct X.P X.gl 40 [sl 1 D.str a0, .str a1] [] (Rstrings_Join r) [] :=
 eCk H fun h H => eRet (P := fun r => Ct X.P X.gl 40 [sl 1 D.str a0, .str a1] [] (Rstrings_Join r) []) H<|ct_join (P := X.P) (ρ := lays_n156_ren) lays_n156 lays_Extra ⟨f40, func40, by kernel_rfl, by kernel_rfl⟩ h
def Ri_wordsText (r : ByteArray) : List D := [.str r]
noncomputable def Ki_wordsText : Si_wordsText → List Item
 | .h1 .. => nav 300 3 [] [.code (bdy f34)]
def Zi_wordsText : Si_wordsText → St
 | .h1 t0 t1 t2 l3 => ⟨sts 24 [(5, .ref 0 1 none), (10, sl 1 I t0), (11, I t1), (12, I t2)], [some ⟨false, false, 1, l3.length, List.map D.str l3⟩]⟩
abbrev Qi_wordsText := Nx X 34 0 Ki_wordsText Zi_wordsText Ri_wordsText (fun _ => [])
theorem ni_wordsText : ∀ s o, Bi_wordsText s = some o → Qi_wordsText (Ki_wordsText s) (Zi_wordsText s) o
 | .h1 t0 t1 t2 l3, o, H =>
  eIf H (fun h1 H =>
  eCk H fun h2 H =>
  eBind H fun x3 hx3 H =>
  eBind H fun r4 hr4 H =>
  eCk H fun h5 H =>
  eN H fun r hn => gO [rg [hT 0], rg [hE 1 (I x3)], rg [hC 2 true [] (Rstrconv_Itoa r4) [], hA 4 ((l3 ++ [r4]).length) (List.map D.str (l3 ++ [r4]))], r0, .canon [2] [5, 10, 11, 12]] (by kernel_rfl) (P2 ((decide (t2 < t1)) = true) (decide_eq_true h1)<|P1 h2<|P1 (int_lt_of_at h2 hx3)<|P1 (at_map I hx3)<|P1 (cstrconv_Itoa hr4)<|P1 (apL l3 [r4])<|P1 (apB h5)<|P1 (apM D.str l3 [r4])<|P0) hn)
  (fun h1 H =>
  eBind H fun r2 hr2 H =>
  eN H<|gE func34 [rg [hF 0], rg [hC 1 false [] (Rstrings_Join r2) []]] (by kernel_rfl) (P2 ((decide (t2 < t1)) = false) (decide_eq_false h1)<|P1 (cstrings_Join hr2)<|P0))
theorem wi_wordsText : ∀ s r, loop Bi_wordsText s = some r → Wc X 34 0 (Ki_wordsText s) (Zi_wordsText s) (Ri_wordsText r) ((fun _ => []) r) := Nx.all (ni_wordsText)
theorem ci_wordsText {a0 : ByteArray} {a1 : (List Int)} {r : ByteArray} (H : Di_wordsText a0 a1 = some r) : Ct X.P X.gl 34 [.str a0, sl 1 I a1] [] (Ri_wordsText r) [] :=
 Ct.of func34 (c := bdy f34) (by kernel_rfl) (by kernel_rfl) <|
 gO [r0, r0, r0, .canon [0] [5, 10, 11, 12]] (by kernel_rfl) P0 (wi_wordsText _ _ H)
def Ri_mailText (r : ByteArray) : List D := [.str r]
noncomputable def Ki_mailText : Si_mailText → List Item
 | .h1 .. => nav 300 3 [] [.code (bdy f18)]
def Zi_mailText : Si_mailText → St
 | .h1 out0 t1 t2 t3 => ⟨sts 25 [(3, .str out0), (6, sl 3 gi_Mail t1), (7, I t2), (8, I t3)], []⟩
abbrev Qi_mailText := Nx X 18 0 Ki_mailText Zi_mailText Ri_mailText (fun _ => [])
theorem ni_mailText : ∀ s o, Bi_mailText s = some o → Qi_mailText (Ki_mailText s) (Zi_mailText s) o
 | .h1 out0 t1 t2 t3, o, H =>
  eIf H (fun h1 H =>
  eCk H fun h2 H =>
  eBind H fun x3 hx3 H =>
  eBind H fun r4 hr4 H =>
  eCk H fun h5 H =>
  eCk H fun h6 H =>
  eN H fun r hn => gO [rg [hT 0], rg [hE 1 (gi_Mail x3)], rg [hC 8 false [] (Ri_wordsText r4) []], r0, .canon [] [3, 6, 7, 8]] (by kernel_rfl) (P2 ((decide (t3 < t2)) = true) (decide_eq_true h1)<|P1 h2<|P1 (int_lt_of_at h2 hx3)<|P1 (at_map gi_Mail hx3)<|P1 (ci_wordsText hr4)<|P1 h5<|P1 h6<|P0) hn)
  (fun h1 H =>
  eN H<|gE func18 [rg [hF 0], r0] (by kernel_rfl) (P2 ((decide (t3 < t2)) = false) (decide_eq_false h1)<|P0))
theorem wi_mailText : ∀ s r, loop Bi_mailText s = some r → Wc X 18 0 (Ki_mailText s) (Zi_mailText s) (Ri_mailText r) ((fun _ => []) r) := Nx.all (ni_mailText)
theorem ci_mailText {a0 : (List Gi_Mail)} {r : ByteArray} (H : Di_mailText a0 = some r) : Ct X.P X.gl 18 [sl 3 gi_Mail a0] [] (Ri_mailText r) [] :=
 Ct.of func18 (c := bdy f18) (by kernel_rfl) (by kernel_rfl) <|
 gO [r0, r0, r0, .canon [] [3, 6, 7, 8]] (by kernel_rfl) P0 (wi_mailText _ _ H)
def Ri_MailText (r : ByteArray × Bool) : List D := [.str r.1, .bool r.2]
theorem ci_MailText {a0 : (List Gi_Mail)} {r : ByteArray × Bool} (H : Di_MailText a0 = some r) : Ct X.P X.gl 8 [sl 3 gi_Mail a0] [] (Ri_MailText r) [] :=
 Ct.of func8 (c := bdy f8) (by kernel_rfl) (by kernel_rfl) <|
 eBind H fun r1 hr1 H =>
 gS [r0] (by kernel_rfl) P0 <|
 eIf H (fun h2 H =>
 eBind H fun r3 hr3 H =>
 eW Ri_MailText (fun _ => []) H<|gE func8 [rg [{ i := 1, call := some { cl := true, auto := true, ins := [], res := (RB r1), G' := [] }, dec := some true }], rg [hC 1 true [] (Ri_mailText r3) []]] (by kernel_rfl) (P1 (ci_IsMailbox hr1)<|P2 (r1 = true) (h2)<|P1 (ci_mailText hr3)<|P0))
 (fun h2 H =>
 eW Ri_MailText (fun _ => []) H<|gE func8 [rg [{ i := 1, call := some { cl := true, auto := true, ins := [], res := (RB r1), G' := [] }, dec := some false }], r0] (by kernel_rfl) (P1 (ci_IsMailbox hr1)<|P2 (r1 = false) (eqF h2)<|P0))
theorem cw_eqMail {a0 : Gi_Mail} {a1 : Gi_Mail} {r : Bool} (H : Dw_eqMail a0 a1 = some r) : Ct X.P X.gl 19 [gi_Mail a0, gi_Mail a1] [] (RB r) [] :=
 Ct.of func19 (c := bdy f19) (by kernel_rfl) (by kernel_rfl) <|
 gS [r0] (by kernel_rfl) P0 <|
 eIf H (fun h1 H =>
 gS [rg [hF 4]] (by kernel_rfl) (P2 (((a0.Turn : Int) != a1.Turn) = false) (bneF h1)<|P0) <|
 eIf H (fun h2 H =>
 gS [rg [hF 4]] (by kernel_rfl) (P2 (((a0.Side : Int) != a1.Side) = false) (bneF h2)<|P0) <|
 eIf H (fun h3 H =>
 eW RB (fun _ => []) H<|gE func19 [rg [hF 4], r0] (by kernel_rfl) (P2 (((a0.Seal : Int) != a1.Seal) = false) (bneF h3)<|P0))
 (fun h3 H =>
 eW RB (fun _ => []) H<|gE func19 [rg [hT 4], r0] (by kernel_rfl) (P2 (((a0.Seal : Int) != a1.Seal) = true) (bneT h3)<|P0)))
 (fun h2 H =>
 eW RB (fun _ => []) H<|gE func19 [rg [hT 4], r0] (by kernel_rfl) (P2 (((a0.Side : Int) != a1.Side) = true) (bneT h2)<|P0)))
 (fun h1 H =>
 eW RB (fun _ => []) H<|gE func19 [rg [hT 4], r0] (by kernel_rfl) (P2 (((a0.Turn : Int) != a1.Turn) = true) (bneT h1)<|P0))
noncomputable def Kw_eqMailS : Sw_eqMailS → List Item
 | .h1 .. => nav 300 3 [false] [.code (bdy f9)]
def Zw_eqMailS : Sw_eqMailS → St
 | .h1 va0 b1 i2 => ⟨sts 27 [(0, sl 3 gi_Mail va0), (1, sl 3 gi_Mail b1), (5, I i2)], []⟩
abbrev Qw_eqMailS := Nx X 9 0 Kw_eqMailS Zw_eqMailS RB (fun _ => [])
theorem nw_eqMailS : ∀ s o, Bw_eqMailS s = some o → Qw_eqMailS (Kw_eqMailS s) (Zw_eqMailS s) o
 | .h1 va0 b1 i2, o, H =>
  eIf H (fun h1 H =>
  eCk H fun h2 H =>
  eBind H fun x3 hx3 H =>
  eCk H fun h4 H =>
  eBind H fun x5 hx5 H =>
  eBind H fun r6 hr6 H =>
  gN [rg [hT 3]] (by kernel_rfl) (P2 ((decide (i2 < ((va0.length : Nat) : Int))) = true) (decide_eq_true h1)<|P0) <|
  eIf H (fun h7 H =>
  eN H fun r hn => gO [rg [hE 3 (gi_Mail x3), hE 7 (gi_Mail x5), { i := 8, call := some { cl := true, auto := true, ins := [], res := (RB r6), G' := [] }, dec := some true }], r0, .canon [] [0, 1, 5]] (by kernel_rfl) (P1 h2<|P1 (int_lt_of_at h2 hx3)<|P1 (at_map gi_Mail hx3)<|P1 h4<|P1 (int_lt_of_at h4 hx5)<|P1 (at_map gi_Mail hx5)<|P1 (cw_eqMail hr6)<|P2 (r6 = true) (h7)<|P0) hn)
  (fun h7 H =>
  eN H<|gE func9 [rg [hE 3 (gi_Mail x3), hE 7 (gi_Mail x5), { i := 8, call := some { cl := true, auto := true, ins := [], res := (RB r6), G' := [] }, dec := some false }], r0] (by kernel_rfl) (P1 h2<|P1 (int_lt_of_at h2 hx3)<|P1 (at_map gi_Mail hx3)<|P1 h4<|P1 (int_lt_of_at h4 hx5)<|P1 (at_map gi_Mail hx5)<|P1 (cw_eqMail hr6)<|P2 (r6 = false) (eqF h7)<|P0)))
  (fun h1 H =>
  eN H<|gE func9 [rg [hF 3], r0] (by kernel_rfl) (P2 ((decide (i2 < ((va0.length : Nat) : Int))) = false) (decide_eq_false h1)<|P0))
theorem ww_eqMailS : ∀ s r, loop Bw_eqMailS s = some r → Wc X 9 0 (Kw_eqMailS s) (Zw_eqMailS s) (RB r) ((fun _ => []) r) := Nx.all (nw_eqMailS)
theorem cw_eqMailS {a0 : (List Gi_Mail)} {a1 : (List Gi_Mail)} {r : Bool} (H : Dw_eqMailS a0 a1 = some r) : Ct X.P X.gl 9 [sl 3 gi_Mail a0, sl 3 gi_Mail a1] [] (RB r) [] :=
 Ct.of func9 (c := bdy f9) (by kernel_rfl) (by kernel_rfl) <|
 gS [r0] (by kernel_rfl) P0 <|
 eIf H (fun h1 H =>
 gO [rg [hF 4], r0, .canon [] [0, 1, 5]] (by kernel_rfl) (P2 (((((a0.length : Nat) : Int) : Int) != ((a1.length : Nat) : Int)) = false) (bneF h1)<|P0) (ww_eqMailS _ _ H))
 (fun h1 H =>
 eW RB (fun _ => []) H<|gE func9 [rg [hT 4], r0] (by kernel_rfl) (P2 (((((a0.length : Nat) : Int) : Int) != ((a1.length : Nat) : Int)) = true) (bneT h1)<|P0))
theorem cw_FnExactMailText {a0 : (List Gw_Mail)} {r : Bool} (H : Dw_FnExactMailText a0 = some r) : Ct X.P X.gl 3 [sl 3 gw_Mail a0] [] (RB r) [] :=
 Ct.of func3 (c := bdy f3) (by kernel_rfl) (by kernel_rfl) <|
 eBind H fun r1 hr1 H =>
 gS [r0, r0, rg [hC 2 true [] (RI r1) []]] (by kernel_rfl) (P1 (cw_szMailS hr1)<|P0) <|
 eIf H (fun h2 H =>
 eW RB (fun _ => []) H<|gE func3 [rg [hT 1], r0] (by kernel_rfl) (P2 ((decide (r1 < 0)) = true) (decide_eq_true h2)<|P0))
 (fun h2 H =>
 eBind H fun r3 hr3 H =>
 eBind H fun r4 hr4 H =>
 eBind H fun r5 hr5 H =>
 eBind H fun r6 hr6 H =>
 gS [rg [hF 1], rg [hC 1 true [] (Rw_toMailS r3) [], hC 2 false [] (Rs_MailText r4) []], rg [hC 1 true [] (Rw_toMailS r5) []], rg [hC 1 false [] (Ri_MailText r6) []]] (by kernel_rfl) (P2 ((decide (r1 < 0)) = false) (decide_eq_false h2)<|P1 (cw_toMailS hr3)<|P1 (cs_MailText hr4)<|P1 (cw_toMailS hr5)<|P1 (ci_MailText hr6)<|P0) <|
 eIf H (fun h7 H =>
 eIf H (fun h8 H =>
 eW RB (fun _ => []) H<|gE func3 [rg [hF 2, hT 6], r0] (by kernel_rfl) (P2 ((!(r6.1 == r4.1)) = false) (nbeqF h7)<|P2 ((!(r6.2 == r4.2)) = true) (h8)<|P0))
 (fun h8 H =>
 eBind H fun r9 hr9 H =>
 eBind H fun r10 hr10 H =>
 gS [rg [hF 2, hF 6]] (by kernel_rfl) (P2 ((!(r6.1 == r4.1)) = false) (nbeqF h7)<|P2 ((!(r6.2 == r4.2)) = false) (eqF h8)<|P0) <|
 eIf H (fun h11 H =>
 eW RB (fun _ => []) H<|gE func3 [rg [hC 2 true [] (Rw_toMailS r9) [], { i := 3, call := some { cl := false, auto := true, ins := [], res := (RB r10), G' := [] }, dec := some true }], r0] (by kernel_rfl) (P1 (cw_toMailS hr9)<|P1 (cw_eqMailS hr10)<|P2 (r10 = true) (h11)<|P0))
 (fun h11 H =>
 eW RB (fun _ => []) H<|gE func3 [rg [hC 2 true [] (Rw_toMailS r9) [], { i := 3, call := some { cl := false, auto := true, ins := [], res := (RB r10), G' := [] }, dec := some false }], r0] (by kernel_rfl) (P1 (cw_toMailS hr9)<|P1 (cw_eqMailS hr10)<|P2 (r10 = false) (eqF h11)<|P0))))
 (fun h7 H =>
 eW RB (fun _ => []) H<|gE func3 [rg [hT 2], r0] (by kernel_rfl) (P2 ((!(r6.1 == r4.1)) = true) (nbeqT h7)<|P0)))
end Go.Proofs.YtogomlkoocbhcaaDoor.Ab
