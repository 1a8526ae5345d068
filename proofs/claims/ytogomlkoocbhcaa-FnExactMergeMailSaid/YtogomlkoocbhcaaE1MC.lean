/- Part of the proof of FnExactMergeMail: no condition of its own. -/
import Derived.Test.YtogomlkoocbhcaaAb5
import Derived.Test.YtogomlkoocbhcaaChecked
import Derived.Test.YtogomlkoocbhcaaE1MD
set_option linter.unusedVariables false
set_option linter.unusedSimpArgs false
open Go Go.Proofs Go.Proofs.Try
namespace Go.Proofs.Ytogomlkoocbhcaa.Ab
def T : Tab := [(3, ⟨(TK.int IntKind.i64), 1, 8, I 0⟩),
 (4, ⟨TK.bool, 1, 1, (D.bool false)⟩),
 (22, ⟨(TK.slice 35), 1, 24, D.nil⟩),
 (24, ⟨(TK.slice 33), 1, 24, D.nil⟩),
 (33, ⟨(TK.strct [(FI.mk 0 1 false), (FI.mk 1 1 false), (FI.mk 2 1 false)] (some [(LK.int IntKind.i64), (LK.int IntKind.i64), (LK.int IntKind.i64)])), 3, 24, (D.agg [I 0, I 0, I 0])⟩),
 (35, ⟨(TK.strct [(FI.mk 0 1 false), (FI.mk 1 1 false), (FI.mk 2 1 false)] (some [(LK.int IntKind.i64), (LK.int IntKind.i64), (LK.int IntKind.i64)])), 3, 24, (D.agg [I 0, I 0, I 0])⟩),
 (47, ⟨(TK.int IntKind.u64), 1, 8, (D.int IntKind.u64 (Int.ofNat 0))⟩)]
noncomputable def X : Ctx := ⟨Go.Proofs.Try.prog, T, []⟩
theorem T_ok : TabOK X.P X.T := ⟨by kernel_rfl, by kernel_rfl, by kernel_rfl, by kernel_rfl, by kernel_rfl, by kernel_rfl, by kernel_rfl, trivial⟩
theorem mixed : X.P.follows .mixedOrders = true := Go.Proofs.Try.checked.mixed
theorem gO {f : FuncId} {M : Nat} {k k' : List Item} {σ σ' : St} {res : List D} {G' : List Root} (cmds : List Cmd) {ps : List Prop} (h : run X M cmds k σ = some (ps, k', σ')) (hp : AllP ps) (hk : Wc X f M k' σ' res G') : Wc X f M k σ res G' := run_ok T_ok mixed h hp hk
theorem gE {f : FuncId} {M : Nat} {k : List Item} {σ : St} {res : List D} {G' : List Root} {fn : Func} (hf : X.P.funcs[f]? = some fn) (cmds : List Cmd) {ps : List Prop} (h : runFinC X M cmds k σ fn.results.toList res = some (ps, res, G')) (hp : AllP ps) : Wc X f M k σ res G' := runFinC_ok T_ok mixed hf h hp
theorem gS {f : FuncId} {M : Nat} {k : List Item} {σ : St} {res : List D} {G' : List Root} (cmds : List Cmd) {ps : List Prop} (h : runP X M cmds k σ = some ps) (hp : AllP ps) (hk : Wc X f M (runK X M cmds k σ) (runS X M cmds k σ) res G') : Wc X f M k σ res G' := seg_ok T_ok mixed cmds h hp hk
theorem gN {ς ρ : Type} {f : FuncId} {M : Nat} {K : ς → List Item} {Z : ς → St} {R : ρ → List D} {G : ρ → List Root} {k : List Item} {σ : St} {o : ς ⊕ ρ} (cmds : List Cmd) {ps : List Prop} (h : runP X M cmds k σ = some ps) (hp : AllP ps) (hk : Nx X f M K Z R G (runK X M cmds k σ) (runS X M cmds k σ) o) : Nx X f M K Z R G k σ o := segN_ok T_ok mixed cmds h hp hk
theorem nf_33 : ∀ x, (gi_Mail x).nf := fun x => by simp [gi_Mail, D.nf, nfL]
def lays_g19_ren : Go.Shelf.Ren := ⟨fun | 6 => 19 | 15 => 28 | 14 => 27 | 28 => 38 | 29 => 39 | 20 => 30 | 21 => 31 | 22 => 32 | 23 => 33 | 24 => 34 | 25 => 35 | 26 => 36 | 27 => 37 | 46 => 40 | 47 => 41 | 48 => 42 | 49 => 43 | 50 => 44 | 57 => 45 | n => n, fun | 22 => 24 | 24 => 33 | 25 => 37 | 3 => 3 | 39 => 47 | 0 => 0 | 53 => 57 | 55 => 59 | 4 => 4 | 46 => 50 | 45 => 49 | 50 => 54 | 5 => 5 | 9 => 9 | 66 => 60 | 70 => 64 | 76 => 66 | 77 => 67 | n => n, fun | n => n⟩
theorem lays_g19 : Go.Proofs.SlLaysF0.n6 Go.Proofs.Try.prog lays_g19_ren := {
 mixed := by kernel_rfl
 f6 := ⟨Go.Proofs.Try.f19.name, by decide, Go.Proofs.Try.func19.trans (congrArg some (by kernel_rfl))⟩
 f14 := ⟨Go.Proofs.Try.f27.name, by decide, Go.Proofs.Try.func27.trans (congrArg some (by kernel_rfl))⟩
 f15 := Go.Proofs.Try.func28.trans (congrArg some (by kernel_rfl))
 f20 := ⟨Go.Proofs.Try.f30.name, by decide, Go.Proofs.Try.func30.trans (congrArg some (by kernel_rfl))⟩
 f21 := ⟨Go.Proofs.Try.f31.name, by decide, Go.Proofs.Try.func31.trans (congrArg some (by kernel_rfl))⟩
 f22 := ⟨Go.Proofs.Try.f32.name, by decide, Go.Proofs.Try.func32.trans (congrArg some (by kernel_rfl))⟩
 f23 := ⟨Go.Proofs.Try.f33.name, by decide, Go.Proofs.Try.func33.trans (congrArg some (by kernel_rfl))⟩
 f24 := ⟨Go.Proofs.Try.f34.name, by decide, Go.Proofs.Try.func34.trans (congrArg some (by kernel_rfl))⟩
 f25 := ⟨Go.Proofs.Try.f35.name, by decide, Go.Proofs.Try.func35.trans (congrArg some (by kernel_rfl))⟩
 f26 := ⟨Go.Proofs.Try.f36.name, by decide, Go.Proofs.Try.func36.trans (congrArg some (by kernel_rfl))⟩
 f27 := ⟨Go.Proofs.Try.f37.name, by decide, Go.Proofs.Try.func37.trans (congrArg some (by kernel_rfl))⟩
 f28 := Go.Proofs.Try.func38.trans (congrArg some (by kernel_rfl))
 f29 := Go.Proofs.Try.func39.trans (congrArg some (by kernel_rfl))
 f46 := ⟨Go.Proofs.Try.f40.name, by decide, Go.Proofs.Try.func40.trans (congrArg some (by kernel_rfl))⟩
 f47 := Go.Proofs.Try.func41.trans (congrArg some (by kernel_rfl))
 f48 := Go.Proofs.Try.func42.trans (congrArg some (by kernel_rfl))
 f49 := ⟨Go.Proofs.Try.f43.name, by decide, Go.Proofs.Try.func43.trans (congrArg some (by kernel_rfl))⟩
 f50 := ⟨Go.Proofs.Try.f44.name, by decide, Go.Proofs.Try.func44.trans (congrArg some (by kernel_rfl))⟩
 f57 := ⟨Go.Proofs.Try.f45.name, by decide, Go.Proofs.Try.func45.trans (congrArg some (by kernel_rfl))⟩
 t0 := Go.Proofs.Try.underlying0
 a0 := Go.Proofs.Try.isAgg0
 z0 := Go.Proofs.Try.sizeOf0
 v0 := Go.Proofs.Try.zeroValue0
 t3 := Go.Proofs.Try.underlying3
 a3 := Go.Proofs.Try.isAgg3
 z3 := Go.Proofs.Try.sizeOf3
 v3 := Go.Proofs.Try.zeroValue3
 t4 := Go.Proofs.Try.underlying4
 a4 := Go.Proofs.Try.isAgg4
 z4 := Go.Proofs.Try.sizeOf4
 v4 := Go.Proofs.Try.zeroValue4
 t5 := Go.Proofs.Try.underlying5
 a5 := Go.Proofs.Try.isAgg5
 z5 := Go.Proofs.Try.sizeOf5
 v5 := Go.Proofs.Try.zeroValue5
 t9 := Go.Proofs.Try.underlying9
 a9 := Go.Proofs.Try.isAgg9
 z9 := Go.Proofs.Try.sizeOf9
 v9 := Go.Proofs.Try.zeroValue9
 t22 := Go.Proofs.Try.underlying24
 a22 := Go.Proofs.Try.isAgg24
 z22 := Go.Proofs.Try.sizeOf24
 v22 := Go.Proofs.Try.zeroValue24
 t25 := Go.Proofs.Try.underlying37
 a25 := Go.Proofs.Try.isAgg37
 z25 := Go.Proofs.Try.sizeOf37
 v25 := Go.Proofs.Try.zeroValue37
 t39 := Go.Proofs.Try.underlying47
 a39 := Go.Proofs.Try.isAgg47
 z39 := Go.Proofs.Try.sizeOf47
 v39 := Go.Proofs.Try.zeroValue47
 t45 := Go.Proofs.Try.underlying49
 a45 := Go.Proofs.Try.isAgg49
 z45 := Go.Proofs.Try.sizeOf49
 v45 := Go.Proofs.Try.zeroValue49
 t46 := Go.Proofs.Try.underlying50
 a46 := Go.Proofs.Try.isAgg50
 z46 := Go.Proofs.Try.sizeOf50
 v46 := Go.Proofs.Try.zeroValue50
 t50 := Go.Proofs.Try.underlying54
 a50 := Go.Proofs.Try.isAgg54
 z50 := Go.Proofs.Try.sizeOf54
 v50 := Go.Proofs.Try.zeroValue54
 t53 := Go.Proofs.Try.underlying57
 a53 := Go.Proofs.Try.isAgg57
 z53 := Go.Proofs.Try.sizeOf57
 v53 := Go.Proofs.Try.zeroValue57
 t55 := Go.Proofs.Try.underlying59
 a55 := Go.Proofs.Try.isAgg59
 z55 := Go.Proofs.Try.sizeOf59
 v55 := Go.Proofs.Try.zeroValue59
 t66 := Go.Proofs.Try.underlying60
 a66 := Go.Proofs.Try.isAgg60
 z66 := Go.Proofs.Try.sizeOf60
 v66 := Go.Proofs.Try.zeroValue60
 t70 := Go.Proofs.Try.underlying64
 a70 := Go.Proofs.Try.isAgg64
 z70 := Go.Proofs.Try.sizeOf64
 v70 := Go.Proofs.Try.zeroValue64
 t76 := Go.Proofs.Try.underlying66
 a76 := Go.Proofs.Try.isAgg66
 z76 := Go.Proofs.Try.sizeOf66
 v76 := Go.Proofs.Try.zeroValue66
 t77 := Go.Proofs.Try.underlying67
 a77 := Go.Proofs.Try.isAgg67
 z77 := Go.Proofs.Try.sizeOf67
 v77 := Go.Proofs.Try.zeroValue67 }

theorem cw_szMailS {a0 : (List Gw_Mail)} {a1 : Int} {r : Int} (H : Dw_szMailS a0 a1 = some r) : Ct X.P X.gl 4 [sl 3 gw_Mail a0, I a1] [] (RI r) [] :=
 Ct.of func4 (c := bdy f4) (by kernel_rfl) (by kernel_rfl) <|
 gS [r0, r0] (by kernel_rfl) P0 <|
 eIf H (fun h1 H =>
 eW RI (fun _ => []) H<|gE func4 [rg [hT 1], r0] (by kernel_rfl) (P2 ((decide ((IntKind.wrap .i64 (a1 - ((a0.length : Nat) : Int))) < 0)) = true) (decide_eq_true h1)<|P0))
 (fun h1 H =>
 eW RI (fun _ => []) H<|gE func4 [rg [hF 1], r0] (by kernel_rfl) (P2 ((decide ((IntKind.wrap .i64 (a1 - ((a0.length : Nat) : Int))) < 0)) = false) (decide_eq_false h1)<|P0))
def Rw_toMail (r : Gi_Mail) : List D := [.agg [I r.Turn, I r.Side, I r.Seal]]
theorem cw_toMail {a0 : Gw_Mail} {r : Gi_Mail} (H : Dw_toMail a0 = some r) : Ct X.P X.gl 13 [gw_Mail a0] [] (Rw_toMail r) [] :=
 Ct.of func13 (c := bdy f13) (by kernel_rfl) (by kernel_rfl) <|
 eW Rw_toMail (fun _ => []) H<|gE func13 [r0, r0, r0, r0, r0, r0] (by kernel_rfl) P0
def Rw_toMailS (r : (List Gi_Mail)) : List D := [ow 3 gi_Mail r]
noncomputable def Kw_toMailS : Sw_toMailS → List Item
 | .h1 .. => nav 300 3 [] [.code (bdy f6)]
def Zw_toMailS : Sw_toMailS → St
 | .h1 va0 i1 l2 => ⟨sts 23 [(0, sl 3 gw_Mail va0), (3, .ref 0 3 none), (4, I i1)], [some ⟨false, false, 3, l2.length, List.map gi_Mail l2⟩]⟩
abbrev Qw_toMailS := Nx X 6 0 Kw_toMailS Zw_toMailS Rw_toMailS (fun _ => [])
theorem nw_toMailS : ∀ s o, Bw_toMailS s = some o → Qw_toMailS (Kw_toMailS s) (Zw_toMailS s) o
 | .h1 va0 i1 l2, o, H =>
  eIf H (fun h1 H =>
  eCk H fun h2 H =>
  eBind H fun x3 hx3 H =>
  eBind H fun r4 hr4 H =>
  eCk H fun h5 H =>
  eBind H fun x6 hx6 H =>
  eN H fun r hn => gO [rg [hT 3], rg [hE 5 (gw_Mail x3), hC 6 true [] (Rw_toMail r4) [], hA 8 ((List.set l2 (Int.toNat i1) r4).length) (List.map gi_Mail (List.set l2 (Int.toNat i1) r4))], r0, .canon [0] [0, 3, 4]] (by kernel_rfl) (P2 ((decide (i1 < ((va0.length : Nat) : Int))) = true) (decide_eq_true h1)<|P1 h2<|P1 (int_lt_of_at h2 hx3)<|P1 (at_map gw_Mail hx3)<|P1 (cw_toMail hr4)<|P1 h5<|P1 (int_lt_of_at h5 hx6)<|P1 (lt_of_at hx6)<|P2 (setCells (List.map gi_Mail l2) (Int.toNat i1) 0 [I r4.Turn, I r4.Side, I r4.Seal] = List.map gi_Mail (List.set l2 (Int.toNat i1) r4)) (setCells_map hx6 rfl)<|P1 (setLen l2 (Int.toNat i1) r4)<|P0) hn)
  (fun h1 H =>
  eN H<|gE func6 [rg [hF 3], r0] (by kernel_rfl) (P2 ((decide (i1 < ((va0.length : Nat) : Int))) = false) (decide_eq_false h1)<|P0))
theorem ww_toMailS : ∀ s r, loop Bw_toMailS s = some r → Wc X 6 0 (Kw_toMailS s) (Zw_toMailS s) (Rw_toMailS r) ((fun _ => []) r) := Nx.all (nw_toMailS)
theorem cw_toMailS {a0 : (List Gw_Mail)} {r : (List Gi_Mail)} (H : Dw_toMailS a0 = some r) : Ct X.P X.gl 6 [sl 3 gw_Mail a0] [] (Rw_toMailS r) [] :=
 Ct.of func6 (c := bdy f6) (by kernel_rfl) (by kernel_rfl) <|
 eCk H fun h1 H =>
 gO [r0, rg [hA 2 ((List.replicate (Int.toNat ((a0.length : Nat) : Int)) (Gi_Mail.mk 0 0 0)).length) (List.map gi_Mail (List.replicate (Int.toNat ((a0.length : Nat) : Int)) (Gi_Mail.mk 0 0 0)))], r0, .canon [0] [0, 3, 4]] (by kernel_rfl) (PI (((a0.length : Nat) : Int) : Int)<|P2 ((0 : Int) ≤ ((a0.length : Nat) : Int)) (by omega)<|P2 (Int.toNat ((a0.length : Nat) : Int) * 24 ≤ 140737488355328) h1<|P1 (repLen (Int.toNat ((a0.length : Nat) : Int)) (Gi_Mail.mk 0 0 0))<|P1 (repMap gi_Mail (Int.toNat ((a0.length : Nat) : Int)) (Gi_Mail.mk 0 0 0))<|P0) (ww_toMailS _ _ H)
theorem cs_l1In {a0 : Int} {a1 : Int} {a2 : Int} {r : Bool} (H : Ds_l1In a0 a1 a2 = some r) : Ct X.P X.gl 21 [I a0, I a1, I a2] [] (RB r) [] :=
 Ct.of func21 (c := bdy f21) (by kernel_rfl) (by kernel_rfl) <|
 gS [r0] (by kernel_rfl) P0 <|
 eIf H (fun h1 H =>
 eW RB (fun _ => []) H<|gE func21 [rg [hT 2]] (by kernel_rfl) (P2 ((decide (a0 ≥ a1)) = true) (decide_eq_true h1)<|P0))
 (fun h1 H =>
 eW RB (fun _ => []) H<|gE func21 [rg [hF 2]] (by kernel_rfl) (P2 ((decide (a0 ≥ a1)) = false) (decide_eq_false h1)<|P0))
theorem cs_dSeed {a0 : Int} {r : Bool} (H : Ds_dSeed a0 = some r) : Ct X.P X.gl 22 [I a0] [] (RB r) [] :=
 Ct.of func22 (c := bdy f22) (by kernel_rfl) (by kernel_rfl) <|
 eBind H fun r1 hr1 H =>
 eW RB (fun _ => []) H<|gE func22 [r0, rg [hC 1 true [] (RB r1) []]] (by kernel_rfl) (P1 (cs_l1In hr1)<|P0)
theorem cs_nKey {a0 : Gi_Mail} {r : Int} (H : Ds_nKey a0 = some r) : Ct X.P X.gl 23 [gi_Mail a0] [] (RI r) [] :=
 Ct.of func23 (c := bdy f23) (by kernel_rfl) (by kernel_rfl) <|
 eW RI (fun _ => []) H<|gE func23 [r0, r0] (by kernel_rfl) P0
noncomputable def Ks_nMails : Ss_nMails → List Item
 | .h1 .. => nav 300 2 [] [.code (bdy f11)]
def Zs_nMails : Ss_nMails → St
 | .h1 l0 t1 t2 t3 => ⟨sts 47 [(0, sl 3 gi_Mail l0), (5, sl 3 gi_Mail t1), (6, I t2), (7, I t3)], []⟩
abbrev Qs_nMails := Nx X 11 0 Ks_nMails Zs_nMails RB (fun _ => [])
theorem ns_nMails : ∀ s o, Bs_nMails s = some o → Qs_nMails (Ks_nMails s) (Zs_nMails s) o
 | .h1 l0 t1 t2 t3, o, H =>
  eIf H (fun h1 H =>
  eCk H fun h2 H =>
  eBind H fun x3 hx3 H =>
  eBind H fun r4 hr4 H =>
  gN [rg [hT 0], rg [hE 2 (gi_Mail x3)]] (by kernel_rfl) (P2 ((decide (t3 < t2)) = true) (decide_eq_true h1)<|P1 h2<|P1 (int_lt_of_at h2 hx3)<|P1 (at_map gi_Mail hx3)<|P0) <|
  eIf H (fun h5 H =>
  eBind H fun r6 hr6 H =>
  eIf H (fun h7 H =>
  eBind H fun r8 hr8 H =>
  eIf H (fun h9 H =>
  eIf H (fun h10 H =>
  eCk H fun h11 H =>
  eBind H fun x12 hx12 H =>
  eBind H fun r13 hr13 H =>
  eBind H fun r14 hr14 H =>
  eIf H (fun h15 H =>
  eN H<|gE func11 [rg [{ i := 2, call := some { cl := true, auto := true, ins := [], res := (RB r4), G' := [] }, dec := some true }, { i := 7, call := some { cl := true, auto := true, ins := [], res := (RB r6), G' := [] }, dec := some true }, { i := 13, call := some { cl := true, auto := true, ins := [], res := (RB r8), G' := [] }, dec := some true }, hT 18, hE 24 (gi_Mail x12), hC 25 true [] (RI r13) [], hC 27 true [] (RI r14) [], hT 28], r0] (by kernel_rfl) (P1 (cs_l1In hr4)<|P2 (r4 = true) (h5)<|P1 (cs_l1In hr6)<|P2 (r6 = true) (h7)<|P1 (cs_dSeed hr8)<|P2 (r8 = true) (h9)<|P2 ((decide (t3 > 0)) = true) (decide_eq_true h10)<|P1 h11<|P1 (int_lt_of_at h11 hx12)<|P1 (at_map gi_Mail hx12)<|P1 (cs_nKey hr13)<|P1 (cs_nKey hr14)<|P2 ((decide (r13 ≥ r14)) = true) (decide_eq_true h15)<|P0))
  (fun h15 H =>
  eN H fun r hn => gO [rg [{ i := 2, call := some { cl := true, auto := true, ins := [], res := (RB r4), G' := [] }, dec := some true }, { i := 7, call := some { cl := true, auto := true, ins := [], res := (RB r6), G' := [] }, dec := some true }, { i := 13, call := some { cl := true, auto := true, ins := [], res := (RB r8), G' := [] }, dec := some true }, hT 18, hE 24 (gi_Mail x12), hC 25 true [] (RI r13) [], hC 27 true [] (RI r14) [], hF 28], r0, .canon [] [0, 5, 6, 7]] (by kernel_rfl) (P1 (cs_l1In hr4)<|P2 (r4 = true) (h5)<|P1 (cs_l1In hr6)<|P2 (r6 = true) (h7)<|P1 (cs_dSeed hr8)<|P2 (r8 = true) (h9)<|P2 ((decide (t3 > 0)) = true) (decide_eq_true h10)<|P1 h11<|P1 (int_lt_of_at h11 hx12)<|P1 (at_map gi_Mail hx12)<|P1 (cs_nKey hr13)<|P1 (cs_nKey hr14)<|P2 ((decide (r13 ≥ r14)) = false) (decide_eq_false h15)<|P0) hn))
  (fun h10 H =>
  eN H fun r hn => gO [rg [{ i := 2, call := some { cl := true, auto := true, ins := [], res := (RB r4), G' := [] }, dec := some true }, { i := 7, call := some { cl := true, auto := true, ins := [], res := (RB r6), G' := [] }, dec := some true }, { i := 13, call := some { cl := true, auto := true, ins := [], res := (RB r8), G' := [] }, dec := some true }, hF 18], r0, .canon [] [0, 5, 6, 7]] (by kernel_rfl) (P1 (cs_l1In hr4)<|P2 (r4 = true) (h5)<|P1 (cs_l1In hr6)<|P2 (r6 = true) (h7)<|P1 (cs_dSeed hr8)<|P2 (r8 = true) (h9)<|P2 ((decide (t3 > 0)) = false) (decide_eq_false h10)<|P0) hn))
  (fun h9 H =>
  eN H<|gE func11 [rg [{ i := 2, call := some { cl := true, auto := true, ins := [], res := (RB r4), G' := [] }, dec := some true }, { i := 7, call := some { cl := true, auto := true, ins := [], res := (RB r6), G' := [] }, dec := some true }, { i := 13, call := some { cl := true, auto := true, ins := [], res := (RB r8), G' := [] }, dec := some false }], r0] (by kernel_rfl) (P1 (cs_l1In hr4)<|P2 (r4 = true) (h5)<|P1 (cs_l1In hr6)<|P2 (r6 = true) (h7)<|P1 (cs_dSeed hr8)<|P2 (r8 = false) (eqF h9)<|P0)))
  (fun h7 H =>
  eN H<|gE func11 [rg [{ i := 2, call := some { cl := true, auto := true, ins := [], res := (RB r4), G' := [] }, dec := some true }, { i := 7, call := some { cl := true, auto := true, ins := [], res := (RB r6), G' := [] }, dec := some false }], r0] (by kernel_rfl) (P1 (cs_l1In hr4)<|P2 (r4 = true) (h5)<|P1 (cs_l1In hr6)<|P2 (r6 = false) (eqF h7)<|P0)))
  (fun h5 H =>
  eN H<|gE func11 [rg [{ i := 2, call := some { cl := true, auto := true, ins := [], res := (RB r4), G' := [] }, dec := some false }], r0] (by kernel_rfl) (P1 (cs_l1In hr4)<|P2 (r4 = false) (eqF h5)<|P0)))
  (fun h1 H =>
  eN H<|gE func11 [rg [hF 0], r0] (by kernel_rfl) (P2 ((decide (t3 < t2)) = false) (decide_eq_false h1)<|P0))
theorem ws_nMails : ∀ s r, loop Bs_nMails s = some r → Wc X 11 0 (Ks_nMails s) (Zs_nMails s) (RB r) ((fun _ => []) r) := Nx.all (ns_nMails)
theorem cs_nMails {a0 : (List Gi_Mail)} {r : Bool} (H : Ds_nMails a0 = some r) : Ct X.P X.gl 11 [sl 3 gi_Mail a0] [] (RB r) [] :=
 Ct.of func11 (c := bdy f11) (by kernel_rfl) (by kernel_rfl) <|
 gO [r0, r0, .canon [] [0, 5, 6, 7]] (by kernel_rfl) P0 (ws_nMails _ _ H)
noncomputable def Ks_nFind : Ss_nFind → List Item
 | .h1 .. => nav 300 2 [] [.code (bdy f12)]
def Zs_nFind : Ss_nFind → St
 | .h1 key0 t1 t2 t3 => ⟨sts 20 [(1, I key0), (7, sl 3 gi_Mail t1), (8, I t2), (9, I t3)], []⟩
abbrev Qs_nFind := Nx X 12 0 Ks_nFind Zs_nFind RI (fun _ => [])
theorem ns_nFind : ∀ s o, Bs_nFind s = some o → Qs_nFind (Ks_nFind s) (Zs_nFind s) o
 | .h1 key0 t1 t2 t3, o, H =>
  eIf H (fun h1 H =>
  eCk H fun h2 H =>
  eBind H fun x3 hx3 H =>
  eBind H fun r4 hr4 H =>
  gN [rg [hT 0], rg [hE 2 (gi_Mail x3)]] (by kernel_rfl) (P2 ((decide (t3 < t2)) = true) (decide_eq_true h1)<|P1 h2<|P1 (int_lt_of_at h2 hx3)<|P1 (at_map gi_Mail hx3)<|P0) <|
  eIf H (fun h5 H =>
  eN H<|gE func12 [rg [hC 1 true [] (RI r4) [], hT 3], r0] (by kernel_rfl) (P1 (cs_nKey hr4)<|P2 (((r4 : Int) == key0) = true) (beqT h5)<|P0))
  (fun h5 H =>
  eN H fun r hn => gO [rg [hC 1 true [] (RI r4) [], hF 3], r0, .canon [] [1, 7, 8, 9]] (by kernel_rfl) (P1 (cs_nKey hr4)<|P2 (((r4 : Int) == key0) = false) (beqF h5)<|P0) hn))
  (fun h1 H =>
  eN H<|gE func12 [rg [hF 0], r0] (by kernel_rfl) (P2 ((decide (t3 < t2)) = false) (decide_eq_false h1)<|P0))
theorem ws_nFind : ∀ s r, loop Bs_nFind s = some r → Wc X 12 0 (Ks_nFind s) (Zs_nFind s) (RI r) ((fun _ => []) r) := Nx.all (ns_nFind)
theorem cs_nFind {a0 : (List Gi_Mail)} {a1 : Int} {r : Int} (H : Ds_nFind a0 a1 = some r) : Ct X.P X.gl 12 [sl 3 gi_Mail a0, I a1] [] (RI r) [] :=
 Ct.of func12 (c := bdy f12) (by kernel_rfl) (by kernel_rfl) <|
 gO [r0, r0, .canon [] [1, 7, 8, 9]] (by kernel_rfl) P0 (ws_nFind _ _ H)
def Rs_MergeMail (r : (List Gi_Mail) × (List Gi_Mail) × Bool) : List D := [ow 3 gi_Mail r.1, ow 3 gi_Mail r.2.1, .bool r.2.2]
noncomputable def Ks_MergeMail : Ss_MergeMail → List Item
 | .h1 .. => nav 300 4 [false] [.code (bdy f5)]
def Zs_MergeMail : Ss_MergeMail → St
 | .h1 va0 b1 key2 l3 l4 => ⟨sts 82 [(0, sl 3 gi_Mail va0), (1, sl 3 gi_Mail b1), (7, .ref 0 3 none), (8, .ref 1 3 none), (9, I key2)], [some ⟨false, false, 3, l3.length, List.map gi_Mail l3⟩, some ⟨false, false, 3, l4.length, List.map gi_Mail l4⟩]⟩
abbrev Qs_MergeMail := Nx X 5 0 Ks_MergeMail Zs_MergeMail Rs_MergeMail (fun _ => [])
theorem ns_MergeMail : ∀ s o, Bs_MergeMail s = some o → Qs_MergeMail (Ks_MergeMail s) (Zs_MergeMail s) o
 | .h1 va0 b1 key2 l3 l4, o, H =>
  eIf H (fun h1 H =>
  eBind H fun r2 hr2 H =>
  eBind H fun r3 hr3 H =>
  gN [rg [hT 1], rg [hC 2 true [] (RI r2) [], hC 5 true [] (RI r3) []]] (by kernel_rfl) (P2 ((decide (key2 ≤ 61)) = true) (decide_eq_true h1)<|P1 (cs_nFind hr2)<|P1 (cs_nFind hr3)<|P0) <|
  eIf H (fun h4 H =>
  eIf H (fun h5 H =>
  eCk H fun h6 H =>
  eBind H fun x7 hx7 H =>
  eCk H fun h8 H =>
  eBind H fun x9 hx9 H =>
  eIf H (fun h10 H =>
  gN [rg [hT 1, hT 4, hE 11 (gi_Mail x7), hE 16 (gi_Mail x9), hF 17]] (by kernel_rfl) (P2 ((decide (r2 ≥ 0)) = true) (decide_eq_true h4)<|P2 ((decide (r3 ≥ 0)) = true) (decide_eq_true h5)<|P1 h6<|P1 (int_lt_of_at h6 hx7)<|P1 (at_map gi_Mail hx7)<|P1 h8<|P1 (int_lt_of_at h8 hx9)<|P1 (at_map gi_Mail hx9)<|P2 (((x7.Seal : Int) != x9.Seal) = false) (bneF h10)<|P0) <|
  eIf H (fun h11 H =>
  eCk H fun h12 H =>
  eBind H fun x13 hx13 H =>
  eCk H fun h14 H =>
  eN H fun r hn => gO [rg [hT 1], rg [hE 4 (gi_Mail x13), hA 6 ((l3 ++ [x13]).length) (List.map gi_Mail (l3 ++ [x13]))], r0, .canon [3, 1] [0, 1, 7, 8, 9]] (by kernel_rfl) (P2 ((decide (r2 ≥ 0)) = true) (decide_eq_true h11)<|P1 h12<|P1 (int_lt_of_at h12 hx13)<|P1 (at_map gi_Mail hx13)<|P1 (apL l3 [x13])<|P1 (apB h14)<|P1 (apM gi_Mail l3 [x13])<|P0) hn)
  (fun h11 H =>
  gN [rg [hF 1]] (by kernel_rfl) (P2 ((decide (r2 ≥ 0)) = false) (decide_eq_false h11)<|P0) <|
  eIf H (fun h12 H =>
  eCk H fun h13 H =>
  eBind H fun x14 hx14 H =>
  eCk H fun h15 H =>
  eN H fun r hn => gO [rg [hT 1], rg [hE 4 (gi_Mail x14), hA 6 ((l3 ++ [x14]).length) (List.map gi_Mail (l3 ++ [x14]))], r0, .canon [3, 1] [0, 1, 7, 8, 9]] (by kernel_rfl) (P2 ((decide (r3 ≥ 0)) = true) (decide_eq_true h12)<|P1 h13<|P1 (int_lt_of_at h13 hx14)<|P1 (at_map gi_Mail hx14)<|P1 (apL l3 [x14])<|P1 (apB h15)<|P1 (apM gi_Mail l3 [x14])<|P0) hn)
  (fun h12 H =>
  eN H fun r hn => gO [rg [hF 1], r0, .canon [0, 1] [0, 1, 7, 8, 9]] (by kernel_rfl) (P2 ((decide (r3 ≥ 0)) = false) (decide_eq_false h12)<|P0) hn)))
  (fun h10 H =>
  eCk H fun h11 H =>
  eBind H fun x12 hx12 H =>
  eCk H fun h13 H =>
  eN H fun r hn => gO [rg [hT 1, hT 4, hE 11 (gi_Mail x7), hE 16 (gi_Mail x9), hT 17], rg [hE 4 (gi_Mail x12), hA 6 ((l4 ++ [x12]).length) (List.map gi_Mail (l4 ++ [x12]))], r0, .canon [0, 3] [0, 1, 7, 8, 9]] (by kernel_rfl) (P2 ((decide (r2 ≥ 0)) = true) (decide_eq_true h4)<|P2 ((decide (r3 ≥ 0)) = true) (decide_eq_true h5)<|P1 h6<|P1 (int_lt_of_at h6 hx7)<|P1 (at_map gi_Mail hx7)<|P1 h8<|P1 (int_lt_of_at h8 hx9)<|P1 (at_map gi_Mail hx9)<|P2 (((x7.Seal : Int) != x9.Seal) = true) (bneT h10)<|P1 h11<|P1 (int_lt_of_at h11 hx12)<|P1 (at_map gi_Mail hx12)<|P1 (apL l4 [x12])<|P1 (apB h13)<|P1 (apM gi_Mail l4 [x12])<|P0) hn))
  (fun h5 H =>
  gN [rg [hT 1, hF 4]] (by kernel_rfl) (P2 ((decide (r2 ≥ 0)) = true) (decide_eq_true h4)<|P2 ((decide (r3 ≥ 0)) = false) (decide_eq_false h5)<|P0) <|
  eIf H (fun h6 H =>
  eCk H fun h7 H =>
  eBind H fun x8 hx8 H =>
  eCk H fun h9 H =>
  eN H fun r hn => gO [rg [hT 1], rg [hE 4 (gi_Mail x8), hA 6 ((l3 ++ [x8]).length) (List.map gi_Mail (l3 ++ [x8]))], r0, .canon [3, 1] [0, 1, 7, 8, 9]] (by kernel_rfl) (P2 ((decide (r2 ≥ 0)) = true) (decide_eq_true h6)<|P1 h7<|P1 (int_lt_of_at h7 hx8)<|P1 (at_map gi_Mail hx8)<|P1 (apL l3 [x8])<|P1 (apB h9)<|P1 (apM gi_Mail l3 [x8])<|P0) hn)
  (fun h6 H =>
  gN [rg [hF 1]] (by kernel_rfl) (P2 ((decide (r2 ≥ 0)) = false) (decide_eq_false h6)<|P0) <|
  eIf H (fun h7 H =>
  eCk H fun h8 H =>
  eBind H fun x9 hx9 H =>
  eCk H fun h10 H =>
  eN H fun r hn => gO [rg [hT 1], rg [hE 4 (gi_Mail x9), hA 6 ((l3 ++ [x9]).length) (List.map gi_Mail (l3 ++ [x9]))], r0, .canon [3, 1] [0, 1, 7, 8, 9]] (by kernel_rfl) (P2 ((decide (r3 ≥ 0)) = true) (decide_eq_true h7)<|P1 h8<|P1 (int_lt_of_at h8 hx9)<|P1 (at_map gi_Mail hx9)<|P1 (apL l3 [x9])<|P1 (apB h10)<|P1 (apM gi_Mail l3 [x9])<|P0) hn)
  (fun h7 H =>
  eN H fun r hn => gO [rg [hF 1], r0, .canon [0, 1] [0, 1, 7, 8, 9]] (by kernel_rfl) (P2 ((decide (r3 ≥ 0)) = false) (decide_eq_false h7)<|P0) hn))))
  (fun h4 H =>
  gN [rg [hF 1]] (by kernel_rfl) (P2 ((decide (r2 ≥ 0)) = false) (decide_eq_false h4)<|P0) <|
  eIf H (fun h5 H =>
  eCk H fun h6 H =>
  eBind H fun x7 hx7 H =>
  eCk H fun h8 H =>
  eN H fun r hn => gO [rg [hT 1], rg [hE 4 (gi_Mail x7), hA 6 ((l3 ++ [x7]).length) (List.map gi_Mail (l3 ++ [x7]))], r0, .canon [3, 1] [0, 1, 7, 8, 9]] (by kernel_rfl) (P2 ((decide (r2 ≥ 0)) = true) (decide_eq_true h5)<|P1 h6<|P1 (int_lt_of_at h6 hx7)<|P1 (at_map gi_Mail hx7)<|P1 (apL l3 [x7])<|P1 (apB h8)<|P1 (apM gi_Mail l3 [x7])<|P0) hn)
  (fun h5 H =>
  gN [rg [hF 1]] (by kernel_rfl) (P2 ((decide (r2 ≥ 0)) = false) (decide_eq_false h5)<|P0) <|
  eIf H (fun h6 H =>
  eCk H fun h7 H =>
  eBind H fun x8 hx8 H =>
  eCk H fun h9 H =>
  eN H fun r hn => gO [rg [hT 1], rg [hE 4 (gi_Mail x8), hA 6 ((l3 ++ [x8]).length) (List.map gi_Mail (l3 ++ [x8]))], r0, .canon [3, 1] [0, 1, 7, 8, 9]] (by kernel_rfl) (P2 ((decide (r3 ≥ 0)) = true) (decide_eq_true h6)<|P1 h7<|P1 (int_lt_of_at h7 hx8)<|P1 (at_map gi_Mail hx8)<|P1 (apL l3 [x8])<|P1 (apB h9)<|P1 (apM gi_Mail l3 [x8])<|P0) hn)
  (fun h6 H =>
  eN H fun r hn => gO [rg [hF 1], r0, .canon [0, 1] [0, 1, 7, 8, 9]] (by kernel_rfl) (P2 ((decide (r3 ≥ 0)) = false) (decide_eq_false h6)<|P0) hn))))
  (fun h1 H =>
  gN [rg [hF 1]] (by kernel_rfl) (P2 ((decide (key2 ≤ 61)) = false) (decide_eq_false h1)<|P0) <|
  eIf H (fun h2 H =>
  eN H<|gE func5 [rg [hT 2], r0] (by kernel_rfl) (P2 ((decide (((l3.length : Nat) : Int) > 20)) = true) (decide_eq_true h2)<|P0))
  (fun h2 H =>
  eN H<|gE func5 [rg [hF 2], r0] (by kernel_rfl) (P2 ((decide (((l3.length : Nat) : Int) > 20)) = false) (decide_eq_false h2)<|P0)))
theorem ws_MergeMail : ∀ s r, loop Bs_MergeMail s = some r → Wc X 5 0 (Ks_MergeMail s) (Zs_MergeMail s) (Rs_MergeMail r) ((fun _ => []) r) := Nx.all (ns_MergeMail)
theorem cs_MergeMail {a0 : (List Gi_Mail)} {a1 : (List Gi_Mail)} {r : (List Gi_Mail) × (List Gi_Mail) × Bool} (H : Ds_MergeMail a0 a1 = some r) : Ct X.P X.gl 5 [sl 3 gi_Mail a0, sl 3 gi_Mail a1] [] (Rs_MergeMail r) [] :=
 Ct.of func5 (c := bdy f5) (by kernel_rfl) (by kernel_rfl) <|
 eBind H fun r1 hr1 H =>
 gS [r0] (by kernel_rfl) P0 <|
 eIf H (fun h2 H =>
 eBind H fun r3 hr3 H =>
 eIf H (fun h4 H =>
 gO [rg [{ i := 1, call := some { cl := true, auto := true, ins := [], res := (RB r1), G' := [] }, dec := some true }, { i := 5, call := some { cl := true, auto := true, ins := [], res := (RB r3), G' := [] }, dec := some true }], r0, r0, .own 7 3, .own 8 3, .canon [0, 1] [0, 1, 7, 8, 9]] (by kernel_rfl) (P1 (cs_nMails hr1)<|P2 (r1 = true) (h2)<|P1 (cs_nMails hr3)<|P2 (r3 = true) (h4)<|P0) (ws_MergeMail _ _ H))
 (fun h4 H =>
 eW Rs_MergeMail (fun _ => []) H<|gE func5 [rg [{ i := 1, call := some { cl := true, auto := true, ins := [], res := (RB r1), G' := [] }, dec := some true }, { i := 5, call := some { cl := true, auto := true, ins := [], res := (RB r3), G' := [] }, dec := some false }], r0] (by kernel_rfl) (P1 (cs_nMails hr1)<|P2 (r1 = true) (h2)<|P1 (cs_nMails hr3)<|P2 (r3 = false) (eqF h4)<|P0)))
 (fun h2 H =>
 eW Rs_MergeMail (fun _ => []) H<|gE func5 [rg [{ i := 1, call := some { cl := true, auto := true, ins := [], res := (RB r1), G' := [] }, dec := some false }], r0] (by kernel_rfl) (P1 (cs_nMails hr1)<|P2 (r1 = false) (eqF h2)<|P0))
theorem ci_inRange {a0 : Int} {a1 : Int} {a2 : Int} {r : Bool} (H : Di_inRange a0 a1 a2 = some r) : Ct X.P X.gl 29 [I a0, I a1, I a2] [] (RB r) [] :=
 Ct.of func29 (c := bdy f29) (by kernel_rfl) (by kernel_rfl) <|
 gS [r0] (by kernel_rfl) P0 <|
 eIf H (fun h1 H =>
 eW RB (fun _ => []) H<|gE func29 [rg [hT 2]] (by kernel_rfl) (P2 ((decide (a1 ≤ a0)) = true) (decide_eq_true h1)<|P0))
 (fun h1 H =>
 eW RB (fun _ => []) H<|gE func29 [rg [hF 2]] (by kernel_rfl) (P2 ((decide (a1 ≤ a0)) = false) (decide_eq_false h1)<|P0))
theorem ci_isTurn {a0 : Int} {r : Bool} (H : Di_isTurn a0 = some r) : Ct X.P X.gl 24 [I a0] [] (RB r) [] :=
 Ct.of func24 (c := bdy f24) (by kernel_rfl) (by kernel_rfl) <|
 eBind H fun r1 hr1 H =>
 eW RB (fun _ => []) H<|gE func24 [r0, rg [hC 1 true [] (RB r1) []]] (by kernel_rfl) (P1 (ci_inRange hr1)<|P0)
theorem ci_isSide {a0 : Int} {r : Bool} (H : Di_isSide a0 = some r) : Ct X.P X.gl 25 [I a0] [] (RB r) [] :=
 Ct.of func25 (c := bdy f25) (by kernel_rfl) (by kernel_rfl) <|
 eBind H fun r1 hr1 H =>
 eW RB (fun _ => []) H<|gE func25 [r0, rg [hC 1 true [] (RB r1) []]] (by kernel_rfl) (P1 (ci_inRange hr1)<|P0)
theorem ci_isSeed {a0 : Int} {r : Bool} (H : Di_isSeed a0 = some r) : Ct X.P X.gl 26 [I a0] [] (RB r) [] :=
 Ct.of func26 (c := bdy f26) (by kernel_rfl) (by kernel_rfl) <|
 eBind H fun r1 hr1 H =>
 eW RB (fun _ => []) H<|gE func26 [r0, rg [hC 1 true [] (RB r1) []]] (by kernel_rfl) (P1 (ci_inRange hr1)<|P0)
theorem ci_compareMails {a0 : Gi_Mail} {a1 : Gi_Mail} {r : Int} (H : Di_compareMails a0 a1 = some r) : Ct X.P X.gl 18 [gi_Mail a0, gi_Mail a1] [] (RI r) [] :=
 Ct.of func18 (c := bdy f18) (by kernel_rfl) (by kernel_rfl) <|
 gS [r0] (by kernel_rfl) P0 <|
 eIf H (fun h1 H =>
 eW RI (fun _ => []) H<|gE func18 [rg [hF 4], r0] (by kernel_rfl) (P2 (((a0.Turn : Int) != a1.Turn) = false) (bneF h1)<|P0))
 (fun h1 H =>
 eW RI (fun _ => []) H<|gE func18 [rg [hT 4], r0] (by kernel_rfl) (P2 (((a0.Turn : Int) != a1.Turn) = true) (bneT h1)<|P0))
noncomputable def Ki_IsMailbox : Si_IsMailbox → List Item
 | .h1 .. => nav 300 3 [false] [.code (bdy f14)]
def Zi_IsMailbox : Si_IsMailbox → St
 | .h1 l0 t1 t2 t3 => ⟨sts 46 [(0, sl 3 gi_Mail l0), (8, sl 3 gi_Mail t1), (9, I t2), (10, I t3)], []⟩
abbrev Qi_IsMailbox := Nx X 14 0 Ki_IsMailbox Zi_IsMailbox RB (fun _ => [])
theorem ni_IsMailbox : ∀ s o, Bi_IsMailbox s = some o → Qi_IsMailbox (Ki_IsMailbox s) (Zi_IsMailbox s) o
 | .h1 l0 t1 t2 t3, o, H =>
  eIf H (fun h1 H =>
  eCk H fun h2 H =>
  eBind H fun x3 hx3 H =>
  eBind H fun r4 hr4 H =>
  gN [rg [hT 0], rg [hE 2 (gi_Mail x3)]] (by kernel_rfl) (P2 ((decide (t3 < t2)) = true) (decide_eq_true h1)<|P1 h2<|P1 (int_lt_of_at h2 hx3)<|P1 (at_map gi_Mail hx3)<|P0) <|
  eIf H (fun h5 H =>
  eBind H fun r6 hr6 H =>
  eIf H (fun h7 H =>
  eBind H fun r8 hr8 H =>
  eIf H (fun h9 H =>
  eIf H (fun h10 H =>
  eCk H fun h11 H =>
  eBind H fun x12 hx12 H =>
  eBind H fun r13 hr13 H =>
  eIf H (fun h14 H =>
  eN H<|gE func14 [rg [{ i := 2, call := some { cl := true, auto := true, ins := [], res := (RB r4), G' := [] }, dec := some true }, { i := 7, call := some { cl := true, auto := true, ins := [], res := (RB r6), G' := [] }, dec := some true }, { i := 13, call := some { cl := true, auto := true, ins := [], res := (RB r8), G' := [] }, dec := some true }, hT 18, hE 24 (gi_Mail x12), hC 26 true [] (RI r13) [], hT 27], r0] (by kernel_rfl) (P1 (ci_isTurn hr4)<|P2 (r4 = true) (h5)<|P1 (ci_isSide hr6)<|P2 (r6 = true) (h7)<|P1 (ci_isSeed hr8)<|P2 (r8 = true) (h9)<|P2 ((decide (t3 > 0)) = true) (decide_eq_true h10)<|P1 h11<|P1 (int_lt_of_at h11 hx12)<|P1 (at_map gi_Mail hx12)<|P1 (ci_compareMails hr13)<|P2 ((decide (r13 ≥ 0)) = true) (decide_eq_true h14)<|P0))
  (fun h14 H =>
  eN H fun r hn => gO [rg [{ i := 2, call := some { cl := true, auto := true, ins := [], res := (RB r4), G' := [] }, dec := some true }, { i := 7, call := some { cl := true, auto := true, ins := [], res := (RB r6), G' := [] }, dec := some true }, { i := 13, call := some { cl := true, auto := true, ins := [], res := (RB r8), G' := [] }, dec := some true }, hT 18, hE 24 (gi_Mail x12), hC 26 true [] (RI r13) [], hF 27], r0, .canon [] [0, 8, 9, 10]] (by kernel_rfl) (P1 (ci_isTurn hr4)<|P2 (r4 = true) (h5)<|P1 (ci_isSide hr6)<|P2 (r6 = true) (h7)<|P1 (ci_isSeed hr8)<|P2 (r8 = true) (h9)<|P2 ((decide (t3 > 0)) = true) (decide_eq_true h10)<|P1 h11<|P1 (int_lt_of_at h11 hx12)<|P1 (at_map gi_Mail hx12)<|P1 (ci_compareMails hr13)<|P2 ((decide (r13 ≥ 0)) = false) (decide_eq_false h14)<|P0) hn))
  (fun h10 H =>
  eN H fun r hn => gO [rg [{ i := 2, call := some { cl := true, auto := true, ins := [], res := (RB r4), G' := [] }, dec := some true }, { i := 7, call := some { cl := true, auto := true, ins := [], res := (RB r6), G' := [] }, dec := some true }, { i := 13, call := some { cl := true, auto := true, ins := [], res := (RB r8), G' := [] }, dec := some true }, hF 18], r0, .canon [] [0, 8, 9, 10]] (by kernel_rfl) (P1 (ci_isTurn hr4)<|P2 (r4 = true) (h5)<|P1 (ci_isSide hr6)<|P2 (r6 = true) (h7)<|P1 (ci_isSeed hr8)<|P2 (r8 = true) (h9)<|P2 ((decide (t3 > 0)) = false) (decide_eq_false h10)<|P0) hn))
  (fun h9 H =>
  eN H<|gE func14 [rg [{ i := 2, call := some { cl := true, auto := true, ins := [], res := (RB r4), G' := [] }, dec := some true }, { i := 7, call := some { cl := true, auto := true, ins := [], res := (RB r6), G' := [] }, dec := some true }, { i := 13, call := some { cl := true, auto := true, ins := [], res := (RB r8), G' := [] }, dec := some false }], r0] (by kernel_rfl) (P1 (ci_isTurn hr4)<|P2 (r4 = true) (h5)<|P1 (ci_isSide hr6)<|P2 (r6 = true) (h7)<|P1 (ci_isSeed hr8)<|P2 (r8 = false) (eqF h9)<|P0)))
  (fun h7 H =>
  eN H<|gE func14 [rg [{ i := 2, call := some { cl := true, auto := true, ins := [], res := (RB r4), G' := [] }, dec := some true }, { i := 7, call := some { cl := true, auto := true, ins := [], res := (RB r6), G' := [] }, dec := some false }], r0] (by kernel_rfl) (P1 (ci_isTurn hr4)<|P2 (r4 = true) (h5)<|P1 (ci_isSide hr6)<|P2 (r6 = false) (eqF h7)<|P0)))
  (fun h5 H =>
  eN H<|gE func14 [rg [{ i := 2, call := some { cl := true, auto := true, ins := [], res := (RB r4), G' := [] }, dec := some false }], r0] (by kernel_rfl) (P1 (ci_isTurn hr4)<|P2 (r4 = false) (eqF h5)<|P0)))
  (fun h1 H =>
  eN H<|gE func14 [rg [hF 0], r0] (by kernel_rfl) (P2 ((decide (t3 < t2)) = false) (decide_eq_false h1)<|P0))
theorem wi_IsMailbox : ∀ s r, loop Bi_IsMailbox s = some r → Wc X 14 0 (Ki_IsMailbox s) (Zi_IsMailbox s) (RB r) ((fun _ => []) r) := Nx.all (ni_IsMailbox)
theorem ci_IsMailbox {a0 : (List Gi_Mail)} {r : Bool} (H : Di_IsMailbox a0 = some r) : Ct X.P X.gl 14 [sl 3 gi_Mail a0] [] (RB r) [] :=
 Ct.of func14 (c := bdy f14) (by kernel_rfl) (by kernel_rfl) <|
 gS [r0] (by kernel_rfl) P0 <|
 eIf H (fun h1 H =>
 eW RB (fun _ => []) H<|gE func14 [rg [hT 2], r0] (by kernel_rfl) (P2 ((decide (((a0.length : Nat) : Int) > 20)) = true) (decide_eq_true h1)<|P0))
 (fun h1 H =>
 gO [rg [hF 2], r0, .canon [] [0, 8, 9, 10]] (by kernel_rfl) (P2 ((decide (((a0.length : Nat) : Int) > 20)) = false) (decide_eq_false h1)<|P0) (wi_IsMailbox _ _ H))
theorem ci_MergeMail_1_1 {a0 : Gi_Mail} {a1 : Gi_Mail} {r : Bool} (H : Di_MergeMail_1_1 a0 a1 = some r) : Ct X.P X.gl 17 [gi_Mail a0, .fptr 3 [.agg [I a1.Turn, I a1.Side, I a1.Seal]] 0 0] [] (RB r) [] :=
 Ct.of func17 (c := bdy f17) (by kernel_rfl) (by kernel_rfl) <|
 eBind H fun r1 hr1 H =>
 eW RB (fun _ => []) H<|gE func17 [r0, rg [hC 2 true [] (RI r1) []]] (by kernel_rfl) (P1 (ci_compareMails hr1)<|P0)
noncomputable def Kslices_IndexFunc_i_Mail_i_MergeMail_1_1 : Sslices_IndexFunc_i_Mail_i_MergeMail_1_1 → List Item
 | .h1 .. => nav 300 2 [] [.code (bdy f16)]
def Zslices_IndexFunc_i_Mail_i_MergeMail_1_1 : Sslices_IndexFunc_i_Mail_i_MergeMail_1_1 → St
 | .h1 s0 f1 t2 t3 => ⟨sts 19 [(0, sl 3 gi_Mail s0), (1, .fn 17 [.fptr 3 [.agg [I f1.Turn, I f1.Side, I f1.Seal]] 0 0]), (7, I t2), (8, I t3)], []⟩
abbrev Qslices_IndexFunc_i_Mail_i_MergeMail_1_1 := Nx X 16 0 Kslices_IndexFunc_i_Mail_i_MergeMail_1_1 Zslices_IndexFunc_i_Mail_i_MergeMail_1_1 RI (fun _ => [])
theorem nslices_IndexFunc_i_Mail_i_MergeMail_1_1 : ∀ s o, Bslices_IndexFunc_i_Mail_i_MergeMail_1_1 s = some o → Qslices_IndexFunc_i_Mail_i_MergeMail_1_1 (Kslices_IndexFunc_i_Mail_i_MergeMail_1_1 s) (Zslices_IndexFunc_i_Mail_i_MergeMail_1_1 s) o
 | .h1 s0 f1 t2 t3, o, H =>
  eIf H (fun h1 H =>
  eCk H fun h2 H =>
  eBind H fun x3 hx3 H =>
  eBind H fun r4 hr4 H =>
  gN [rg [hT 0], r0] (by kernel_rfl) (P2 ((decide (t3 < t2)) = true) (decide_eq_true h1)<|P0) <|
  eIf H (fun h5 H =>
  eN H<|gE func16 [rg [hE 4 (gi_Mail x3), { i := 5, call := some { cl := true, auto := true, ins := [], res := (RB r4), G' := [] }, dec := some true }], r0] (by kernel_rfl) (P1 h2<|P1 (int_lt_of_at h2 hx3)<|P1 (at_map gi_Mail hx3)<|P1 (ci_MergeMail_1_1 hr4)<|P2 (r4 = true) (h5)<|P0))
  (fun h5 H =>
  eN H fun r hn => gO [rg [hE 4 (gi_Mail x3), { i := 5, call := some { cl := true, auto := true, ins := [], res := (RB r4), G' := [] }, dec := some false }], r0, .canon [] [0, 1, 7, 8]] (by kernel_rfl) (P1 h2<|P1 (int_lt_of_at h2 hx3)<|P1 (at_map gi_Mail hx3)<|P1 (ci_MergeMail_1_1 hr4)<|P2 (r4 = false) (eqF h5)<|P0) hn))
  (fun h1 H =>
  eN H<|gE func16 [rg [hF 0], r0] (by kernel_rfl) (P2 ((decide (t3 < t2)) = false) (decide_eq_false h1)<|P0))
theorem wslices_IndexFunc_i_Mail_i_MergeMail_1_1 : ∀ s r, loop Bslices_IndexFunc_i_Mail_i_MergeMail_1_1 s = some r → Wc X 16 0 (Kslices_IndexFunc_i_Mail_i_MergeMail_1_1 s) (Zslices_IndexFunc_i_Mail_i_MergeMail_1_1 s) (RI r) ((fun _ => []) r) := Nx.all (nslices_IndexFunc_i_Mail_i_MergeMail_1_1)
theorem cslices_IndexFunc_i_Mail_i_MergeMail_1_1 {a0 : (List Gi_Mail)} {a100 : Gi_Mail} {r : Int} (H : Dslices_IndexFunc_i_Mail_i_MergeMail_1_1 a0 a100 = some r) : Ct X.P X.gl 16 [sl 3 gi_Mail a0, .fn 17 [.fptr 3 [.agg [I a100.Turn, I a100.Side, I a100.Seal]] 0 0]] [] (RI r) [] :=
 Ct.of func16 (c := bdy f16) (by kernel_rfl) (by kernel_rfl) <|
 gO [r0, r0, .canon [] [0, 1, 7, 8]] (by kernel_rfl) P0 (wslices_IndexFunc_i_Mail_i_MergeMail_1_1 _ _ H)
theorem ci_MergeMail_1 {a0 : (List Gi_Mail)} {a1 : Gi_Mail} {r : Int} (H : Di_MergeMail_1 a0 a1 = some r) : Ct X.P X.gl 15 [sl 3 gi_Mail a0, gi_Mail a1] [] (RI r) [] :=
 Ct.of func15 (c := bdy f15) (by kernel_rfl) (by kernel_rfl) <|
 eBind H fun r1 hr1 H =>
 eW RI (fun _ => []) H<|gE func15 [r0, rg [hC 2 false [] (RI r1) []]] (by kernel_rfl) (P1 (cslices_IndexFunc_i_Mail_i_MergeMail_1_1 hr1)<|P0)
def Rslices_SortFunc_i_Mail_i_compareMails (r : List Gi_Mail) : List D := []
def Nslices_SortFunc_i_Mail_i_compareMails (r : List Gi_Mail) : List Root := [⟨false, false, 3, r.length, List.map gi_Mail r⟩]
theorem cslices_SortFunc_i_Mail_i_compareMails {a0 : (List Gi_Mail)} {r : (List Gi_Mail)} (H : Dslices_SortFunc_i_Mail_i_compareMails a0 = some r) : Ct X.P X.gl 19 [.ref 0 3 none, .fn 18 []] [⟨false, false, 3, a0.length, List.map gi_Mail a0⟩] (Rslices_SortFunc_i_Mail_i_compareMails r) (Nslices_SortFunc_i_Mail_i_compareMails r) :=
 ct_sortF (P := X.P) (ρ := lays_g19_ren) (k := 3) (t := 33) (en := fun x : Gi_Mail => [I x.Turn, I x.Side, I x.Seal]) lays_g19 ⟨f19, func19, by kernel_rfl, by kernel_rfl⟩ ⟨f18, func18, by kernel_rfl, by kernel_rfl⟩ (by kernel_rfl) (by kernel_rfl) (by kernel_rfl) (fun _ => rfl) (fun _ => rfl) (fun _ _ _ h => ci_compareMails h) H
def Ri_MergeMail (r : (List Gi_Mail) × (List Gi_Mail) × Bool) : List D := [ow 3 gi_Mail r.1, ow 3 gi_Mail r.2.1, .bool r.2.2]
noncomputable def Ki_MergeMail : Si_MergeMail → List Item
 | .h1 .. => nav 300 5 [false] [.code (bdy f7)]
 | .h2 .. => nav 300 7 [false, false] [.code (bdy f7)]
def Zi_MergeMail : Si_MergeMail → St
 | .h1 va0 b1 t2 t3 t4 l5 l6 => ⟨sts 79 [(0, sl 3 gi_Mail va0), (1, sl 3 gi_Mail b1), (7, .fn 15 []), (8, .ref 0 3 none), (9, .ref 1 3 none), (25, sl 3 gi_Mail t2), (26, I t3), (27, I t4)], [some ⟨false, false, 3, l5.length, List.map gi_Mail l5⟩, some ⟨false, false, 3, l6.length, List.map gi_Mail l6⟩]⟩
 | .h2 va0 t1 t2 t3 l4 l5 => ⟨sts 79 [(0, sl 3 gi_Mail va0), (7, .fn 15 []), (8, .ref 0 3 none), (9, .ref 1 3 none), (56, sl 3 gi_Mail t1), (57, I t2), (58, I t3)], [some ⟨false, false, 3, l4.length, List.map gi_Mail l4⟩, some ⟨false, false, 3, l5.length, List.map gi_Mail l5⟩]⟩
abbrev Qi_MergeMail := Nx X 7 0 Ki_MergeMail Zi_MergeMail Ri_MergeMail (fun _ => [])
theorem ni_MergeMail : ∀ s o, Bi_MergeMail s = some o → Qi_MergeMail (Ki_MergeMail s) (Zi_MergeMail s) o
 | .h1 va0 b1 t2 t3 t4 l5 l6, o, H =>
  eIf H (fun h1 H =>
  eCk H fun h2 H =>
  eBind H fun x3 hx3 H =>
  eBind H fun r4 hr4 H =>
  gN [rg [hT 0], rg [hE 1 (gi_Mail x3)], rg [hC 3 true [] (RI r4) []]] (by kernel_rfl) (P2 ((decide (t4 < t3)) = true) (decide_eq_true h1)<|P1 h2<|P1 (int_lt_of_at h2 hx3)<|P1 (at_map gi_Mail hx3)<|P1 (ci_MergeMail_1 hr4)<|P0) <|
  eIf H (fun h5 H =>
  eCk H fun h6 H =>
  eBind H fun x7 hx7 H =>
  eIf H (fun h8 H =>
  eCk H fun h9 H =>
  eN H fun r hn => gO [rg [hT 1, hE 7 (gi_Mail x7), hF 10], rg [hA 3 ((l5 ++ [x3]).length) (List.map gi_Mail (l5 ++ [x3]))], r0, .canon [4, 1] [0, 1, 7, 8, 9, 25, 26, 27]] (by kernel_rfl) (P2 ((decide (r4 ≥ 0)) = true) (decide_eq_true h5)<|P1 h6<|P1 (int_lt_of_at h6 hx7)<|P1 (at_map gi_Mail hx7)<|P2 (((x7.Seal : Int) != x3.Seal) = false) (bneF h8)<|P1 (apL l5 [x3])<|P1 (apB h9)<|P1 (apM gi_Mail l5 [x3])<|P0) hn)
  (fun h8 H =>
  eCk H fun h9 H =>
  eN H fun r hn => gO [rg [hT 1, hE 7 (gi_Mail x7), hT 10], rg [hA 3 ((l6 ++ [x3]).length) (List.map gi_Mail (l6 ++ [x3]))], r0, .canon [0, 4] [0, 1, 7, 8, 9, 25, 26, 27]] (by kernel_rfl) (P2 ((decide (r4 ≥ 0)) = true) (decide_eq_true h5)<|P1 h6<|P1 (int_lt_of_at h6 hx7)<|P1 (at_map gi_Mail hx7)<|P2 (((x7.Seal : Int) != x3.Seal) = true) (bneT h8)<|P1 (apL l6 [x3])<|P1 (apB h9)<|P1 (apM gi_Mail l6 [x3])<|P0) hn))
  (fun h5 H =>
  eCk H fun h6 H =>
  eN H fun r hn => gO [rg [hF 1], rg [hA 3 ((l5 ++ [x3]).length) (List.map gi_Mail (l5 ++ [x3]))], r0, .canon [4, 1] [0, 1, 7, 8, 9, 25, 26, 27]] (by kernel_rfl) (P2 ((decide (r4 ≥ 0)) = false) (decide_eq_false h5)<|P1 (apL l5 [x3])<|P1 (apB h6)<|P1 (apM gi_Mail l5 [x3])<|P0) hn))
  (fun h1 H =>
  eN H fun r hn => gO [rg [hF 0], r0, .canon [0, 1] [0, 7, 8, 9, 56, 57, 58]] (by kernel_rfl) (P2 ((decide (t4 < t3)) = false) (decide_eq_false h1)<|P0) hn)
 | .h2 va0 t1 t2 t3 l4 l5, o, H =>
  eIf H (fun h1 H =>
  eCk H fun h2 H =>
  eBind H fun x3 hx3 H =>
  eBind H fun r4 hr4 H =>
  gN [rg [hT 0], rg [hE 1 (gi_Mail x3)]] (by kernel_rfl) (P2 ((decide (t3 < t2)) = true) (decide_eq_true h1)<|P1 h2<|P1 (int_lt_of_at h2 hx3)<|P1 (at_map gi_Mail hx3)<|P0) <|
  eIf H (fun h5 H =>
  eCk H fun h6 H =>
  eN H fun r hn => gO [rg [hC 3 true [] (RI r4) [], hT 4], rg [hA 3 ((l4 ++ [x3]).length) (List.map gi_Mail (l4 ++ [x3]))], r0, .canon [4, 1] [0, 7, 8, 9, 56, 57, 58]] (by kernel_rfl) (P1 (ci_MergeMail_1 hr4)<|P2 ((decide (r4 < 0)) = true) (decide_eq_true h5)<|P1 (apL l4 [x3])<|P1 (apB h6)<|P1 (apM gi_Mail l4 [x3])<|P0) hn)
  (fun h5 H =>
  eN H fun r hn => gO [rg [hC 3 true [] (RI r4) [], hF 4], r0, .canon [0, 1] [0, 7, 8, 9, 56, 57, 58]] (by kernel_rfl) (P1 (ci_MergeMail_1 hr4)<|P2 ((decide (r4 < 0)) = false) (decide_eq_false h5)<|P0) hn))
  (fun h1 H =>
  gN [rg [hF 0]] (by kernel_rfl) (P2 ((decide (t3 < t2)) = false) (decide_eq_false h1)<|P0) <|
  eIf H (fun h2 H =>
  eN H<|gE func7 [rg [hT 2], r0] (by kernel_rfl) (P2 ((decide (((l4.length : Nat) : Int) > 20)) = true) (decide_eq_true h2)<|P0))
  (fun h2 H =>
  eBind H fun r3 hr3 H =>
  eCk H fun h4 H =>
  eN H<|gE func7 [rg [hF 2], rg [hC 1 true [0] (Rslices_SortFunc_i_Mail_i_compareMails r3) (Nslices_SortFunc_i_Mail_i_compareMails r3)], r0] (by kernel_rfl) (P2 ((decide (((l4.length : Nat) : Int) > 20)) = false) (decide_eq_false h2)<|P1 h4<|P1 (cslices_SortFunc_i_Mail_i_compareMails hr3)<|P0)))
theorem wi_MergeMail : ∀ s r, loop Bi_MergeMail s = some r → Wc X 7 0 (Ki_MergeMail s) (Zi_MergeMail s) (Ri_MergeMail r) ((fun _ => []) r) := Nx.all (ni_MergeMail)
theorem ci_MergeMail {a0 : (List Gi_Mail)} {a1 : (List Gi_Mail)} {r : (List Gi_Mail) × (List Gi_Mail) × Bool} (H : Di_MergeMail a0 a1 = some r) : Ct X.P X.gl 7 [sl 3 gi_Mail a0, sl 3 gi_Mail a1] [] (Ri_MergeMail r) [] :=
 Ct.of func7 (c := bdy f7) (by kernel_rfl) (by kernel_rfl) <|
 eBind H fun r1 hr1 H =>
 gS [r0] (by kernel_rfl) P0 <|
 eIf H (fun h2 H =>
 eBind H fun r3 hr3 H =>
 eIf H (fun h4 H =>
 gO [rg [{ i := 1, call := some { cl := true, auto := true, ins := [], res := (RB r1), G' := [] }, dec := some true }, { i := 5, call := some { cl := true, auto := true, ins := [], res := (RB r3), G' := [] }, dec := some true }], r0, r0, r0, .canon [0, 1] [0, 1, 7, 8, 9, 25, 26, 27]] (by kernel_rfl) (P1 (ci_IsMailbox hr1)<|P2 (r1 = true) (h2)<|P1 (ci_IsMailbox hr3)<|P2 (r3 = true) (h4)<|P0) (wi_MergeMail _ _ H))
 (fun h4 H =>
 eW Ri_MergeMail (fun _ => []) H<|gE func7 [rg [{ i := 1, call := some { cl := true, auto := true, ins := [], res := (RB r1), G' := [] }, dec := some true }, { i := 5, call := some { cl := true, auto := true, ins := [], res := (RB r3), G' := [] }, dec := some false }], r0] (by kernel_rfl) (P1 (ci_IsMailbox hr1)<|P2 (r1 = true) (h2)<|P1 (ci_IsMailbox hr3)<|P2 (r3 = false) (eqF h4)<|P0)))
 (fun h2 H =>
 eW Ri_MergeMail (fun _ => []) H<|gE func7 [rg [{ i := 1, call := some { cl := true, auto := true, ins := [], res := (RB r1), G' := [] }, dec := some false }], r0] (by kernel_rfl) (P1 (ci_IsMailbox hr1)<|P2 (r1 = false) (eqF h2)<|P0))
theorem cw_eqMail {a0 : Gi_Mail} {a1 : Gi_Mail} {r : Bool} (H : Dw_eqMail a0 a1 = some r) : Ct X.P X.gl 20 [gi_Mail a0, gi_Mail a1] [] (RB r) [] :=
 Ct.of func20 (c := bdy f20) (by kernel_rfl) (by kernel_rfl) <|
 gS [r0] (by kernel_rfl) P0 <|
 eIf H (fun h1 H =>
 gS [rg [hF 4]] (by kernel_rfl) (P2 (((a0.Turn : Int) != a1.Turn) = false) (bneF h1)<|P0) <|
 eIf H (fun h2 H =>
 gS [rg [hF 4]] (by kernel_rfl) (P2 (((a0.Side : Int) != a1.Side) = false) (bneF h2)<|P0) <|
 eIf H (fun h3 H =>
 eW RB (fun _ => []) H<|gE func20 [rg [hF 4], r0] (by kernel_rfl) (P2 (((a0.Seal : Int) != a1.Seal) = false) (bneF h3)<|P0))
 (fun h3 H =>
 eW RB (fun _ => []) H<|gE func20 [rg [hT 4], r0] (by kernel_rfl) (P2 (((a0.Seal : Int) != a1.Seal) = true) (bneT h3)<|P0)))
 (fun h2 H =>
 eW RB (fun _ => []) H<|gE func20 [rg [hT 4], r0] (by kernel_rfl) (P2 (((a0.Side : Int) != a1.Side) = true) (bneT h2)<|P0)))
 (fun h1 H =>
 eW RB (fun _ => []) H<|gE func20 [rg [hT 4], r0] (by kernel_rfl) (P2 (((a0.Turn : Int) != a1.Turn) = true) (bneT h1)<|P0))
noncomputable def Kw_eqMailS : Sw_eqMailS → List Item
 | .h1 .. => nav 300 3 [false] [.code (bdy f8)]
def Zw_eqMailS : Sw_eqMailS → St
 | .h1 va0 b1 i2 => ⟨sts 27 [(0, sl 3 gi_Mail va0), (1, sl 3 gi_Mail b1), (5, I i2)], []⟩
abbrev Qw_eqMailS := Nx X 8 0 Kw_eqMailS Zw_eqMailS RB (fun _ => [])
theorem nw_eqMailS : ∀ s o, Bw_eqMailS s = some o → Qw_eqMailS (Kw_eqMailS s) (Zw_eqMailS s) o
 | .h1 va0 b1 i2, o, H =>
  eIf H (fun h1 H =>
  eCk H fun h2 H =>
  eBind H fun x3 hx3 H =>
  eCk H fun h4 H =>
  eBind H fun x5 hx5 H =>
  eBind H fun r6 hr6 H =>
  gN [rg [hT 3]] (by kernel_rfl) (P2 ((decide (i2 < ((va0.length : Nat) : Int))) = true) (decide_eq_true h1)<|P0) <|
  eIf H (fun h7 H =>
  eN H fun r hn => gO [rg [hE 3 (gi_Mail x3), hE 7 (gi_Mail x5), { i := 8, call := some { cl := true, auto := true, ins := [], res := (RB r6), G' := [] }, dec := some true }], r0, .canon [] [0, 1, 5]] (by kernel_rfl) (P1 h2<|P1 (int_lt_of_at h2 hx3)<|P1 (at_map gi_Mail hx3)<|P1 h4<|P1 (int_lt_of_at h4 hx5)<|P1 (at_map gi_Mail hx5)<|P1 (cw_eqMail hr6)<|P2 (r6 = true) (h7)<|P0) hn)
  (fun h7 H =>
  eN H<|gE func8 [rg [hE 3 (gi_Mail x3), hE 7 (gi_Mail x5), { i := 8, call := some { cl := true, auto := true, ins := [], res := (RB r6), G' := [] }, dec := some false }], r0] (by kernel_rfl) (P1 h2<|P1 (int_lt_of_at h2 hx3)<|P1 (at_map gi_Mail hx3)<|P1 h4<|P1 (int_lt_of_at h4 hx5)<|P1 (at_map gi_Mail hx5)<|P1 (cw_eqMail hr6)<|P2 (r6 = false) (eqF h7)<|P0)))
  (fun h1 H =>
  eN H<|gE func8 [rg [hF 3], r0] (by kernel_rfl) (P2 ((decide (i2 < ((va0.length : Nat) : Int))) = false) (decide_eq_false h1)<|P0))
theorem ww_eqMailS : ∀ s r, loop Bw_eqMailS s = some r → Wc X 8 0 (Kw_eqMailS s) (Zw_eqMailS s) (RB r) ((fun _ => []) r) := Nx.all (nw_eqMailS)
theorem cw_eqMailS {a0 : (List Gi_Mail)} {a1 : (List Gi_Mail)} {r : Bool} (H : Dw_eqMailS a0 a1 = some r) : Ct X.P X.gl 8 [sl 3 gi_Mail a0, sl 3 gi_Mail a1] [] (RB r) [] :=
 Ct.of func8 (c := bdy f8) (by kernel_rfl) (by kernel_rfl) <|
 gS [r0] (by kernel_rfl) P0 <|
 eIf H (fun h1 H =>
 gO [rg [hF 4], r0, .canon [] [0, 1, 5]] (by kernel_rfl) (P2 (((((a0.length : Nat) : Int) : Int) != ((a1.length : Nat) : Int)) = false) (bneF h1)<|P0) (ww_eqMailS _ _ H))
 (fun h1 H =>
 eW RB (fun _ => []) H<|gE func8 [rg [hT 4], r0] (by kernel_rfl) (P2 (((((a0.length : Nat) : Int) : Int) != ((a1.length : Nat) : Int)) = true) (bneT h1)<|P0))
def Rw_markMailS (r : Int × (List Gi_Mail)) : List D := [I r.1]
def Nw_markMailS (r : Int × (List Gi_Mail)) : List Root := [⟨false, false, 3, r.2.length, List.map gi_Mail r.2⟩]
noncomputable def Kw_markMailS : Sw_markMailS → List Item
 | .h1 .. => nav 300 2 [] [.code (bdy f9)]
def Zw_markMailS : Sw_markMailS → St
 | .h1 k0 i1 l2 => ⟨sts 34 [(0, .ref 0 3 none), (1, I k0), (5, I i1)], [some ⟨false, false, 3, l2.length, List.map gi_Mail l2⟩]⟩
abbrev Qw_markMailS := Nx X 9 1 Kw_markMailS Zw_markMailS Rw_markMailS Nw_markMailS
theorem nw_markMailS : ∀ s o, Bw_markMailS s = some o → Qw_markMailS (Kw_markMailS s) (Zw_markMailS s) o
 | .h1 k0 i1 l2, o, H =>
  eIf H (fun h1 H =>
  eCk H fun h2 H =>
  eBind H fun x3 hx3 H =>
  eCk H fun h4 H =>
  eBind H fun x5 hx5 H =>
  eCk H fun h6 H =>
  eBind H fun x7 hx7 H =>
  eN H fun r hn => gO [rg [hT 3], rg [hA 5 ((List.set l2 (Int.toNat i1) (Gi_Mail.mk k0 x3.Side x3.Seal)).length) (List.map gi_Mail (List.set l2 (Int.toNat i1) (Gi_Mail.mk k0 x3.Side x3.Seal)))], r0, rg [hA 5 ((List.set (List.set l2 (Int.toNat i1) (Gi_Mail.mk k0 x3.Side x3.Seal)) (Int.toNat i1) (Gi_Mail.mk x5.Turn (IntKind.wrap .i64 (k0 + 1)) x5.Seal)).length) (List.map gi_Mail (List.set (List.set l2 (Int.toNat i1) (Gi_Mail.mk k0 x3.Side x3.Seal)) (Int.toNat i1) (Gi_Mail.mk x5.Turn (IntKind.wrap .i64 (k0 + 1)) x5.Seal)))], r0, rg [hA 5 ((List.set (List.set (List.set l2 (Int.toNat i1) (Gi_Mail.mk k0 x3.Side x3.Seal)) (Int.toNat i1) (Gi_Mail.mk x5.Turn (IntKind.wrap .i64 (k0 + 1)) x5.Seal)) (Int.toNat i1) (Gi_Mail.mk x7.Turn x7.Side (IntKind.wrap .i64 ((IntKind.wrap .i64 (k0 + 1)) + 1)))).length) (List.map gi_Mail (List.set (List.set (List.set l2 (Int.toNat i1) (Gi_Mail.mk k0 x3.Side x3.Seal)) (Int.toNat i1) (Gi_Mail.mk x5.Turn (IntKind.wrap .i64 (k0 + 1)) x5.Seal)) (Int.toNat i1) (Gi_Mail.mk x7.Turn x7.Side (IntKind.wrap .i64 ((IntKind.wrap .i64 (k0 + 1)) + 1)))))], r0, r0, .canon [0] [0, 1, 5]] (by kernel_rfl) (P2 ((decide (i1 < ((l2.length : Nat) : Int))) = true) (decide_eq_true h1)<|P1 h2<|P1 (int_lt_of_at h2 hx3)<|P1 (lt_of_at hx3)<|P2 (setCells (List.map gi_Mail l2) (Int.toNat i1) 0 [I k0] = List.map gi_Mail (List.set l2 (Int.toNat i1) (Gi_Mail.mk k0 x3.Side x3.Seal))) (setCells_map hx3 rfl)<|P1 (setLen l2 (Int.toNat i1) (Gi_Mail.mk k0 x3.Side x3.Seal))<|P1 h4<|P1 (int_lt_of_at h4 hx5)<|P1 (lt_of_at hx5)<|P2 (setCells (List.map gi_Mail (List.set l2 (Int.toNat i1) (Gi_Mail.mk k0 x3.Side x3.Seal))) (Int.toNat i1) 1 [I (IntKind.wrap .i64 (k0 + 1))] = List.map gi_Mail (List.set (List.set l2 (Int.toNat i1) (Gi_Mail.mk k0 x3.Side x3.Seal)) (Int.toNat i1) (Gi_Mail.mk x5.Turn (IntKind.wrap .i64 (k0 + 1)) x5.Seal))) (setCells_map hx5 rfl)<|P1 (setLen (List.set l2 (Int.toNat i1) (Gi_Mail.mk k0 x3.Side x3.Seal)) (Int.toNat i1) (Gi_Mail.mk x5.Turn (IntKind.wrap .i64 (k0 + 1)) x5.Seal))<|P1 h6<|P1 (int_lt_of_at h6 hx7)<|P1 (lt_of_at hx7)<|P2 (setCells (List.map gi_Mail (List.set (List.set l2 (Int.toNat i1) (Gi_Mail.mk k0 x3.Side x3.Seal)) (Int.toNat i1) (Gi_Mail.mk x5.Turn (IntKind.wrap .i64 (k0 + 1)) x5.Seal))) (Int.toNat i1) 2 [I (IntKind.wrap .i64 ((IntKind.wrap .i64 (k0 + 1)) + 1))] = List.map gi_Mail (List.set (List.set (List.set l2 (Int.toNat i1) (Gi_Mail.mk k0 x3.Side x3.Seal)) (Int.toNat i1) (Gi_Mail.mk x5.Turn (IntKind.wrap .i64 (k0 + 1)) x5.Seal)) (Int.toNat i1) (Gi_Mail.mk x7.Turn x7.Side (IntKind.wrap .i64 ((IntKind.wrap .i64 (k0 + 1)) + 1))))) (setCells_map hx7 rfl)<|P1 (setLen (List.set (List.set l2 (Int.toNat i1) (Gi_Mail.mk k0 x3.Side x3.Seal)) (Int.toNat i1) (Gi_Mail.mk x5.Turn (IntKind.wrap .i64 (k0 + 1)) x5.Seal)) (Int.toNat i1) (Gi_Mail.mk x7.Turn x7.Side (IntKind.wrap .i64 ((IntKind.wrap .i64 (k0 + 1)) + 1))))<|P0) hn)
  (fun h1 H =>
  eN H<|gE func9 [rg [hF 3], r0] (by kernel_rfl) (P2 ((decide (i1 < ((l2.length : Nat) : Int))) = false) (decide_eq_false h1)<|P0))
theorem ww_markMailS : ∀ s r, loop Bw_markMailS s = some r → Wc X 9 1 (Kw_markMailS s) (Zw_markMailS s) (Rw_markMailS r) (Nw_markMailS r) := Nx.all (nw_markMailS)
theorem cw_markMailS {a0 : (List Gi_Mail)} {a1 : Int} {r : Int × (List Gi_Mail)} (H : Dw_markMailS a0 a1 = some r) : Ct X.P X.gl 9 [.ref 0 3 none, I a1] [⟨false, false, 3, a0.length, List.map gi_Mail a0⟩] (Rw_markMailS r) (Nw_markMailS r) :=
 Ct.of func9 (c := bdy f9) (by kernel_rfl) (by kernel_rfl) <|
 gO [r0, r0, .canon [0] [0, 1, 5]] (by kernel_rfl) P0 (ww_markMailS _ _ H)
noncomputable def Kw_heldMailS : Sw_heldMailS → List Item
 | .h1 .. => nav 300 2 [] [.code (bdy f10)]
def Zw_heldMailS : Sw_heldMailS → St
 | .h1 va0 k1 i2 => ⟨sts 40 [(0, sl 3 gi_Mail va0), (1, I k1), (5, I i2)], []⟩
abbrev Qw_heldMailS := Nx X 10 0 Kw_heldMailS Zw_heldMailS RI (fun _ => [])
theorem nw_heldMailS : ∀ s o, Bw_heldMailS s = some o → Qw_heldMailS (Kw_heldMailS s) (Zw_heldMailS s) o
 | .h1 va0 k1 i2, o, H =>
  eIf H (fun h1 H =>
  eCk H fun h2 H =>
  eBind H fun x3 hx3 H =>
  gN [rg [hT 3]] (by kernel_rfl) (P2 ((decide (i2 < ((va0.length : Nat) : Int))) = true) (decide_eq_true h1)<|P0) <|
  eIf H (fun h4 H =>
  eCk H fun h5 H =>
  eBind H fun x6 hx6 H =>
  gN [rg [hE 4 (gi_Mail x3), hF 6], r0] (by kernel_rfl) (P1 h2<|P1 (int_lt_of_at h2 hx3)<|P1 (at_map gi_Mail hx3)<|P2 (((x3.Turn : Int) != k1) = false) (bneF h4)<|P0) <|
  eIf H (fun h7 H =>
  eCk H fun h8 H =>
  eBind H fun x9 hx9 H =>
  gN [rg [hE 4 (gi_Mail x6), hF 6], r0] (by kernel_rfl) (P1 h5<|P1 (int_lt_of_at h5 hx6)<|P1 (at_map gi_Mail hx6)<|P2 (((x6.Side : Int) != (IntKind.wrap .i64 (k1 + 1))) = false) (bneF h7)<|P0) <|
  eIf H (fun h10 H =>
  eN H fun r hn => gO [rg [hE 4 (gi_Mail x9), hF 6], r0, r0, .canon [] [0, 1, 5]] (by kernel_rfl) (P1 h8<|P1 (int_lt_of_at h8 hx9)<|P1 (at_map gi_Mail hx9)<|P2 (((x9.Seal : Int) != (IntKind.wrap .i64 ((IntKind.wrap .i64 (k1 + 1)) + 1))) = false) (bneF h10)<|P0) hn)
  (fun h10 H =>
  eN H<|gE func10 [rg [hE 4 (gi_Mail x9), hT 6], r0] (by kernel_rfl) (P1 h8<|P1 (int_lt_of_at h8 hx9)<|P1 (at_map gi_Mail hx9)<|P2 (((x9.Seal : Int) != (IntKind.wrap .i64 ((IntKind.wrap .i64 (k1 + 1)) + 1))) = true) (bneT h10)<|P0)))
  (fun h7 H =>
  eN H<|gE func10 [rg [hE 4 (gi_Mail x6), hT 6], r0] (by kernel_rfl) (P1 h5<|P1 (int_lt_of_at h5 hx6)<|P1 (at_map gi_Mail hx6)<|P2 (((x6.Side : Int) != (IntKind.wrap .i64 (k1 + 1))) = true) (bneT h7)<|P0)))
  (fun h4 H =>
  eN H<|gE func10 [rg [hE 4 (gi_Mail x3), hT 6], r0] (by kernel_rfl) (P1 h2<|P1 (int_lt_of_at h2 hx3)<|P1 (at_map gi_Mail hx3)<|P2 (((x3.Turn : Int) != k1) = true) (bneT h4)<|P0)))
  (fun h1 H =>
  eN H<|gE func10 [rg [hF 3], r0] (by kernel_rfl) (P2 ((decide (i2 < ((va0.length : Nat) : Int))) = false) (decide_eq_false h1)<|P0))
theorem ww_heldMailS : ∀ s r, loop Bw_heldMailS s = some r → Wc X 10 0 (Kw_heldMailS s) (Zw_heldMailS s) (RI r) ((fun _ => []) r) := Nx.all (nw_heldMailS)
theorem cw_heldMailS {a0 : (List Gi_Mail)} {a1 : Int} {r : Int} (H : Dw_heldMailS a0 a1 = some r) : Ct X.P X.gl 10 [sl 3 gi_Mail a0, I a1] [] (RI r) [] :=
 Ct.of func10 (c := bdy f10) (by kernel_rfl) (by kernel_rfl) <|
 gO [r0, r0, .canon [] [0, 1, 5]] (by kernel_rfl) P0 (ww_heldMailS _ _ H)
theorem cw_FnExactMergeMail {a0 : (List Gw_Mail)} {a1 : (List Gw_Mail)} {r : Bool} (H : Dw_FnExactMergeMail a0 a1 = some r) : Ct X.P X.gl 3 [sl 3 gw_Mail a0, sl 3 gw_Mail a1] [] (RB r) [] :=
 Ct.of func3 (c := bdy f3) (by kernel_rfl) (by kernel_rfl) <|
 eBind H fun r1 hr1 H =>
 gS [r0, r0, rg [hC 2 true [] (RI r1) []]] (by kernel_rfl) (P1 (cw_szMailS hr1)<|P0) <|
 eIf H (fun h2 H =>
 eW RB (fun _ => []) H<|gE func3 [rg [hT 1], r0] (by kernel_rfl) (P2 ((decide (r1 < 0)) = true) (decide_eq_true h2)<|P0))
 (fun h2 H =>
 eBind H fun r3 hr3 H =>
 gS [rg [hF 1], rg [hC 2 true [] (RI r3) []]] (by kernel_rfl) (P2 ((decide (r1 < 0)) = false) (decide_eq_false h2)<|P1 (cw_szMailS hr3)<|P0) <|
 eIf H (fun h4 H =>
 eW RB (fun _ => []) H<|gE func3 [rg [hT 1], r0] (by kernel_rfl) (P2 ((decide (r3 < 0)) = true) (decide_eq_true h4)<|P0))
 (fun h4 H =>
 eBind H fun r5 hr5 H =>
 eBind H fun r6 hr6 H =>
 eBind H fun r7 hr7 H =>
 eBind H fun r8 hr8 H =>
 eBind H fun r9 hr9 H =>
 eBind H fun r10 hr10 H =>
 eBind H fun r11 hr11 H =>
 gS [rg [hF 1], rg [hC 1 true [] (Rw_toMailS r5) [], hC 3 true [] (Rw_toMailS r6) [], hC 4 false [] (Rs_MergeMail r7) []], rg [hC 1 true [] (Rw_toMailS r8) []], rg [hC 1 true [] (Rw_toMailS r9) []], rg [hC 2 false [] (Ri_MergeMail r10) []]] (by kernel_rfl) (P2 ((decide (r3 < 0)) = false) (decide_eq_false h4)<|P1 (cw_toMailS hr5)<|P1 (cw_toMailS hr6)<|P2 (nfL (List.flatMap D.cells (Rs_MergeMail r7))) ⟨nfL_map nf_33 _, nfL_map nf_33 _, trivial, trivial⟩<|P2 (nfG []) trivial<|P1 (cs_MergeMail hr7)<|P1 (cw_toMailS hr8)<|P1 (cw_toMailS hr9)<|P2 (nfL (List.flatMap D.cells (Ri_MergeMail r10))) ⟨nfL_map nf_33 _, nfL_map nf_33 _, trivial, trivial⟩<|P2 (nfG []) trivial<|P1 (ci_MergeMail hr10)<|P0) <|
 eIf H (fun h12 H =>
 eBind H fun r13 hr13 H =>
 eIf H (fun h14 H =>
 eIf H (fun h15 H =>
 eW RB (fun _ => []) H<|gE func3 [rg [{ i := 2, call := some { cl := false, auto := true, ins := [], res := (RB r11), G' := [] }, dec := some true }, { i := 7, call := some { cl := false, auto := true, ins := [], res := (RB r13), G' := [] }, dec := some true }, hT 13], r0] (by kernel_rfl) (P1 (cw_eqMailS hr11)<|P2 (r11 = true) (h12)<|P1 (cw_eqMailS hr13)<|P2 (r13 = true) (h14)<|P2 ((!(r10.2.2 == r7.2.2)) = true) (h15)<|P0))
 (fun h15 H =>
 eBind H fun r16 hr16 H =>
 eBind H fun r17 hr17 H =>
 gS [rg [{ i := 2, call := some { cl := false, auto := true, ins := [], res := (RB r11), G' := [] }, dec := some true }, { i := 7, call := some { cl := false, auto := true, ins := [], res := (RB r13), G' := [] }, dec := some true }, hF 13]] (by kernel_rfl) (P1 (cw_eqMailS hr11)<|P2 (r11 = true) (h12)<|P1 (cw_eqMailS hr13)<|P2 (r13 = true) (h14)<|P2 ((!(r10.2.2 == r7.2.2)) = false) (eqF h15)<|P0) <|
 eIf H (fun h18 H =>
 eBind H fun r19 hr19 H =>
 eBind H fun r20 hr20 H =>
 gS [rg [hC 2 true [] (Rw_toMailS r16) [], { i := 3, call := some { cl := false, auto := true, ins := [], res := (RB r17), G' := [] }, dec := some true }]] (by kernel_rfl) (P1 (cw_toMailS hr16)<|P1 (cw_eqMailS hr17)<|P2 (r17 = true) (h18)<|P0) <|
 eIf H (fun h21 H =>
 eBind H fun r22 hr22 H =>
 eCk H fun h23 H =>
 eBind H fun r24 hr24 H =>
 eCk H fun h25 H =>
 gS [rg [hC 2 true [] (Rw_toMailS r19) [], { i := 3, call := some { cl := false, auto := true, ins := [], res := (RB r20), G' := [] }, dec := some true }], r0, rg [hC 2 true [4] (Rw_markMailS r22) (Nw_markMailS r22)], rg [hC 2 true [5] (Rw_markMailS r24) (Nw_markMailS r24)]] (by kernel_rfl) (P1 (cw_toMailS hr19)<|P1 (cw_eqMailS hr20)<|P2 (r20 = true) (h21)<|P1 h23<|P1 (cw_markMailS hr22)<|P1 h25<|P1 (cw_markMailS hr24)<|P0) <|
 eIf H (fun h26 H =>
 eW RB (fun _ => []) H<|gE func3 [rg [hT 1], r0] (by kernel_rfl) (P2 ((decide (r24.1 < 0)) = true) (decide_eq_true h26)<|P0))
 (fun h26 H =>
 eBind H fun r27 hr27 H =>
 eIf H (fun h28 H =>
 eBind H fun r29 hr29 H =>
 eIf H (fun h30 H =>
 eIf H (fun h31 H =>
 eW RB (fun _ => []) H<|gE func3 [rg [hF 1, { i := 5, call := some { cl := false, auto := true, ins := [], res := (RB r27), G' := [] }, dec := some true }, { i := 11, call := some { cl := false, auto := true, ins := [], res := (RB r29), G' := [] }, dec := some true }, hT 17], r0] (by kernel_rfl) (P2 ((decide (r24.1 < 0)) = false) (decide_eq_false h26)<|P1 (cw_eqMailS hr27)<|P2 (r27 = true) (h28)<|P1 (cw_eqMailS hr29)<|P2 (r29 = true) (h30)<|P2 ((!(r10.2.2 == r7.2.2)) = true) (h31)<|P0))
 (fun h31 H =>
 eBind H fun r32 hr32 H =>
 eCk H fun h33 H =>
 eBind H fun r34 hr34 H =>
 eCk H fun h35 H =>
 eBind H fun r36 hr36 H =>
 gS [rg [hF 1, { i := 5, call := some { cl := false, auto := true, ins := [], res := (RB r27), G' := [] }, dec := some true }, { i := 11, call := some { cl := false, auto := true, ins := [], res := (RB r29), G' := [] }, dec := some true }, hF 17], r0, rg [hC 2 true [6] (Rw_markMailS r32) (Nw_markMailS r32)], rg [hC 2 true [7] (Rw_markMailS r34) (Nw_markMailS r34)], r0, rg [hC 2 false [] (RI r36) []]] (by kernel_rfl) (P2 ((decide (r24.1 < 0)) = false) (decide_eq_false h26)<|P1 (cw_eqMailS hr27)<|P2 (r27 = true) (h28)<|P1 (cw_eqMailS hr29)<|P2 (r29 = true) (h30)<|P2 ((!(r10.2.2 == r7.2.2)) = false) (eqF h31)<|P1 h33<|P1 (cw_markMailS hr32)<|P1 h35<|P1 (cw_markMailS hr34)<|P1 (cw_heldMailS hr36)<|P0) <|
 eIf H (fun h37 H =>
 eW RB (fun _ => []) H<|gE func3 [rg [hT 1], r0] (by kernel_rfl) (P2 ((decide (r36 < 0)) = true) (decide_eq_true h37)<|P0))
 (fun h37 H =>
 eBind H fun r38 hr38 H =>
 gS [rg [hF 1], rg [hC 2 false [] (RI r38) []]] (by kernel_rfl) (P2 ((decide (r36 < 0)) = false) (decide_eq_false h37)<|P1 (cw_heldMailS hr38)<|P0) <|
 eIf H (fun h39 H =>
 eW RB (fun _ => []) H<|gE func3 [rg [hT 1], r0] (by kernel_rfl) (P2 ((decide (r38 < 0)) = true) (decide_eq_true h39)<|P0))
 (fun h39 H =>
 gS [rg [hF 1]] (by kernel_rfl) (P2 ((decide (r38 < 0)) = false) (decide_eq_false h39)<|P0) <|
 eIf H (fun h40 H =>
 eBind H fun r41 hr41 H =>
 eBind H fun r42 hr42 H =>
 eBind H fun r43 hr43 H =>
 eBind H fun r44 hr44 H =>
 gS [rg [hF 2], rg [hC 1 true [] (Rw_toMailS r41) [], hC 3 true [] (Rw_toMailS r42) [], hC 4 false [] (Ri_MergeMail r43) []]] (by kernel_rfl) (P2 (((r38 : Int) != r34.1) = false) (bneF h40)<|P1 (cw_toMailS hr41)<|P1 (cw_toMailS hr42)<|P2 (nfL (List.flatMap D.cells (Ri_MergeMail r43))) ⟨nfL_map nf_33 _, nfL_map nf_33 _, trivial, trivial⟩<|P2 (nfG []) trivial<|P1 (ci_MergeMail hr43)<|P0) <|
 eIf H (fun h45 H =>
 eBind H fun r46 hr46 H =>
 eIf H (fun h47 H =>
 eIf H (fun h48 H =>
 eW RB (fun _ => []) H<|gE func3 [rg [{ i := 2, call := some { cl := false, auto := true, ins := [], res := (RB r44), G' := [] }, dec := some true }, { i := 7, call := some { cl := false, auto := true, ins := [], res := (RB r46), G' := [] }, dec := some true }, hT 13], r0] (by kernel_rfl) (P1 (cw_eqMailS hr44)<|P2 (r44 = true) (h45)<|P1 (cw_eqMailS hr46)<|P2 (r46 = true) (h47)<|P2 ((!(r43.2.2 == r7.2.2)) = true) (h48)<|P0))
 (fun h48 H =>
 eBind H fun r49 hr49 H =>
 gS [rg [{ i := 2, call := some { cl := false, auto := true, ins := [], res := (RB r44), G' := [] }, dec := some true }, { i := 7, call := some { cl := false, auto := true, ins := [], res := (RB r46), G' := [] }, dec := some true }, hF 13], r0, rg [hC 2 false [] (RI r49) []]] (by kernel_rfl) (P1 (cw_eqMailS hr44)<|P2 (r44 = true) (h45)<|P1 (cw_eqMailS hr46)<|P2 (r46 = true) (h47)<|P2 ((!(r43.2.2 == r7.2.2)) = false) (eqF h48)<|P1 (cw_heldMailS hr49)<|P0) <|
 eIf H (fun h50 H =>
 eW RB (fun _ => []) H<|gE func3 [rg [hT 1], r0] (by kernel_rfl) (P2 ((decide (r49 < 0)) = true) (decide_eq_true h50)<|P0))
 (fun h50 H =>
 eBind H fun r51 hr51 H =>
 gS [rg [hF 1], rg [hC 2 false [] (RI r51) []]] (by kernel_rfl) (P2 ((decide (r49 < 0)) = false) (decide_eq_false h50)<|P1 (cw_heldMailS hr51)<|P0) <|
 eIf H (fun h52 H =>
 eW RB (fun _ => []) H<|gE func3 [rg [hT 1], r0] (by kernel_rfl) (P2 ((decide (r51 < 0)) = true) (decide_eq_true h52)<|P0))
 (fun h52 H =>
 gS [rg [hF 1]] (by kernel_rfl) (P2 ((decide (r51 < 0)) = false) (decide_eq_false h52)<|P0) <|
 eIf H (fun h53 H =>
 eW RB (fun _ => []) H<|gE func3 [rg [hF 2], r0] (by kernel_rfl) (P2 (((r51 : Int) != r34.1) = false) (bneF h53)<|P0))
 (fun h53 H =>
 eW RB (fun _ => []) H<|gE func3 [rg [hT 2], r0] (by kernel_rfl) (P2 (((r51 : Int) != r34.1) = true) (bneT h53)<|P0))))))
 (fun h47 H =>
 eW RB (fun _ => []) H<|gE func3 [rg [{ i := 2, call := some { cl := false, auto := true, ins := [], res := (RB r44), G' := [] }, dec := some true }, { i := 7, call := some { cl := false, auto := true, ins := [], res := (RB r46), G' := [] }, dec := some false }], r0] (by kernel_rfl) (P1 (cw_eqMailS hr44)<|P2 (r44 = true) (h45)<|P1 (cw_eqMailS hr46)<|P2 (r46 = false) (eqF h47)<|P0)))
 (fun h45 H =>
 eW RB (fun _ => []) H<|gE func3 [rg [{ i := 2, call := some { cl := false, auto := true, ins := [], res := (RB r44), G' := [] }, dec := some false }], r0] (by kernel_rfl) (P1 (cw_eqMailS hr44)<|P2 (r44 = false) (eqF h45)<|P0)))
 (fun h40 H =>
 eW RB (fun _ => []) H<|gE func3 [rg [hT 2], r0] (by kernel_rfl) (P2 (((r38 : Int) != r34.1) = true) (bneT h40)<|P0))))))
 (fun h30 H =>
 eW RB (fun _ => []) H<|gE func3 [rg [hF 1, { i := 5, call := some { cl := false, auto := true, ins := [], res := (RB r27), G' := [] }, dec := some true }, { i := 11, call := some { cl := false, auto := true, ins := [], res := (RB r29), G' := [] }, dec := some false }], r0] (by kernel_rfl) (P2 ((decide (r24.1 < 0)) = false) (decide_eq_false h26)<|P1 (cw_eqMailS hr27)<|P2 (r27 = true) (h28)<|P1 (cw_eqMailS hr29)<|P2 (r29 = false) (eqF h30)<|P0)))
 (fun h28 H =>
 eW RB (fun _ => []) H<|gE func3 [rg [hF 1, { i := 5, call := some { cl := false, auto := true, ins := [], res := (RB r27), G' := [] }, dec := some false }], r0] (by kernel_rfl) (P2 ((decide (r24.1 < 0)) = false) (decide_eq_false h26)<|P1 (cw_eqMailS hr27)<|P2 (r27 = false) (eqF h28)<|P0))))
 (fun h21 H =>
 eW RB (fun _ => []) H<|gE func3 [rg [hC 2 true [] (Rw_toMailS r19) [], { i := 3, call := some { cl := false, auto := true, ins := [], res := (RB r20), G' := [] }, dec := some false }], r0] (by kernel_rfl) (P1 (cw_toMailS hr19)<|P1 (cw_eqMailS hr20)<|P2 (r20 = false) (eqF h21)<|P0)))
 (fun h18 H =>
 eW RB (fun _ => []) H<|gE func3 [rg [hC 2 true [] (Rw_toMailS r16) [], { i := 3, call := some { cl := false, auto := true, ins := [], res := (RB r17), G' := [] }, dec := some false }], r0] (by kernel_rfl) (P1 (cw_toMailS hr16)<|P1 (cw_eqMailS hr17)<|P2 (r17 = false) (eqF h18)<|P0))))
 (fun h14 H =>
 eW RB (fun _ => []) H<|gE func3 [rg [{ i := 2, call := some { cl := false, auto := true, ins := [], res := (RB r11), G' := [] }, dec := some true }, { i := 7, call := some { cl := false, auto := true, ins := [], res := (RB r13), G' := [] }, dec := some false }], r0] (by kernel_rfl) (P1 (cw_eqMailS hr11)<|P2 (r11 = true) (h12)<|P1 (cw_eqMailS hr13)<|P2 (r13 = false) (eqF h14)<|P0)))
 (fun h12 H =>
 eW RB (fun _ => []) H<|gE func3 [rg [{ i := 2, call := some { cl := false, auto := true, ins := [], res := (RB r11), G' := [] }, dec := some false }], r0] (by kernel_rfl) (P1 (cw_eqMailS hr11)<|P2 (r11 = false) (eqF h12)<|P0))))
end Go.Proofs.Ytogomlkoocbhcaa.Ab
