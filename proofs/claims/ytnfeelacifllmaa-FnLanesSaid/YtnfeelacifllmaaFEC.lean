/- Part of the proof of FnLanes: no condition of its own. -/
import Derived.Test.YtnfeelacifllmaaAb6
import Derived.Test.YtnfeelacifllmaaAb6
import Derived.Test.YtnfeelacifllmaaChecked
import Derived.Test.YtnfeelacifllmaaFED
set_option linter.unusedVariables false
set_option linter.unusedSimpArgs false
open Go Go.Proofs Go.Proofs.Try
namespace Go.Proofs.Ytnfeelacifllmaa.Ab
def T : Tab := [(3, ⟨(TK.int IntKind.i64), 1, 8, I 0⟩),
  (4, ⟨TK.bool, 1, 1, (D.bool false)⟩),
  (5, ⟨(TK.int IntKind.u8), 1, 1, .int .u8 0⟩),
  (22, ⟨(TK.slice 5), 1, 24, D.nil⟩),
  (24, ⟨(TK.slice 69), 1, 24, D.nil⟩),
  (25, ⟨(TK.slice 3), 1, 24, D.nil⟩),
  (27, ⟨(TK.strct [(FI.mk 0 1 false), (FI.mk 1 1 false), (FI.mk 2 1 false)] none), 3, 56, (D.agg [I 0, D.nil, D.nil])⟩),
  (30, ⟨(TK.slice 64), 1, 24, D.nil⟩),
  (58, ⟨(TK.strct [(FI.mk 0 1 false), (FI.mk 1 1 false), (FI.mk 2 1 false), (FI.mk 3 1 false), (FI.mk 4 1 false)] (some [(LK.int IntKind.i64), (LK.int IntKind.i64), (LK.int IntKind.i64), (LK.int IntKind.i64), LK.bool])), 5, 40, (D.agg [I 0, I 0, I 0, I 0, (D.bool false)])⟩),
  (59, ⟨(TK.slice 58), 1, 24, D.nil⟩),
  (61, ⟨(TK.strct [(FI.mk 0 1 false), (FI.mk 1 1 false)] none), 2, 32, (D.agg [I 0, D.nil])⟩),
  (64, ⟨(TK.strct [(FI.mk 0 1 false), (FI.mk 1 1 false), (FI.mk 2 1 false)] (some [(LK.int IntKind.i64), (LK.int IntKind.i64), (LK.int IntKind.i64)])), 3, 24, (D.agg [I 0, I 0, I 0])⟩),
  (69, ⟨(TK.strct [(FI.mk 0 1 false), (FI.mk 1 1 false), (FI.mk 2 1 false)] (some [(LK.int IntKind.i64), (LK.int IntKind.i64), (LK.int IntKind.i64)])), 3, 24, (D.agg [I 0, I 0, I 0])⟩),
  (70, ⟨(TK.slice 73), 1, 24, D.nil⟩),
  (73, ⟨(TK.strct [(FI.mk 0 1 false), (FI.mk 1 1 false), (FI.mk 2 1 false)] (some [(LK.int IntKind.i64), LK.bool, LK.bool])), 3, 16, (D.agg [I 0, (D.bool false), (D.bool false)])⟩),
  (85, ⟨(TK.int IntKind.u64), 1, 8, (D.int IntKind.u64 (Int.ofNat 0))⟩),
  (87, ⟨(TK.strct [(FI.mk 0 1 false), (FI.mk 1 1 false), (FI.mk 2 1 false)] none), 3, 40, (D.agg [D.nil, I 0, (D.int IntKind.u64 (Int.ofNat 0))])⟩),
  (95, ⟨(TK.slice 99), 1, 24, D.nil⟩),
  (97, ⟨(TK.strct [(FI.mk 0 1 false), (FI.mk 1 1 false)] none), 2, 32, (D.agg [D.nil, I 0])⟩),
  (99, ⟨(TK.strct [(FI.mk 0 1 false), (FI.mk 1 1 false), (FI.mk 2 1 false), (FI.mk 3 1 false)] (some [(LK.int IntKind.i64), (LK.int IntKind.i64), (LK.int IntKind.i64), (LK.int IntKind.i64)])), 4, 32, (D.agg [I 0, I 0, I 0, I 0])⟩)]
noncomputable def X : Ctx := ⟨Go.Proofs.Try.prog, T, []⟩
theorem T_ok : TabOK X.P X.T := ⟨by kernel_rfl, by kernel_rfl, by kernel_rfl, by kernel_rfl, by kernel_rfl, by kernel_rfl, by kernel_rfl, by kernel_rfl, by kernel_rfl, by kernel_rfl, by kernel_rfl, by kernel_rfl, by kernel_rfl, by kernel_rfl, by kernel_rfl, by kernel_rfl, by kernel_rfl, by kernel_rfl, by kernel_rfl, by kernel_rfl, trivial⟩
theorem mixed : X.P.follows .mixedOrders = true := Go.Proofs.Try.checked.mixed
theorem gO (s : Sg) {f : FuncId} {M : Nat} {k k' : List Item} {σ σ' : St} {res : List D} {G' : List Root} (hk : Wc X f M k' σ' res G') (h : run X M s.cs k σ = some (s.ps, k', σ') := by kernel_rfl) : Wc X f M k σ res G' := run_ok T_ok mixed h s.pf hk
theorem gE {f : FuncId} {M : Nat} {k : List Item} {σ : St} {res : List D} {G' : List Root} {fn : Func} (hf : X.P.funcs[f]? = some fn) (s : Sg) (h : runFinC X M s.cs k σ fn.results.toList res = some (s.ps, res, G') := by kernel_rfl) : Wc X f M k σ res G' := runFinC_ok T_ok mixed hf h s.pf
theorem gS (s : Sg) {f : FuncId} {M : Nat} {k : List Item} {σ : St} {res : List D} {G' : List Root} (hk : Wc X f M (runK X M s.cs k σ) (runS X M s.cs k σ) res G') (h : runP X M s.cs k σ = some s.ps := by kernel_rfl) : Wc X f M k σ res G' := seg_ok T_ok mixed s.cs h s.pf hk
theorem gN {ς ρ : Type} (s : Sg) {f : FuncId} {M : Nat} {K : ς → List Item} {Z : ς → St} {R : ρ → List D} {G : ρ → List Root} {k : List Item} {σ : St} {o : ς ⊕ ρ} (hk : Nx X f M K Z R G (runK X M s.cs k σ) (runS X M s.cs k σ) o) (h : runP X M s.cs k σ = some s.ps := by kernel_rfl) : Nx X f M K Z R G k σ o := segN_ok T_ok mixed s.cs h s.pf hk
theorem gXM {ρ : Type} (R : ρ → List D) (G : ρ → List Root) {v o : ρ} {f : FuncId} {M : Nat} {k : List Item} {σ : St} {fn : Func} (hf : X.P.funcs[f]? = some fn) (H : some v = some o) (s : Sg) (h : runFinC X M s.cs k σ fn.results.toList (R v) = some (s.ps, R v, G v) := by kernel_rfl) : Wc X f M k σ (R o) (G o) := eW R G H (gE hf s h)
theorem gX {ρ : Type} (R : ρ → List D) {v o : ρ} {f : FuncId} {k : List Item} {σ : St} {fn : Func} (hf : X.P.funcs[f]? = some fn) (H : some v = some o) (s : Sg) (h : runFinC X 0 s.cs k σ fn.results.toList (R v) = some (s.ps, R v, []) := by kernel_rfl) : Wc X f 0 k σ (R o) [] := gXM R (fun _ => []) hf H s h
theorem gY {ς ρ : Type} {f : FuncId} {M : Nat} {K : ς → List Item} {Z : ς → St} {R : ρ → List D} {G : ρ → List Root} {k : List Item} {σ : St} {v : ρ} {o : ς ⊕ ρ} {fn : Func} (hf : X.P.funcs[f]? = some fn) (H : some (Sum.inr v) = some o) (s : Sg) (h : runFinC X M s.cs k σ fn.results.toList (R v) = some (s.ps, R v, G v) := by kernel_rfl) : Nx X f M K Z R G k σ o := eN H (gE hf s h)
abbrev NxA {ς ρ : Type} (f : FuncId) (M : Nat) (B : ς → Option (ς ⊕ ρ)) (K : ς → List Item) (Z : ς → St) (R : ρ → List D) (G : ρ → List Root) : Prop := ∀ s o, B s = some o → Nx X f M K Z R G (K s) (Z s) o
theorem gW {ς ρ : Type} {f : FuncId} {M : Nat} {B : ς → Option (ς ⊕ ρ)} {K : ς → List Item} {Z : ς → St} {R : ρ → List D} {G : ρ → List Root} (h : NxA f M B K Z R G) {s : ς} {r : ρ} (H : loop B s = some r) : Wc X f M (K s) (Z s) (R r) (G r) := Nx.all h s r H
abbrev Cc (f : FuncId) (ar res : List D) : Prop := Ct X.P X.gl f ar [] res []
theorem gF {f : FuncId} {fn : Func} {args res : List D} {G G' : List Root} (hf : X.P.funcs[f]? = some fn) (h : Wc X f G.length [.code (bdy fn)] ⟨args ++ List.replicate (fn.ntmps - args.length) .undef, G.map some⟩ res G') (hb : fn.body = some (bdy fn) := by kernel_rfl) (hn : (fn.name == "runtime.NumGoroutine") = false := by kernel_rfl) : Ct X.P X.gl f args G res G' := Ct.of hf hb hn h
theorem gRx (s : Sg) (n : Nat) (xs : List (Nat × Hint)) {f : FuncId} {M : Nat} {k : List Item} {σ : St} {res : List D} {G' : List Root} (hk : Wc X f M (rxK X k σ s.cs n xs) (rxS X k σ s.cs n xs) res G') (h : rxP X k σ s.cs n xs = some s.ps := by kernel_rfl) : Wc X f M k σ res G' := rx_ok T_ok mixed s.cs n xs h s.pf hk
theorem gRN {ς ρ : Type} (s : Sg) (n : Nat) (xs : List (Nat × Hint)) {f : FuncId} {M : Nat} {K : ς → List Item} {Z : ς → St} {R : ρ → List D} {G : ρ → List Root} {k : List Item} {σ : St} {o : ς ⊕ ρ} (hk : Nx X f M K Z R G (rxK X k σ s.cs n xs) (rxS X k σ s.cs n xs) o) (h : rxP X k σ s.cs n xs = some s.ps := by kernel_rfl) : Nx X f M K Z R G k σ o := rxN_ok T_ok mixed s.cs n xs h s.pf hk
theorem nf_3 : ∀ x, (I x).nf := fun x => by simp [D.nf, nfL]
theorem nf_58 : ∀ x, (gi_arc x).nf := fun x => by simp [gi_arc, D.nf, nfL]
theorem nf_64 : ∀ x, (gi_Convoy x).nf := fun x => by simp [gi_Convoy, D.nf, nfL]
theorem nf_69 : ∀ x, (gi_Lane x).nf := fun x => by simp [gi_Lane, D.nf, nfL]
theorem nf_73 : ∀ x, (gi_visit x).nf := fun x => by simp [gi_visit, D.nf, nfL]
theorem allFl_3 (l : List Int) : AllFl (List.map I l) := allFl_map (fun x c hc => by simp [D.cells] at hc; rcases hc with rfl <;> rfl) l
theorem allFl_69 (l : List Gi_Lane) : AllFl (List.map gi_Lane l) := allFl_map (fun x c hc => by simp [gi_Lane, D.cells] at hc; rcases hc with rfl | rfl | rfl <;> rfl) l
def lays_g74_ren : Go.Shelf.Ren := ⟨fun | 45 => 74 | n => n, fun | 22 => 24 | 23 => 69 | 3 => 3 | 4 => 4 | 0 => 0 | n => n, fun | n => n⟩
theorem lays_g74 : Go.Proofs.SlLaysE0.n45 Go.Proofs.Try.prog lays_g74_ren := {
  mixed := by kernel_rfl
  f45 := ⟨Go.Proofs.Try.f74.name, by decide, Go.Proofs.Try.func74.trans (congrArg some (by kernel_rfl))⟩
  t0 := Go.Proofs.Try.underlying0
  a0 := Go.Proofs.Try.isAgg0
  z0 := Go.Proofs.Try.sizeOf0
  v0 := Go.Proofs.Try.zeroValue0
  t3 := Go.Proofs.Try.underlying3
  a3 := Go.Proofs.Try.isAgg3
  z3 := Go.Proofs.Try.sizeOf3
  v3 := Go.Proofs.Try.zeroValue3
  t4 := Go.Proofs.Try.underlying4
  a4 := Go.Proofs.Try.isAgg4
  z4 := Go.Proofs.Try.sizeOf4
  v4 := Go.Proofs.Try.zeroValue4
  t22 := Go.Proofs.Try.underlying24
  a22 := Go.Proofs.Try.isAgg24
  z22 := Go.Proofs.Try.sizeOf24
  v22 := Go.Proofs.Try.zeroValue24 }

theorem cw_big {a0 a1 r} (H : Dw_big a0 a1 = some r) : Cc 5 [sl 1 (D.int .u8) a0, sl 1 (D.int .u8) a1] (RB r) :=
  gF func5 <|
  gS (sZ) <|
  eIf H (fun h1 H =>
  gX RB func5 H (sT 2 h1<|sZ))
  (fun h1 H =>
  gX RB func5 H (sF 2 h1<|sZ))
def Rs_l1Cur_next (r : Int × Gs_l1Cur) : List D := [I r.1]
def Ns_l1Cur_next (r : Int × Gs_l1Cur) : List Root := [⟨false, true, 3, 1, [gs_l1Cur r.2]⟩]
theorem cs_l1Cur_next {a0 r} (H : Ds_l1Cur_next a0 = some r) : Ct X.P X.gl 72 [.ptr 0 3 0 0] [⟨false, true, 3, 1, [gs_l1Cur a0]⟩] (Rs_l1Cur_next r) (Ns_l1Cur_next r) :=
  gF func72 <|
  gS (sN<|sZ) <|
  eIf H (fun h1 H =>
  eL H fun h2 x3 hx3 H =>
  gS (sT 9 h1<|sN<|sL 9 (D.int .u8) h2 hx3<|sN<|sN<|sZ) <|
  eIf H (fun h4 H =>
  gXM Rs_l1Cur_next Ns_l1Cur_next func72 H (sT 9 h4<|sN<|sZ))
  (fun h4 H =>
  gXM Rs_l1Cur_next Ns_l1Cur_next func72 H (sF 9 h4<|sN<|p2 ((0 : Int) ≤ 40) (by decide)<|sZ)))
  (fun h1 H =>
  gS (sF 9 h1<|sN<|sN<|sZ) <|
  eIf H (fun h2 H =>
  gXM Rs_l1Cur_next Ns_l1Cur_next func72 H (sT 9 h2<|sN<|sZ))
  (fun h2 H =>
  gXM Rs_l1Cur_next Ns_l1Cur_next func72 H (sF 9 h2<|sN<|p2 ((0 : Int) ≤ 40) (by decide)<|sZ)))
def Rs_l1Cur_pick (r : Int × Gs_l1Cur) : List D := [I r.1]
def Ns_l1Cur_pick (r : Int × Gs_l1Cur) : List Root := [⟨false, true, 3, 1, [gs_l1Cur r.2]⟩]
theorem cs_l1Cur_pick {a0 a1 r} (H : Ds_l1Cur_pick a0 a1 = some r) : Ct X.P X.gl 54 [.ptr 0 3 0 0, I a1] [⟨false, true, 3, 1, [gs_l1Cur a0]⟩] (Rs_l1Cur_pick r) (Ns_l1Cur_pick r) :=
  gF func54 <|
  gS (sZ) <|
  eIf H (fun h1 H =>
  gXM Rs_l1Cur_pick Ns_l1Cur_pick func54 H (sT 1 h1<|sN<|sZ))
  (fun h1 H =>
  eBind H fun r2 hr2 H =>
  gS (sF 1 h1<|sN<|pI (1 : Nat)<|sCk 1 true [0] (cs_l1Cur_next hr2)<|sZ) <|
  eIf H (fun h3 H =>
  eBind H fun r4 hr4 H =>
  eCk H fun h5 H =>
  gXM Rs_l1Cur_pick Ns_l1Cur_pick func54 H (sT 1 h3<|sN<|pI (1 : Nat)<|sCk 3 true [0] (cs_l1Cur_next hr4)<|sN<|p2 (¬ (a1 : Int) = 0) h5<|sZ))
  (fun h3 H =>
  eCk H fun h4 H =>
  gXM Rs_l1Cur_pick Ns_l1Cur_pick func54 H (sF 1 h3<|sN<|p2 (¬ (a1 : Int) = 0) h4<|sZ)))
def Rs_l1Cur_among (r : Int × Gs_l1Cur) : List D := [I r.1]
def Ns_l1Cur_among (r : Int × Gs_l1Cur) : List Root := [⟨false, true, 3, 1, [gs_l1Cur r.2]⟩]
theorem cs_l1Cur_among {a0 a1 r} (H : Ds_l1Cur_among a0 a1 = some r) : Ct X.P X.gl 52 [.ptr 0 3 0 0, sl 1 I a1] [⟨false, true, 3, 1, [gs_l1Cur a0]⟩] (Rs_l1Cur_among r) (Ns_l1Cur_among r) :=
  gF func52 <|
  eBind H fun r1 hr1 H =>
  eL H fun h2 x3 hx3 H =>
  gXM Rs_l1Cur_among Ns_l1Cur_among func52 H (sN<|pI (1 : Nat)<|sCk 4 true [0] (cs_l1Cur_pick hr1)<|sL 6 I h2 hx3<|sZ)
def Rs_l1Cur_lanes (r : Gi_Lanes × Gs_l1Cur) : List D := [.agg [I r.1.Depots, ow 3 gi_Lane r.1.Lanes, ow 1 I r.1.Stores]]
def Ns_l1Cur_lanes (r : Gi_Lanes × Gs_l1Cur) : List Root := [⟨false, true, 3, 1, [gs_l1Cur r.2]⟩]
noncomputable def Ks_l1Cur_lanes : Ss_l1Cur_lanes → List Item
 | .h1 .. => nav 300 3 [] [.code (bdy f77)]
 | .h2 .. => nav 300 6 [true] [.code (bdy f77)]
 | .h3 .. => nav 300 5 [false] [.code (bdy f77)]
 | .h4 .. => nav 300 8 [true, false] [.code (bdy f77)]
 | .h5 .. => nav 300 10 [false, true, true] [.code (bdy f77)]
 | .h6 .. => nav 300 13 [true, false, true, true] [.code (bdy f77)]
def Zs_l1Cur_lanes : Ss_l1Cur_lanes → St
 | .h1 k0 b1 b2 b3 => ⟨sts 54 [(0, .ptr 0 3 0 0), (2, .ptr 1 3 0 0), (3, .ptr 2 3 0 0), (4, I k0)], [some ⟨false, true, 3, 1, [gs_l1Cur b1]⟩, some ⟨false, true, 3, 1, [.agg [I b2, .nil, .nil]]⟩, some ⟨false, true, 3, 1, [.agg [I b3, .nil, .nil]]⟩]⟩
 | .h2 k0 b1 b2 b3 l4 => ⟨sts 54 [(0, .ptr 0 3 0 0), (2, .ptr 1 3 0 0), (3, .ptr 2 3 0 0), (4, I k0)], [some ⟨false, true, 3, 1, [gs_l1Cur b1]⟩, some ⟨false, true, 3, 1, [.agg [I b2, .nil, .nil]]⟩, some ⟨false, true, 3, 1, [.agg [I b3, .nil, .ref 3 1 none]]⟩, some ⟨false, false, 1, l4.length, List.map I l4⟩]⟩
 | .h3 k0 b1 b2 b3 => ⟨sts 54 [(0, .ptr 0 3 0 0), (2, .ptr 1 3 0 0), (3, .ptr 2 3 0 0), (5, I k0)], [some ⟨false, true, 3, 1, [gs_l1Cur b1]⟩, some ⟨false, true, 3, 1, [.agg [I b2, .nil, .nil]]⟩, some ⟨false, true, 3, 1, [.agg [I b3, .nil, .nil]]⟩]⟩
 | .h4 k0 b1 b2 b3 l4 => ⟨sts 54 [(0, .ptr 0 3 0 0), (2, .ptr 1 3 0 0), (3, .ptr 2 3 0 0), (5, I k0)], [some ⟨false, true, 3, 1, [gs_l1Cur b1]⟩, some ⟨false, true, 3, 1, [.agg [I b2, .nil, .nil]]⟩, some ⟨false, true, 3, 1, [.agg [I b3, .nil, .ref 3 1 none]]⟩, some ⟨false, false, 1, l4.length, List.map I l4⟩]⟩
 | .h5 k0 b1 b2 b3 l4 => ⟨sts 54 [(0, .ptr 0 3 0 0), (2, .ptr 1 3 0 0), (3, .ptr 2 3 0 0), (5, I k0)], [some ⟨false, true, 3, 1, [gs_l1Cur b1]⟩, some ⟨false, true, 3, 1, [.agg [I b2, .nil, .nil]]⟩, some ⟨false, true, 3, 1, [.agg [I b3, .ref 3 3 none, .nil]]⟩, some ⟨false, false, 3, l4.length, List.map gi_Lane l4⟩]⟩
 | .h6 k0 b1 b2 b3 l4 l5 => ⟨sts 54 [(0, .ptr 0 3 0 0), (2, .ptr 1 3 0 0), (3, .ptr 2 3 0 0), (5, I k0)], [some ⟨false, true, 3, 1, [gs_l1Cur b1]⟩, some ⟨false, true, 3, 1, [.agg [I b2, .nil, .nil]]⟩, some ⟨false, true, 3, 1, [.agg [I b3, .ref 3 3 none, .ref 4 1 none]]⟩, some ⟨false, false, 3, l4.length, List.map gi_Lane l4⟩, some ⟨false, false, 1, l5.length, List.map I l5⟩]⟩
theorem ns_l1Cur_lanes : NxA 77 1 Bs_l1Cur_lanes Ks_l1Cur_lanes Zs_l1Cur_lanes Rs_l1Cur_lanes Ns_l1Cur_lanes
 | .h1 k0 b1 b2 b3, o, H =>
  eIf H (fun h1 H =>
  eBind H fun r2 hr2 H =>
  eCk H fun h3 H =>
  eN H fun r hn => gO (sT 3 h1<|sN<|pI (1 : Nat)<|p1 (cs_l1Cur_among hr2)<|sH ({ i := 4, frz := [3], call := some { cl := true, auto := true, ins := [0], res := (Rs_l1Cur_among r2), G' := (Ns_l1Cur_among r2) } })<|sA0 6 I [r2.1] h3<|sN<|sN<|sK [0, 1, 2, 5] [0, 2, 3, 4]) hn)
  (fun h1 H =>
  eBind H fun r2 hr2 H =>
  eN H fun r hn => gO (sF 3 h1<|sN<|pI (1 : Nat)<|sCk 1 true [0] (cs_l1Cur_pick hr2)<|sN<|sK [0, 1, 2] [0, 2, 3, 5]) hn)
 | .h2 k0 b1 b2 b3 l4, o, H =>
  eIf H (fun h1 H =>
  eBind H fun r2 hr2 H =>
  eCk H fun h3 H =>
  eN H fun r hn => gO (sT 3 h1<|sN<|pI (1 : Nat)<|p1 (cs_l1Cur_among hr2)<|sH ({ i := 4, frz := [4], call := some { cl := true, auto := true, ins := [0], res := (Rs_l1Cur_among r2), G' := (Ns_l1Cur_among r2) } })<|sA 6 I l4 [r2.1] h3<|sN<|sN<|sK [0, 1, 2, 6] [0, 2, 3, 4]) hn)
  (fun h1 H =>
  eBind H fun r2 hr2 H =>
  eN H fun r hn => gO (sF 3 h1<|sN<|pI (1 : Nat)<|sCk 1 true [0] (cs_l1Cur_pick hr2)<|sN<|sK [0, 1, 2, 3] [0, 2, 3, 5]) hn)
 | .h3 k0 b1 b2 b3, o, H =>
  eIf H (fun h1 H =>
  eBind H fun r2 hr2 H =>
  eBind H fun r3 hr3 H =>
  eBind H fun r4 hr4 H =>
  gN (sT 1 h1<|sN<|pI (1 : Nat)<|sCk 3 true [0] (cs_l1Cur_pick hr2)<|pI (1 : Nat)<|sCk 7 true [0] (cs_l1Cur_pick hr3)<|pI (1 : Nat)<|sCk 9 true [0] (cs_l1Cur_pick hr4)<|sZ) <|
  eIf H (fun h5 H =>
  eN H fun r hn => gO (sNf 4 h5<|sN<|sN<|sK [0, 1, 2] [0, 2, 3, 5]) hn)
  (fun h5 H =>
  eCk H fun h6 H =>
  eN H fun r hn => gO (sNt 4 h5<|sN<|sA0 4 gi_Lane [(Gi_Lane.mk r2.1 r3.1 r4.1)] h6<|sN<|sN<|sK [0, 1, 2, 5] [0, 2, 3, 5]) hn))
  (fun h1 H =>
  gY func77 H (sF 1 h1<|sN<|sZ))
 | .h4 k0 b1 b2 b3 l4, o, H =>
  eIf H (fun h1 H =>
  eBind H fun r2 hr2 H =>
  eBind H fun r3 hr3 H =>
  eBind H fun r4 hr4 H =>
  gN (sT 1 h1<|sN<|pI (1 : Nat)<|sCk 3 true [0] (cs_l1Cur_pick hr2)<|pI (1 : Nat)<|sCk 7 true [0] (cs_l1Cur_pick hr3)<|pI (1 : Nat)<|sCk 9 true [0] (cs_l1Cur_pick hr4)<|sZ) <|
  eIf H (fun h5 H =>
  eN H fun r hn => gO (sNf 4 h5<|sN<|sN<|sK [0, 1, 2, 3] [0, 2, 3, 5]) hn)
  (fun h5 H =>
  eCk H fun h6 H =>
  eN H fun r hn => gO (sNt 4 h5<|sN<|sA0 4 gi_Lane [(Gi_Lane.mk r2.1 r3.1 r4.1)] h6<|sN<|sN<|sK [0, 1, 2, 6, 3] [0, 2, 3, 5]) hn))
  (fun h1 H =>
  gY func77 H (sF 1 h1<|sN<|sZ))
 | .h5 k0 b1 b2 b3 l4, o, H =>
  eIf H (fun h1 H =>
  eBind H fun r2 hr2 H =>
  eBind H fun r3 hr3 H =>
  eBind H fun r4 hr4 H =>
  gN (sT 1 h1<|sN<|pI (1 : Nat)<|sCk 3 true [0] (cs_l1Cur_pick hr2)<|pI (1 : Nat)<|sCk 7 true [0] (cs_l1Cur_pick hr3)<|pI (1 : Nat)<|sCk 9 true [0] (cs_l1Cur_pick hr4)<|sZ) <|
  eIf H (fun h5 H =>
  eN H fun r hn => gO (sNf 4 h5<|sN<|sN<|sK [0, 1, 2, 3] [0, 2, 3, 5]) hn)
  (fun h5 H =>
  eCk H fun h6 H =>
  eN H fun r hn => gO (sNt 4 h5<|sN<|sA 4 gi_Lane l4 [(Gi_Lane.mk r2.1 r3.1 r4.1)] h6<|sN<|sN<|sK [0, 1, 2, 6] [0, 2, 3, 5]) hn))
  (fun h1 H =>
  gY func77 H (sF 1 h1<|sN<|sZ))
 | .h6 k0 b1 b2 b3 l4 l5, o, H =>
  eIf H (fun h1 H =>
  eBind H fun r2 hr2 H =>
  eBind H fun r3 hr3 H =>
  eBind H fun r4 hr4 H =>
  gN (sT 1 h1<|sN<|pI (1 : Nat)<|sCk 3 true [0] (cs_l1Cur_pick hr2)<|pI (1 : Nat)<|sCk 7 true [0] (cs_l1Cur_pick hr3)<|pI (1 : Nat)<|sCk 9 true [0] (cs_l1Cur_pick hr4)<|sZ) <|
  eIf H (fun h5 H =>
  eN H fun r hn => gO (sNf 4 h5<|sN<|sN<|sK [0, 1, 2, 3, 4] [0, 2, 3, 5]) hn)
  (fun h5 H =>
  eCk H fun h6 H =>
  eN H fun r hn => gO (sNt 4 h5<|sN<|sA 4 gi_Lane l4 [(Gi_Lane.mk r2.1 r3.1 r4.1)] h6<|sN<|sN<|sK [0, 1, 2, 7, 4] [0, 2, 3, 5]) hn))
  (fun h1 H =>
  gY func77 H (sF 1 h1<|sN<|sZ))
theorem cs_l1Cur_lanes {a0 r} (H : Ds_l1Cur_lanes a0 = some r) : Ct X.P X.gl 77 [.ptr 0 3 0 0] [⟨false, true, 3, 1, [gs_l1Cur a0]⟩] (Rs_l1Cur_lanes r) (Ns_l1Cur_lanes r) :=
  gF func77 <|
  eBind H fun r1 hr1 H =>
  gO (sN<|pI (1 : Nat)<|sCk 1 true [0] (cs_l1Cur_pick hr1)<|sN<|sN<|sK [0, 1, 2] [0, 2, 3, 4]) (gW ns_l1Cur_lanes H)
def Rs_l1Cur_anyLanes (r : Gi_Lanes × Gs_l1Cur) : List D := [.agg [I r.1.Depots, ow 3 gi_Lane r.1.Lanes, ow 1 I r.1.Stores]]
def Ns_l1Cur_anyLanes (r : Gi_Lanes × Gs_l1Cur) : List Root := [⟨false, true, 3, 1, [gs_l1Cur r.2]⟩]
noncomputable def Ks_l1Cur_anyLanes : Ss_l1Cur_anyLanes → List Item
 | .h1 .. => nav 300 8 [false, false, false, true] [.code (bdy f59)]
def Zs_l1Cur_anyLanes : Ss_l1Cur_anyLanes → St
 | .h1 n0 b1 b2 b3 l4 l5 => ⟨sts 62 [(2, .ptr 1 3 0 0), (3, .ptr 2 3 0 0), (4, I n0)], [some ⟨false, true, 3, 1, [gs_l1Cur b1]⟩, some ⟨false, true, 3, 1, [.agg [I b2, .nil, .nil]]⟩, some ⟨false, true, 3, 1, [.agg [I b3, .ref 3 3 none, .ref 4 1 none]]⟩, some ⟨false, false, 3, l4.length, List.map gi_Lane l4⟩, some ⟨false, false, 1, l5.length, List.map I l5⟩]⟩
theorem ns_l1Cur_anyLanes : NxA 59 1 Bs_l1Cur_anyLanes Ks_l1Cur_anyLanes Zs_l1Cur_anyLanes Rs_l1Cur_anyLanes Ns_l1Cur_anyLanes
 | .h1 n0 b1 b2 b3 l4 l5, o, H =>
  eIf H (fun h1 H =>
  eCk H fun h2 H =>
  eN H fun r hn => gO (sT 4 h1<|sN<|sA 4 gi_Lane l4 [(Gi_Lane.mk 0 1 1)] h2<|sN<|sK [0, 1, 2, 6, 4] [2, 3, 4]) hn)
  (fun h1 H =>
  gY func59 H (sF 4 h1<|sN<|sZ))
theorem cs_l1Cur_anyLanes {a0 r} (H : Ds_l1Cur_anyLanes a0 = some r) : Ct X.P X.gl 59 [.ptr 0 3 0 0] [⟨false, true, 3, 1, [gs_l1Cur a0]⟩] (Rs_l1Cur_anyLanes r) (Ns_l1Cur_anyLanes r) :=
  gF func59 <|
  eBind H fun r1 hr1 H =>
  eBind H fun r2 hr2 H =>
  gS (sN<|pI (1 : Nat)<|sCk 1 true [0] (cs_l1Cur_lanes hr1)<|sN<|pI (1 : Nat)<|sCk 1 true [0] (cs_l1Cur_pick hr2)<|sZ) <|
  eIf H (fun h3 H =>
  eBind H fun r4 hr4 H =>
  gXM Rs_l1Cur_anyLanes Ns_l1Cur_anyLanes func59 H (sEt 0 h3<|sN<|pI (1 : Nat)<|p1 (cs_l1Cur_among hr4)<|sH ({ i := 2, frz := [6], call := some { cl := true, auto := true, ins := [0], res := (Rs_l1Cur_among r4), G' := (Ns_l1Cur_among r4) } })<|sN<|sZ))
  (fun h3 H =>
  gS (sEf 0 h3<|sZ) <|
  eIf H (fun h4 H =>
  eBind H fun r5 hr5 H =>
  eCk H fun h6 H =>
  gXM Rs_l1Cur_anyLanes Ns_l1Cur_anyLanes func59 H (sEt 0 h4<|sN<|pI (1 : Nat)<|p1 (cs_l1Cur_among hr5)<|sH ({ i := 4, frz := [6], call := some { cl := true, auto := true, ins := [0], res := (Rs_l1Cur_among r5), G' := (Ns_l1Cur_among r5) } })<|sA 7 gi_Lane r1.1.Lanes [(Gi_Lane.mk 0 r5.1 1)] h6<|sN<|sZ))
  (fun h4 H =>
  gS (sEf 0 h4<|sZ) <|
  eIf H (fun h5 H =>
  eBind H fun r6 hr6 H =>
  eBind H fun x7 hx7 H =>
  gXM Rs_l1Cur_anyLanes Ns_l1Cur_anyLanes func59 H (sEt 0 h5<|sN<|pI (1 : Nat)<|p1 (cs_l1Cur_among hr6)<|sH ({ i := 4, frz := [6], call := some { cl := true, auto := true, ins := [0], res := (Rs_l1Cur_among r6), G' := (Ns_l1Cur_among r6) } })<|sB (by decide : (0 : Int) ≤ 0) hx7<|sW 6 I 0 [I r6.1] r6.1 hx7<|sN<|sZ))
  (fun h5 H =>
  gS (sEf 0 h5<|sZ) <|
  eIf H (fun h6 H =>
  eBind H fun r7 hr7 H =>
  gO (sEt 0 h6<|sN<|pI (1 : Nat)<|sCk 1 true [0] (cs_l1Cur_pick hr7)<|sN<|sK [0, 1, 5, 3, 4] [2, 3, 4]) (gW ns_l1Cur_anyLanes H))
  (fun h6 H =>
  gS (sEf 0 h6<|sZ) <|
  eIf H (fun h7 H =>
  eBind H fun r8 hr8 H =>
  eCk H fun h9 H =>
  gXM Rs_l1Cur_anyLanes Ns_l1Cur_anyLanes func59 H (sEt 0 h7<|sN<|pI (1 : Nat)<|p1 (cs_l1Cur_among hr8)<|sH ({ i := 4, frz := [6], call := some { cl := true, auto := true, ins := [0], res := (Rs_l1Cur_among r8), G' := (Ns_l1Cur_among r8) } })<|sA 7 gi_Lane r1.1.Lanes [(Gi_Lane.mk 0 1 r8.1)] h9<|sN<|sZ))
  (fun h7 H =>
  gXM Rs_l1Cur_anyLanes Ns_l1Cur_anyLanes func59 H (sEf 0 h7<|sN<|sZ))))))
theorem cs_l1Most {a0 a1 r} (H : Ds_l1Most a0 a1 = some r) : Cc 71 [I a0, I a1] (RI r) :=
  gF func71 <|
  gS (sZ) <|
  eIf H (fun h1 H =>
  gX RI func71 H (sT 2 h1<|sN<|sZ))
  (fun h1 H =>
  gX RI func71 H (sF 2 h1<|sN<|sZ))
def Rs_l1Cur_one (r : Bool × Gs_l1Cur) : List D := [.bool r.1]
def Ns_l1Cur_one (r : Bool × Gs_l1Cur) : List Root := [⟨false, true, 3, 1, [gs_l1Cur r.2]⟩]
theorem cs_l1Cur_one {a0 a1 r} (H : Ds_l1Cur_one a0 a1 = some r) : Ct X.P X.gl 61 [.ptr 0 3 0 0, I a1] [⟨false, true, 3, 1, [gs_l1Cur a0]⟩] (Rs_l1Cur_one r) (Ns_l1Cur_one r) :=
  gF func61 <|
  eBind H fun r1 hr1 H =>
  gXM Rs_l1Cur_one Ns_l1Cur_one func61 H (sN<|pI (1 : Nat)<|sCk 2 true [0] (cs_l1Cur_pick hr1)<|sZ)
def Rs_l1Cur_trip (r : Gi_Lanes × Int × Int × Int × Gs_l1Cur) : List D := [.agg [I r.1.Depots, ow 3 gi_Lane r.1.Lanes, ow 1 I r.1.Stores], I r.2.1, I r.2.2.1, I r.2.2.2.1]
def Ns_l1Cur_trip (r : Gi_Lanes × Int × Int × Int × Gs_l1Cur) : List Root := [⟨false, true, 3, 1, [gs_l1Cur r.2.2.2.2]⟩]
theorem cs_l1Cur_trip {a0 r} (H : Ds_l1Cur_trip a0 = some r) : Ct X.P X.gl 51 [.ptr 0 3 0 0] [⟨false, true, 3, 1, [gs_l1Cur a0]⟩] (Rs_l1Cur_trip r) (Ns_l1Cur_trip r) :=
  gF func51 <|
  eBind H fun r1 hr1 H =>
  eBind H fun r2 hr2 H =>
  eBind H fun r3 hr3 H =>
  eBind H fun r4 hr4 H =>
  eBind H fun r5 hr5 H =>
  gS (sN<|pI (1 : Nat)<|sCk 1 true [0] (cs_l1Cur_anyLanes hr1)<|sN<|sC 3 (cs_l1Most hr2)<|pI (1 : Nat)<|sCk 4 true [0] (cs_l1Cur_pick hr3)<|sN<|sC 3 (cs_l1Most hr4)<|pI (1 : Nat)<|sCk 4 true [0] (cs_l1Cur_pick hr5)<|sZ) <|
  eIf H (fun h6 H =>
  eBind H fun r7 hr7 H =>
  eIf H (fun h8 H =>
  eBind H fun r9 hr9 H =>
  eBind H fun r10 hr10 H =>
  eBind H fun r11 hr11 H =>
  gXM Rs_l1Cur_trip Ns_l1Cur_trip func51 H (sEt 2 h6<|pI (1 : Nat)<|p1 (cs_l1Cur_one hr7)<|p2 (r7.1 = true) (h8)<|sH ({ i := 5, call := some { cl := true, auto := true, ins := [0], res := (Rs_l1Cur_one r7), G' := (Ns_l1Cur_one r7) }, dec := some true })<|sN<|pI (1 : Nat)<|sCk 4 true [0] (cs_l1Cur_pick hr9)<|pI (1 : Nat)<|sCk 6 true [0] (cs_l1Cur_pick hr10)<|p2 (¬ (29 : Int) = 0) (by decide)<|pI (1 : Nat)<|sCk 11 true [0] (cs_l1Cur_pick hr11)<|p2 (¬ (29 : Int) = 0) (by decide)<|sZ))
  (fun h8 H =>
  eBind H fun r9 hr9 H =>
  eL H fun h10 r11 hr11 H =>
  eBind H fun r12 hr12 H =>
  eBind H fun r13 hr13 H =>
  gXM Rs_l1Cur_trip Ns_l1Cur_trip func51 H (sEt 2 h6<|pI (1 : Nat)<|p1 (cs_l1Cur_one hr7)<|p2 (r7.1 = false) (eqF h8)<|sH ({ i := 5, call := some { cl := true, auto := true, ins := [0], res := (Rs_l1Cur_one r7), G' := (Ns_l1Cur_one r7) }, dec := some false })<|sN<|sC 4 (cs_l1Most hr9)<|p2 (¬ (r9 : Int) = 0) h10<|sN<|pI (1 : Nat)<|sCk 4 true [0] (cs_l1Cur_pick hr11)<|pI (1 : Nat)<|sCk 6 true [0] (cs_l1Cur_pick hr12)<|p2 (¬ (29 : Int) = 0) (by decide)<|pI (1 : Nat)<|sCk 11 true [0] (cs_l1Cur_pick hr13)<|p2 (¬ (29 : Int) = 0) (by decide)<|sZ)))
  (fun h6 H =>
  eBind H fun r7 hr7 H =>
  eBind H fun r8 hr8 H =>
  eBind H fun r9 hr9 H =>
  gXM Rs_l1Cur_trip Ns_l1Cur_trip func51 H (sEf 2 h6<|sN<|pI (1 : Nat)<|sCk 4 true [0] (cs_l1Cur_pick hr7)<|pI (1 : Nat)<|sCk 6 true [0] (cs_l1Cur_pick hr8)<|p2 (¬ (29 : Int) = 0) (by decide)<|pI (1 : Nat)<|sCk 11 true [0] (cs_l1Cur_pick hr9)<|p2 (¬ (29 : Int) = 0) (by decide)<|sZ))
def Rs_DrawGreatestDelivery (r : Gi_Lanes × Int × Int × Int) : List D := [.agg [I r.1.Depots, ow 3 gi_Lane r.1.Lanes, ow 1 I r.1.Stores], I r.2.1, I r.2.2.1, I r.2.2.2]
theorem cs_DrawGreatestDelivery {a0 r} (H : Ds_DrawGreatestDelivery a0 = some r) : Cc 32 [sl 1 (D.int .u8) a0] (Rs_DrawGreatestDelivery r) :=
  gF func32 <|
  eBind H fun r1 hr1 H =>
  gX Rs_DrawGreatestDelivery func32 H (sN<|sN<|pI (1 : Nat)<|sCk 1 true [1] (cs_l1Cur_trip hr1)<|sZ)
def Rs_DrawDeliveryPlan (r : Gi_Lanes × Int × Int × Int) : List D := [.agg [I r.1.Depots, ow 3 gi_Lane r.1.Lanes, ow 1 I r.1.Stores], I r.2.1, I r.2.2.1, I r.2.2.2]
theorem cs_DrawDeliveryPlan {a0 r} (H : Ds_DrawDeliveryPlan a0 = some r) : Cc 6 [sl 1 (D.int .u8) a0] (Rs_DrawDeliveryPlan r) :=
  gF func6 <|
  eBind H fun r1 hr1 H =>
  gX Rs_DrawDeliveryPlan func6 H (sN<|sC 1 (cs_DrawGreatestDelivery hr1)<|sZ)
theorem ci_inRange {a0 a1 a2 r} (H : Di_inRange a0 a1 a2 = some r) : Cc 44 [I a0, I a1, I a2] (RB r) :=
  gF func44 <|
  gS (sZ) <|
  eIf H (fun h1 H =>
  gX RB func44 H (sT 2 h1<|sZ))
  (fun h1 H =>
  gX RB func44 H (sF 2 h1<|sZ))
theorem ci_isIndex {a0 a1 r} (H : Di_isIndex a0 a1 = some r) : Cc 48 [I a0, I a1] (RB r) :=
  gF func48 <|
  eBind H fun r1 hr1 H =>
  gX RB func48 H (sN<|sC 3 (ci_inRange hr1)<|sZ)
theorem ci_IsLanes_1 {a0 r} (H : Di_IsLanes_1 a0 = some r) : Cc 64 [I a0] (RB r) :=
  gF func64 <|
  eBind H fun r1 hr1 H =>
  gX RB func64 H (sN<|sC 1 (ci_inRange hr1)<|sZ)
noncomputable def Kslices_IndexFunc_int_i_IsLanes_1 : Sslices_IndexFunc_int_i_IsLanes_1 → List Item
 | .h1 .. => nav 300 2 [] [.code (bdy f69)]
def Zslices_IndexFunc_int_i_IsLanes_1 : Sslices_IndexFunc_int_i_IsLanes_1 → St
 | .h1 s0 t1 t2 => ⟨sts 19 [(0, sl 1 I s0), (1, .fn 64 []), (7, I t1), (8, I t2)], []⟩
theorem nslices_IndexFunc_int_i_IsLanes_1 : NxA 69 0 Bslices_IndexFunc_int_i_IsLanes_1 Kslices_IndexFunc_int_i_IsLanes_1 Zslices_IndexFunc_int_i_IsLanes_1 RI (fun _ => [])
 | .h1 s0 t1 t2, o, H =>
  eIf H (fun h1 H =>
  eL H fun h2 x3 hx3 H =>
  eBind H fun r4 hr4 H =>
  gN (sT 0 h1<|sN<|sZ) <|
  eIf H (fun h5 H =>
  gY func69 H (sL 4 I h2 hx3<|sCt 5 (ci_IsLanes_1 hr4) h5<|sN<|sZ))
  (fun h5 H =>
  eN H fun r hn => gO (sL 4 I h2 hx3<|sCf 5 (ci_IsLanes_1 hr4) h5<|sN<|sN<|sK [] [0, 1, 7, 8]) hn))
  (fun h1 H =>
  gY func69 H (sF 0 h1<|sN<|sZ))
theorem cslices_IndexFunc_int_i_IsLanes_1 {a0 r} (H : Dslices_IndexFunc_int_i_IsLanes_1 a0 = some r) : Cc 69 [sl 1 I a0, .fn 64 []] (RI r) :=
  gF func69 <|
  gO (sN<|sN<|sK [] [0, 1, 7, 8]) (gW nslices_IndexFunc_int_i_IsLanes_1 H)
theorem cslices_ContainsFunc_int_i_IsLanes_1 {a0 r} (H : Dslices_ContainsFunc_int_i_IsLanes_1 a0 = some r) : Cc 46 [sl 1 I a0, .fn 64 []] (RB r) :=
  gF func46 <|
  eBind H fun r1 hr1 H =>
  gX RB func46 H (sN<|sC 2 (cslices_IndexFunc_int_i_IsLanes_1 hr1)<|sZ)
noncomputable def Ki_IsLanes : Si_IsLanes → List Item
 | .h1 .. => nav 300 3 [false] [.code (bdy f30)]
def Zi_IsLanes : Si_IsLanes → St
 | .h1 t0 t1 t2 b3 => ⟨sts 62 [(1, .ptr 0 3 0 0), (24, sl 3 gi_Lane t0), (25, I t1), (26, I t2)], [some ⟨false, true, 3, 1, [gi_Lanes b3]⟩]⟩
theorem ni_IsLanes : NxA 30 0 Bi_IsLanes Ki_IsLanes Zi_IsLanes RB (fun _ => [])
 | .h1 t0 t1 t2 b3, o, H =>
  eIf H (fun h1 H =>
  eL H fun h2 x3 hx3 H =>
  eBind H fun r4 hr4 H =>
  gN (sT 0 h1<|sN<|sL 1 gi_Lane h2 hx3<|sZ) <|
  eIf H (fun h5 H =>
  eBind H fun r6 hr6 H =>
  let s1 := fun s => sCt 4 (ci_isIndex hr4) h5<|s
  eIf H (fun h7 H =>
  let s2 := fun s => s1<|sCt 11 (ci_isIndex hr6) h7<|s
  eIf H (fun h8 H =>
  gY func30 H (s2<|sEt 19 h8<|sN<|sZ))
  (fun h8 H =>
  eBind H fun r9 hr9 H =>
  eIf H (fun h10 H =>
  eN H fun r hn => gO (s2<|sEf 19 h8<|sCt 24 (ci_inRange hr9) h10<|sN<|sN<|sK [0] [1, 24, 25, 26]) hn)
  (fun h10 H =>
  gY func30 H (s2<|sEf 19 h8<|sCf 24 (ci_inRange hr9) h10<|sN<|sZ))))
  (fun h7 H =>
  gY func30 H (s1<|sCf 11 (ci_isIndex hr6) h7<|sN<|sZ)))
  (fun h5 H =>
  gY func30 H (sCf 4 (ci_isIndex hr4) h5<|sN<|sZ)))
  (fun h1 H =>
  eBind H fun r2 hr2 H =>
  gY func30 H (sF 0 h1<|sN<|sC 2 (cslices_ContainsFunc_int_i_IsLanes_1 hr2)<|sZ))
theorem ci_IsLanes {a0 r} (H : Di_IsLanes a0 = some r) : Cc 30 [gi_Lanes a0] (RB r) :=
  gF func30 <|
  eBind H fun r1 hr1 H =>
  gS (sZ) <|
  eIf H (fun h2 H =>
  let s3 := fun s => sCt 2 (ci_inRange hr1) h2<|s
  eIf H (fun h3 H =>
  gX RB func30 H (s3<|sT 8 h3<|sN<|sZ))
  (fun h3 H =>
  eIf H (fun h4 H =>
  gO (s3<|sF 8 h3<|sNf 16 h4<|sN<|sN<|sK [0] [1, 24, 25, 26]) (gW ni_IsLanes H))
  (fun h4 H =>
  gX RB func30 H (s3<|sF 8 h3<|sNt 16 h4<|sN<|sZ))))
  (fun h2 H =>
  gX RB func30 H (sCf 2 (ci_inRange hr1) h2<|sN<|sZ))
theorem ci_isTransport {a0 a1 a2 a3 r} (H : Di_isTransport a0 a1 a2 a3 = some r) : Cc 33 [gi_Lanes a0, I a1, I a2, I a3] (RB r) :=
  gF func33 <|
  eBind H fun r1 hr1 H =>
  gS (sZ) <|
  eIf H (fun h2 H =>
  eBind H fun r3 hr3 H =>
  let s1 := fun s => sCt 1 (ci_IsLanes hr1) h2<|s
  eIf H (fun h4 H =>
  eBind H fun r5 hr5 H =>
  let s2 := fun s => s1<|sCt 6 (ci_isIndex hr3) h4<|s
  eIf H (fun h6 H =>
  eIf H (fun h7 H =>
  gX RB func33 H (s2<|sCt 12 (ci_isIndex hr5) h6<|sNf 17 h7<|sZ))
  (fun h7 H =>
  eBind H fun r8 hr8 H =>
  gX RB func33 H (s2<|sCt 12 (ci_isIndex hr5) h6<|sNt 17 h7<|sC 21 (ci_inRange hr8)<|sZ)))
  (fun h6 H =>
  gX RB func33 H (s2<|sCf 12 (ci_isIndex hr5) h6<|sZ)))
  (fun h4 H =>
  gX RB func33 H (s1<|sCf 6 (ci_isIndex hr3) h4<|sZ)))
  (fun h2 H =>
  gX RB func33 H (sCf 1 (ci_IsLanes hr1) h2<|sZ))
def Ri_networkOf (r : Gi_network) : List D := [.optr 2 [goi_network r]]
noncomputable def Ki_networkOf : Si_networkOf → List Item
 | .h1 .. => nav 300 3 [] [.code (bdy f49)]
 | .h2 .. => nav 300 6 [true] [.code (bdy f49)]
 | .h3 .. => nav 300 5 [false] [.code (bdy f49)]
 | .h4 .. => nav 300 10 [true, true] [.code (bdy f49)]
 | .h5 .. => nav 300 8 [true, false] [.code (bdy f49)]
 | .h6 .. => nav 300 8 [false, true] [.code (bdy f49)]
 | .h7 .. => nav 300 14 [false, true, true, true] [.code (bdy f49)]
def Zi_networkOf : Si_networkOf → St
 | .h1 vfrom0 vto1 days2 t3 t4 b5 b6 l7 => ⟨sts 110 [(1, I vfrom0), (2, I vto1), (3, I days2), (4, .ptr 0 3 0 0), (9, .ptr 1 2 0 0), (23, I t3), (24, I t4)], [some ⟨false, true, 3, 1, [gi_Lanes b5]⟩, some ⟨false, true, 2, 1, [.agg [I b6, .ref 2 5 none]]⟩, some ⟨false, false, 5, l7.length, List.map gi_arc l7⟩]⟩
 | .h2 vfrom0 vto1 days2 d3 t4 t5 t6 t7 t8 b9 b10 l11 => ⟨sts 110 [(1, I vfrom0), (2, I vto1), (3, I days2), (4, .ptr 0 3 0 0), (9, .ptr 1 2 0 0), (10, I d3), (23, I t4), (24, I t5), (28, sl 3 gi_Lane t6), (29, I t7), (30, I t8)], [some ⟨false, true, 3, 1, [gi_Lanes b9]⟩, some ⟨false, true, 2, 1, [.agg [I b10, .ref 2 5 none]]⟩, some ⟨false, false, 5, l11.length, List.map gi_arc l11⟩]⟩
 | .h3 vfrom0 vto1 t2 t3 b4 b5 l6 => ⟨sts 110 [(1, I vfrom0), (2, I vto1), (4, .ptr 0 3 0 0), (9, .ptr 1 2 0 0), (63, I t2), (64, I t3)], [some ⟨false, true, 3, 1, [gi_Lanes b4]⟩, some ⟨false, true, 2, 1, [.agg [I b5, .ref 2 5 none]]⟩, some ⟨false, false, 5, l6.length, List.map gi_arc l6⟩]⟩
 | .h4 vfrom0 vto1 days2 d3 t4 t5 t6 t7 t8 b9 b10 l11 => ⟨sts 110 [(1, I vfrom0), (2, I vto1), (3, I days2), (4, .ptr 0 3 0 0), (9, .ptr 1 2 0 0), (10, I d3), (23, I t4), (24, I t5), (28, sl 3 gi_Lane t6), (29, I t7), (30, I t8)], [some ⟨false, true, 3, 1, [gi_Lanes b9]⟩, some ⟨false, true, 2, 1, [.agg [I b10, .ref 2 5 none]]⟩, some ⟨false, false, 5, l11.length, List.map gi_arc l11⟩]⟩
 | .h5 vfrom0 vto1 days2 t3 t4 b5 b6 l7 => ⟨sts 110 [(1, I vfrom0), (2, I vto1), (3, I days2), (4, .ptr 0 3 0 0), (9, .ptr 1 2 0 0), (23, I t3), (24, I t4)], [some ⟨false, true, 3, 1, [gi_Lanes b5]⟩, some ⟨false, true, 2, 1, [.agg [I b6, .ref 2 5 none]]⟩, some ⟨false, false, 5, l7.length, List.map gi_arc l7⟩]⟩
 | .h6 vfrom0 vto1 d2 t3 t4 t5 t6 t7 b8 b9 l10 => ⟨sts 110 [(1, I vfrom0), (2, I vto1), (4, .ptr 0 3 0 0), (9, .ptr 1 2 0 0), (13, I d2), (63, I t3), (64, I t4), (68, sl 1 I t5), (69, I t6), (70, I t7)], [some ⟨false, true, 3, 1, [gi_Lanes b8]⟩, some ⟨false, true, 2, 1, [.agg [I b9, .ref 2 5 none]]⟩, some ⟨false, false, 5, l10.length, List.map gi_arc l10⟩]⟩
 | .h7 vfrom0 vto1 d2 t3 t4 t5 t6 t7 b8 b9 l10 => ⟨sts 110 [(1, I vfrom0), (2, I vto1), (4, .ptr 0 3 0 0), (9, .ptr 1 2 0 0), (13, I d2), (63, I t3), (64, I t4), (68, sl 1 I t5), (69, I t6), (70, I t7)], [some ⟨false, true, 3, 1, [gi_Lanes b8]⟩, some ⟨false, true, 2, 1, [.agg [I b9, .ref 2 5 none]]⟩, some ⟨false, false, 5, l10.length, List.map gi_arc l10⟩]⟩
theorem ni_networkOf : NxA 49 0 Bi_networkOf Ki_networkOf Zi_networkOf Ri_networkOf (fun _ => [])
 | .h1 vfrom0 vto1 days2 t3 t4 b5 b6 l7, o, H =>
  eIf H (fun h1 H =>
  eN H fun r hn => gO (sT 0 h1<|sN<|sN<|sN<|sK [0, 1, 2] [1, 2, 3, 4, 9, 10, 23, 24, 28, 29, 30]) hn)
  (fun h1 H =>
  eN H fun r hn => gO (sF 0 h1<|sN<|sN<|sK [0, 1, 2] [1, 2, 4, 9, 63, 64]) hn)
 | .h2 vfrom0 vto1 days2 d3 t4 t5 t6 t7 t8 b9 b10 l11, o, H =>
  eIf H (fun h1 H =>
  eL H fun h2 x3 hx3 H =>
  eCk H fun h4 H =>
  eN H fun r hn => gO (sT 0 h1<|sN<|sL 1 gi_Lane h2 hx3<|sN<|sA 24 gi_arc l11 [(Gi_arc.mk (IntKind.wrap .i64 ((IntKind.wrap .i64 (d3 * b9.Depots)) + x3.From)) (IntKind.wrap .i64 ((IntKind.wrap .i64 ((IntKind.wrap .i64 (d3 + 1)) * b9.Depots)) + x3.To)) x3.Load 0 false)] h4<|sN<|sN<|sK [0, 1, 5] [1, 2, 3, 4, 9, 10, 23, 24, 28, 29, 30]) hn)
  (fun h1 H =>
  eN H fun r hn => gO (sF 0 h1<|sN<|sN<|sK [0, 1, 2] [1, 2, 3, 4, 9, 23, 24]) hn)
 | .h3 vfrom0 vto1 t2 t3 b4 b5 l6, o, H =>
  eIf H (fun h1 H =>
  eN H fun r hn => gO (sT 0 h1<|sN<|sN<|sN<|sK [0, 1, 2] [1, 2, 4, 9, 13, 63, 64, 68, 69, 70]) hn)
  (fun h1 H =>
  gY func49 H (sF 0 h1<|sN<|sN<|p2 (getCells [.agg [I b5, .ref 2 5 none]] 0 1 1 = some [.ref 2 5 none]) rfl<|p2 (setCells [.agg [I b5, .ref 2 5 none]] 0 1 [ow 5 gi_arc l6] = [.agg [I b5, ow 5 gi_arc l6]]) rfl<|sM (.bm (.put 1 0 1 2 [.agg [I b5, ow 5 gi_arc l6]]))<|sO))
 | .h4 vfrom0 vto1 days2 d3 t4 t5 t6 t7 t8 b9 b10 l11, o, H =>
  eIf H (fun h1 H =>
  eL H fun h2 x3 hx3 H =>
  eCk H fun h4 H =>
  eN H fun r hn => gO (sT 0 h1<|sN<|sL 1 gi_Lane h2 hx3<|sN<|sA 24 gi_arc l11 [(Gi_arc.mk (IntKind.wrap .i64 ((IntKind.wrap .i64 (d3 * b9.Depots)) + x3.From)) (IntKind.wrap .i64 ((IntKind.wrap .i64 ((IntKind.wrap .i64 (d3 + 1)) * b9.Depots)) + x3.To)) x3.Load 0 false)] h4<|sN<|sN<|sK [0, 1, 5] [1, 2, 3, 4, 9, 10, 23, 24, 28, 29, 30]) hn)
  (fun h1 H =>
  eN H fun r hn => gO (sF 0 h1<|sN<|sN<|sK [0, 1, 2] [1, 2, 3, 4, 9, 23, 24]) hn)
 | .h5 vfrom0 vto1 days2 t3 t4 b5 b6 l7, o, H =>
  eIf H (fun h1 H =>
  eN H fun r hn => gO (sT 0 h1<|sN<|sN<|sN<|sK [0, 1, 2] [1, 2, 3, 4, 9, 10, 23, 24, 28, 29, 30]) hn)
  (fun h1 H =>
  eN H fun r hn => gO (sF 0 h1<|sN<|sN<|sK [0, 1, 2] [1, 2, 4, 9, 63, 64]) hn)
 | .h6 vfrom0 vto1 d2 t3 t4 t5 t6 t7 b8 b9 l10, o, H =>
  eIf H (fun h1 H =>
  eL H fun h2 x3 hx3 H =>
  gN (sT 0 h1<|sN<|sL 2 I h2 hx3<|sZ) <|
  eIf H (fun h4 H =>
  eCk H fun h5 H =>
  eN H fun r hn => gO (sEt 2 h4<|sN<|sN<|sA 21 gi_arc l10 [(Gi_arc.mk (IntKind.wrap .i64 ((IntKind.wrap .i64 (d2 * b8.Depots)) + t7)) (IntKind.wrap .i64 ((IntKind.wrap .i64 ((IntKind.wrap .i64 (d2 + 1)) * b8.Depots)) + t7)) 1000000000 0 false)] h5<|sN<|sN<|sK [0, 1, 4] [1, 2, 4, 9, 13, 63, 64, 68, 69, 70]) hn)
  (fun h4 H =>
  eIf H (fun h5 H =>
  eCk H fun h6 H =>
  eN H fun r hn => gO (sEf 2 h4<|sEt 6 h5<|sN<|sN<|sA 21 gi_arc l10 [(Gi_arc.mk (IntKind.wrap .i64 ((IntKind.wrap .i64 (d2 * b8.Depots)) + t7)) (IntKind.wrap .i64 ((IntKind.wrap .i64 ((IntKind.wrap .i64 (d2 + 1)) * b8.Depots)) + t7)) 1000000000 0 false)] h6<|sN<|sN<|sK [0, 1, 4] [1, 2, 4, 9, 13, 63, 64, 68, 69, 70]) hn)
  (fun h5 H =>
  eCk H fun h6 H =>
  eN H fun r hn => gO (sEf 2 h4<|sEf 6 h5<|sN<|sA 21 gi_arc l10 [(Gi_arc.mk (IntKind.wrap .i64 ((IntKind.wrap .i64 (d2 * b8.Depots)) + t7)) (IntKind.wrap .i64 ((IntKind.wrap .i64 ((IntKind.wrap .i64 (d2 + 1)) * b8.Depots)) + t7)) x3 0 false)] h6<|sN<|sN<|sK [0, 1, 4] [1, 2, 4, 9, 13, 63, 64, 68, 69, 70]) hn)))
  (fun h1 H =>
  eN H fun r hn => gO (sF 0 h1<|sN<|sN<|sK [0, 1, 2] [1, 2, 4, 9, 63, 64]) hn)
 | .h7 vfrom0 vto1 d2 t3 t4 t5 t6 t7 b8 b9 l10, o, H =>
  eIf H (fun h1 H =>
  eL H fun h2 x3 hx3 H =>
  gN (sT 0 h1<|sN<|sL 2 I h2 hx3<|sZ) <|
  eIf H (fun h4 H =>
  eCk H fun h5 H =>
  eN H fun r hn => gO (sEt 2 h4<|sN<|sN<|sA 21 gi_arc l10 [(Gi_arc.mk (IntKind.wrap .i64 ((IntKind.wrap .i64 (d2 * b8.Depots)) + t7)) (IntKind.wrap .i64 ((IntKind.wrap .i64 ((IntKind.wrap .i64 (d2 + 1)) * b8.Depots)) + t7)) 1000000000 0 false)] h5<|sN<|sN<|sK [0, 1, 4] [1, 2, 4, 9, 13, 63, 64, 68, 69, 70]) hn)
  (fun h4 H =>
  eIf H (fun h5 H =>
  eCk H fun h6 H =>
  eN H fun r hn => gO (sEf 2 h4<|sEt 6 h5<|sN<|sN<|sA 21 gi_arc l10 [(Gi_arc.mk (IntKind.wrap .i64 ((IntKind.wrap .i64 (d2 * b8.Depots)) + t7)) (IntKind.wrap .i64 ((IntKind.wrap .i64 ((IntKind.wrap .i64 (d2 + 1)) * b8.Depots)) + t7)) 1000000000 0 false)] h6<|sN<|sN<|sK [0, 1, 4] [1, 2, 4, 9, 13, 63, 64, 68, 69, 70]) hn)
  (fun h5 H =>
  eCk H fun h6 H =>
  eN H fun r hn => gO (sEf 2 h4<|sEf 6 h5<|sN<|sA 21 gi_arc l10 [(Gi_arc.mk (IntKind.wrap .i64 ((IntKind.wrap .i64 (d2 * b8.Depots)) + t7)) (IntKind.wrap .i64 ((IntKind.wrap .i64 ((IntKind.wrap .i64 (d2 + 1)) * b8.Depots)) + t7)) x3 0 false)] h6<|sN<|sN<|sK [0, 1, 4] [1, 2, 4, 9, 13, 63, 64, 68, 69, 70]) hn)))
  (fun h1 H =>
  eN H fun r hn => gO (sF 0 h1<|sN<|sN<|sK [0, 1, 2] [1, 2, 4, 9, 63, 64]) hn)
theorem ci_networkOf {a0 a1 a2 a3 r} (H : Di_networkOf a0 a1 a2 a3 = some r) : Cc 49 [gi_Lanes a0, I a1, I a2, I a3] (Ri_networkOf r) :=
  gF func49 <|
  gO (sN<|sN<|sN<|p2 (getCells [.agg [I (IntKind.wrap .i64 ((IntKind.wrap .i64 (a3 + 1)) * a0.Depots)), .nil]] 0 1 1 = some [.nil]) rfl<|p2 (setCells [.agg [I (IntKind.wrap .i64 ((IntKind.wrap .i64 (a3 + 1)) * a0.Depots)), .nil]] 0 1 [.list true 5 0 []] = [.agg [I (IntKind.wrap .i64 ((IntKind.wrap .i64 (a3 + 1)) * a0.Depots)), .list true 5 0 []]]) rfl<|sM (.bm (.nil 1 0 1 5 [.agg [I (IntKind.wrap .i64 ((IntKind.wrap .i64 (a3 + 1)) * a0.Depots)), .list true 5 0 []]]))<|p2 (getCells [.agg [I (IntKind.wrap .i64 ((IntKind.wrap .i64 (a3 + 1)) * a0.Depots)), .list true 5 0 []]] 0 1 1 = some [.list true 5 0 []]) rfl<|p2 (setCells [.agg [I (IntKind.wrap .i64 ((IntKind.wrap .i64 (a3 + 1)) * a0.Depots)), .list true 5 0 []]] 0 1 [.ref 2 5 none] = [.agg [I (IntKind.wrap .i64 ((IntKind.wrap .i64 (a3 + 1)) * a0.Depots)), .ref 2 5 none]]) rfl<|sM (.bm (.take 1 0 1 5 0 [] [.agg [I (IntKind.wrap .i64 ((IntKind.wrap .i64 (a3 + 1)) * a0.Depots)), .ref 2 5 none]]))<|sK [0, 1, 2] [1, 2, 3, 4, 9, 23, 24]) (gW ni_networkOf H)
def Ri_network_search (r : (List Gi_visit)) : List D := [ow 3 gi_visit r]
noncomputable def Ki_network_search : Si_network_search → List Item
 | .h1 .. => nav 300 4 [] [.code (bdy f40)]
 | .h2 .. => nav 300 6 [true] [.code (bdy f40)]
def Zi_network_search : Si_network_search → St
 | .h1 n0 vat1 l2 l3 => ⟨sts 107 [(0, .fptr 2 [.agg [I n0.places, sl 5 gi_arc n0.arcs]] 0 0), (5, .ref 0 3 none), (6, .ref 1 1 none), (7, I vat1)], [some ⟨false, false, 3, l2.length, List.map gi_visit l2⟩, some ⟨false, false, 1, l3.length, List.map I l3⟩]⟩
 | .h2 n0 vat1 t2 t3 t4 l5 l6 => ⟨sts 107 [(0, .fptr 2 [.agg [I n0.places, sl 5 gi_arc n0.arcs]] 0 0), (5, .ref 0 3 none), (6, .ref 1 1 none), (7, I vat1), (30, sl 5 gi_arc t2), (31, I t3), (32, I t4)], [some ⟨false, false, 3, l5.length, List.map gi_visit l5⟩, some ⟨false, false, 1, l6.length, List.map I l6⟩]⟩
theorem ni_network_search : NxA 40 0 Bi_network_search Ki_network_search Zi_network_search Ri_network_search (fun _ => [])
 | .h1 n0 vat1 l2 l3, o, H =>
  eIf H (fun h1 H =>
  eN H fun r hn => gO (sT 3 h1<|sN<|sN<|sK [0, 1] [0, 5, 6, 7, 30, 31, 32]) hn)
  (fun h1 H =>
  gY func40 H (sF 3 h1<|sN<|sZ))
 | .h2 n0 vat1 t2 t3 t4 l5 l6, o, H =>
  eIf H (fun h1 H =>
  eL H fun h2 x3 hx3 H =>
  gN (sT 0 h1<|sN<|sL 2 gi_arc h2 hx3<|sZ) <|
  eIf H (fun h4 H =>
  eN H fun r hn => gO (sBt 1 h4<|sN<|sN<|sK [0, 1] [0, 5, 6, 7, 30, 31, 32]) hn)
  (fun h4 H =>
  eL H fun h5 x6 hx6 H =>
  gN (sBf 1 h4<|sZ) <|
  let s1 := fun s => sL 5 I h5 hx6<|s
  eIf H (fun h7 H =>
  eL H fun h8 x9 hx9 H =>
  let s2 := fun s => s1<|sEt 6 h7<|sB h8 hx9<|s
  eIf H (fun h10 H =>
  eL H fun h11 x12 hx12 H =>
  gN (s2<|p1 (at_map gi_visit hx9)<|p2 (x9.seen = true) (h10)<|sH ({ i := 13, el := some (gi_visit x9), dec := some true })<|sZ) <|
  let s3 := fun s => sL 5 I h11 hx12<|s
  eIf H (fun h13 H =>
  eL H fun h14 x15 hx15 H =>
  eIf H (fun h16 H =>
  eN H fun r hn => gO (s3<|sEt 6 h13<|sB h14 hx15<|p1 (at_map gi_visit hx15)<|p2 (x15.seen = true) (h16)<|sH ({ i := 13, el := some (gi_visit x15), dec := some true })<|sN<|sN<|sK [0, 1] [0, 5, 6, 7, 30, 31, 32]) hn)
  (fun h16 H =>
  let s4 := fun s => s3<|sEt 6 h13<|sB h14 hx15<|p1 (at_map gi_visit hx15)<|p2 (x15.seen = false) (eqF h16)<|sH ({ i := 13, el := some (gi_visit x15), dec := some false })<|s
  eIf H (fun h17 H =>
  eL H fun h18 x19 hx19 H =>
  eCk H fun h20 H =>
  eN H fun r hn => gO (s4<|sT 19 h17<|sN<|sB h18 hx19<|sW 6 gi_visit 0 [I t4, .bool true, .bool true] (Gi_visit.mk t4 true true) hx19<|sN<|sA 4 I l6 [x3.from_] h20<|sN<|sN<|sK [0, 4] [0, 5, 6, 7, 30, 31, 32]) hn)
  (fun h17 H =>
  eN H fun r hn => gO (s4<|sF 19 h17<|sN<|sN<|sK [0, 1] [0, 5, 6, 7, 30, 31, 32]) hn)))
  (fun h13 H =>
  eN H fun r hn => gO (s3<|sEf 6 h13<|sN<|sN<|sK [0, 1] [0, 5, 6, 7, 30, 31, 32]) hn))
  (fun h10 H =>
  let s5 := fun s => s2<|p1 (at_map gi_visit hx9)<|p2 (x9.seen = false) (eqF h10)<|sH ({ i := 13, el := some (gi_visit x9), dec := some false })<|s
  eIf H (fun h11 H =>
  eL H fun h12 x13 hx13 H =>
  eCk H fun h14 H =>
  eL H fun h15 x16 hx16 H =>
  gN (s5<|sT 21 h11<|sN<|sB h12 hx13<|sW 6 gi_visit 0 [I t4, .bool false, .bool true] (Gi_visit.mk t4 false true) hx13<|sN<|sA 4 I l6 [x3.to_] h14<|sZ) <|
  let s6 := fun s => sL 5 I h15 hx16<|s
  eIf H (fun h17 H =>
  eL H fun h18 x19 hx19 H =>
  eIf H (fun h20 H =>
  eN H fun r hn => gO (s6<|sEt 6 h17<|sB h18 hx19<|p1 (at_map gi_visit hx19)<|p2 (x19.seen = true) (h20)<|sH ({ i := 13, el := some (gi_visit x19), dec := some true })<|sN<|sN<|sK [0, 4] [0, 5, 6, 7, 30, 31, 32]) hn)
  (fun h20 H =>
  let s7 := fun s => s6<|sEt 6 h17<|sB h18 hx19<|p1 (at_map gi_visit hx19)<|p2 (x19.seen = false) (eqF h20)<|sH ({ i := 13, el := some (gi_visit x19), dec := some false })<|s
  eIf H (fun h21 H =>
  eL H fun h22 x23 hx23 H =>
  eCk H fun h24 H =>
  eN H fun r hn => gO (s7<|sT 19 h21<|sN<|sB h22 hx23<|sW 6 gi_visit 0 [I t4, .bool true, .bool true] (Gi_visit.mk t4 true true) hx23<|sN<|sA 4 I (l6 ++ [x3.to_]) [x3.from_] h24<|sN<|sN<|sK [0, 6] [0, 5, 6, 7, 30, 31, 32]) hn)
  (fun h21 H =>
  eN H fun r hn => gO (s7<|sF 19 h21<|sN<|sN<|sK [0, 4] [0, 5, 6, 7, 30, 31, 32]) hn)))
  (fun h17 H =>
  eN H fun r hn => gO (s6<|sEf 6 h17<|sN<|sN<|sK [0, 4] [0, 5, 6, 7, 30, 31, 32]) hn))
  (fun h11 H =>
  eL H fun h12 x13 hx13 H =>
  gN (s5<|sF 21 h11<|sZ) <|
  let s8 := fun s => sL 5 I h12 hx13<|s
  eIf H (fun h14 H =>
  eL H fun h15 x16 hx16 H =>
  eIf H (fun h17 H =>
  eN H fun r hn => gO (s8<|sEt 6 h14<|sB h15 hx16<|p1 (at_map gi_visit hx16)<|p2 (x16.seen = true) (h17)<|sH ({ i := 13, el := some (gi_visit x16), dec := some true })<|sN<|sN<|sK [0, 1] [0, 5, 6, 7, 30, 31, 32]) hn)
  (fun h17 H =>
  let s9 := fun s => s8<|sEt 6 h14<|sB h15 hx16<|p1 (at_map gi_visit hx16)<|p2 (x16.seen = false) (eqF h17)<|sH ({ i := 13, el := some (gi_visit x16), dec := some false })<|s
  eIf H (fun h18 H =>
  eL H fun h19 x20 hx20 H =>
  eCk H fun h21 H =>
  eN H fun r hn => gO (s9<|sT 19 h18<|sN<|sB h19 hx20<|sW 6 gi_visit 0 [I t4, .bool true, .bool true] (Gi_visit.mk t4 true true) hx20<|sN<|sA 4 I l6 [x3.from_] h21<|sN<|sN<|sK [0, 4] [0, 5, 6, 7, 30, 31, 32]) hn)
  (fun h18 H =>
  eN H fun r hn => gO (s9<|sF 19 h18<|sN<|sN<|sK [0, 1] [0, 5, 6, 7, 30, 31, 32]) hn)))
  (fun h14 H =>
  eN H fun r hn => gO (s8<|sEf 6 h14<|sN<|sN<|sK [0, 1] [0, 5, 6, 7, 30, 31, 32]) hn))))
  (fun h7 H =>
  eL H fun h8 x9 hx9 H =>
  gN (s1<|sEf 6 h7<|sZ) <|
  eIf H (fun h10 H =>
  eL H fun h11 x12 hx12 H =>
  let s10 := fun s => sL 5 I h8 hx9<|sEt 6 h10<|sB h11 hx12<|s
  eIf H (fun h13 H =>
  eN H fun r hn => gO (s10<|p1 (at_map gi_visit hx12)<|p2 (x12.seen = true) (h13)<|sH ({ i := 13, el := some (gi_visit x12), dec := some true })<|sN<|sN<|sK [0, 1] [0, 5, 6, 7, 30, 31, 32]) hn)
  (fun h13 H =>
  let s11 := fun s => s10<|p1 (at_map gi_visit hx12)<|p2 (x12.seen = false) (eqF h13)<|sH ({ i := 13, el := some (gi_visit x12), dec := some false })<|s
  eIf H (fun h14 H =>
  eL H fun h15 x16 hx16 H =>
  eCk H fun h17 H =>
  eN H fun r hn => gO (s11<|sT 19 h14<|sN<|sB h15 hx16<|sW 6 gi_visit 0 [I t4, .bool true, .bool true] (Gi_visit.mk t4 true true) hx16<|sN<|sA 4 I l6 [x3.from_] h17<|sN<|sN<|sK [0, 4] [0, 5, 6, 7, 30, 31, 32]) hn)
  (fun h14 H =>
  eN H fun r hn => gO (s11<|sF 19 h14<|sN<|sN<|sK [0, 1] [0, 5, 6, 7, 30, 31, 32]) hn)))
  (fun h10 H =>
  eN H fun r hn => gO (sL 5 I h8 hx9<|sEf 6 h10<|sN<|sN<|sK [0, 1] [0, 5, 6, 7, 30, 31, 32]) hn))))
  (fun h1 H =>
  eN H fun r hn => gO (sF 0 h1<|sN<|sN<|sK [0, 1] [0, 5, 6, 7]) hn)
theorem ci_network_search {a0 a1 r} (H : Di_network_search a0 a1 = some r) : Cc 40 [.fptr 2 [.agg [I a0.places, sl 5 gi_arc a0.arcs]] 0 0, I a1] (Ri_network_search r) :=
  gF func40 <|
  eCk H fun h1 H =>
  eCk H fun h2 H =>
  eL H fun h3 x4 hx4 H =>
  gO (sN<|sMk 4 gi_visit a0.places (Gi_visit.mk 0 false false) h1 h2<|sN<|sB h3 hx4<|sW 4 gi_visit 0 [I (-1), .bool false, .bool true] (Gi_visit.mk (-1) false true) hx4<|sN<|sN<|sK [0, 1] [0, 5, 6, 7]) (gW ni_network_search H)
def Ri_network_push (r : Int × Gi_network) : List D := [I r.1]
def Ni_network_push (r : Int × Gi_network) : List Root := [⟨false, true, 2, 1, [.agg [I r.2.places, .ref 1 5 none]]⟩, ⟨false, false, 5, r.2.arcs.length, List.map gi_arc r.2.arcs⟩]
noncomputable def Ki_network_push : Si_network_push → List Item
 | .h1 .. => nav 300 2 [] [.code (bdy f35)]
 | .h2 .. => nav 300 7 [true, false] [.code (bdy f35)]
 | .h3 .. => nav 300 9 [true, false, false] [.code (bdy f35)]
def Zi_network_push : Si_network_push → St
 | .h1 vfrom0 vto1 most2 moved3 b4 l5 => ⟨sts 113 [(0, .ptr 0 2 0 0), (1, I vfrom0), (2, I vto1), (3, I most2), (9, I moved3)], [some ⟨false, true, 2, 1, [.agg [I b4, .ref 1 5 none]]⟩, some ⟨false, false, 5, l5.length, List.map gi_arc l5⟩]⟩
 | .h2 vfrom0 vto1 most2 moved3 vroom4 vat5 b6 l7 l8 => ⟨sts 113 [(0, .ptr 0 2 0 0), (1, I vfrom0), (2, I vto1), (3, I most2), (9, I moved3), (10, .ref 2 3 none), (11, I vroom4), (12, I vat5)], [some ⟨false, true, 2, 1, [.agg [I b6, .ref 1 5 none]]⟩, some ⟨false, false, 5, l7.length, List.map gi_arc l7⟩, some ⟨false, false, 3, l8.length, List.map gi_visit l8⟩]⟩
 | .h3 vfrom0 vto1 most2 moved3 vroom4 vat5 b6 l7 l8 => ⟨sts 113 [(0, .ptr 0 2 0 0), (1, I vfrom0), (2, I vto1), (3, I most2), (9, I moved3), (10, .ref 2 3 none), (11, I vroom4), (14, I vat5)], [some ⟨false, true, 2, 1, [.agg [I b6, .ref 1 5 none]]⟩, some ⟨false, false, 5, l7.length, List.map gi_arc l7⟩, some ⟨false, false, 3, l8.length, List.map gi_visit l8⟩]⟩
theorem ni_network_push : NxA 35 2 Bi_network_push Ki_network_push Zi_network_push Ri_network_push Ni_network_push
 | .h1 vfrom0 vto1 most2 moved3 b4 l5, o, H =>
  eIf H (fun h1 H =>
  eBind H fun r2 hr2 H =>
  eL H fun h3 x4 hx4 H =>
  gN (sT 2 h1<|sN<|p2 (nfL (List.flatMap D.cells (Ri_network_search r2))) ⟨nfL_map nf_73 _, trivial⟩<|p2 (nfG []) trivial<|p1 (ci_network_search hr2)<|sH ({ i := 2, xtra := [1], call := some { cl := false, auto := true, ins := [], res := (Ri_network_search r2), G' := [] } })<|sZ) <|
  eIf H (fun h5 H =>
  eN H fun r hn => gO (sB h3 hx4<|p1 (at_map gi_visit hx4)<|p2 (x4.seen = true) (h5)<|sH ({ i := 4, el := some (gi_visit x4), dec := some true })<|sN<|sN<|sN<|sK [0, 1, 2] [0, 1, 2, 3, 9, 10, 11, 12]) hn)
  (fun h5 H =>
  gY func35 H (sB h3 hx4<|p1 (at_map gi_visit hx4)<|p2 (x4.seen = false) (eqF h5)<|sH ({ i := 4, el := some (gi_visit x4), dec := some false })<|sN<|sZ)))
  (fun h1 H =>
  gY func35 H (sF 2 h1<|sN<|sZ))
 | .h2 vfrom0 vto1 most2 moved3 vroom4 vat5 b6 l7 l8, o, H =>
  eIf H (fun h1 H =>
  eN H fun r hn => gO (sNf 2 h1<|sN<|sN<|sK [0, 1, 2] [0, 1, 2, 3, 9, 10, 11, 14]) hn)
  (fun h1 H =>
  eL H fun h2 x3 hx3 H =>
  eL H fun h4 x5 hx5 H =>
  eL H fun h6 x7 hx7 H =>
  gN (sNt 2 h1<|sN<|sL 8 gi_visit h2 hx3<|sL 10 gi_arc h4 hx5<|sZ) <|
  eIf H (fun h8 H =>
  eN H fun r hn => gO (sB h6 hx7<|p1 (at_map gi_visit hx7)<|p2 (x7.back = true) (h8)<|sH ({ i := 4, el := some (gi_visit x7), dec := some true })<|sN<|sN<|sK [0, 1, 2] [0, 1, 2, 3, 9, 10, 11, 12]) hn)
  (fun h8 H =>
  eN H fun r hn => gO (sB h6 hx7<|p1 (at_map gi_visit hx7)<|p2 (x7.back = false) (eqF h8)<|sH ({ i := 4, el := some (gi_visit x7), dec := some false })<|sN<|sN<|sK [0, 1, 2] [0, 1, 2, 3, 9, 10, 11, 12]) hn))
 | .h3 vfrom0 vto1 most2 moved3 vroom4 vat5 b6 l7 l8, o, H =>
  eIf H (fun h1 H =>
  eN H fun r hn => gO (sNf 2 h1<|sN<|sN<|sK [0, 1] [0, 1, 2, 3, 9]) hn)
  (fun h1 H =>
  eL H fun h2 x3 hx3 H =>
  eL H fun h4 x5 hx5 H =>
  eL H fun h6 x7 hx7 H =>
  gN (sNt 2 h1<|sN<|sL 8 gi_visit h2 hx3<|sB h4 hx5<|sZ) <|
  eIf H (fun h8 H =>
  eBind H fun x9 hx9 H =>
  eN H fun r hn => gO (sB h6 hx7<|p1 (at_map gi_visit hx7)<|p2 (x7.back = true) (h8)<|sH ({ i := 4, el := some (gi_visit x7), dec := some true })<|sN<|sE 3 gi_arc hx5<|sW 8 gi_arc 3 [I (IntKind.wrap .i64 (x5.flow - vroom4))] (Gi_arc.mk x5.from_ x5.to_ x5.most (IntKind.wrap .i64 (x5.flow - vroom4)) x5.frozen) hx5<|sN<|sE 3 gi_arc hx9<|sN<|sK [0, 1, 2] [0, 1, 2, 3, 9, 10, 11, 14]) hn)
  (fun h8 H =>
  eBind H fun x9 hx9 H =>
  eN H fun r hn => gO (sB h6 hx7<|p1 (at_map gi_visit hx7)<|p2 (x7.back = false) (eqF h8)<|sH ({ i := 4, el := some (gi_visit x7), dec := some false })<|sN<|sE 3 gi_arc hx5<|sW 8 gi_arc 3 [I (IntKind.wrap .i64 (x5.flow + vroom4))] (Gi_arc.mk x5.from_ x5.to_ x5.most (IntKind.wrap .i64 (x5.flow + vroom4)) x5.frozen) hx5<|sN<|sE 3 gi_arc hx9<|sN<|sK [0, 1, 2] [0, 1, 2, 3, 9, 10, 11, 14]) hn))
theorem ci_network_push {a0 a1 a2 a3 r} (H : Di_network_push a0 a1 a2 a3 = some r) : Ct X.P X.gl 35 [.ptr 0 2 0 0, I a1, I a2, I a3] [⟨false, true, 2, 1, [.agg [I a0.places, .ref 1 5 none]]⟩, ⟨false, false, 5, a0.arcs.length, List.map gi_arc a0.arcs⟩] (Ri_network_push r) (Ni_network_push r) :=
  gF func35 <|
  gO (sN<|sN<|sK [0, 1] [0, 1, 2, 3, 9]) (gW ni_network_push H)
def Ri_delivered (r : Gi_network × Int) : List D := [.optr 2 [goi_network r.1], I r.2]
theorem ci_delivered {a0 a1 a2 a3 r} (H : Di_delivered a0 a1 a2 a3 = some r) : Cc 34 [gi_Lanes a0, I a1, I a2, I a3] (Ri_delivered r) :=
  gF func34 <|
  eBind H fun r1 hr1 H =>
  gS (sN<|sC 4 (ci_networkOf hr1)<|sN<|p2 (getCells [.agg [I r1.places, ow 5 gi_arc r1.arcs]] 0 1 1 = some [.list true 5 r1.arcs.length (List.map gi_arc r1.arcs)]) rfl<|p2 (setCells [.agg [I r1.places, ow 5 gi_arc r1.arcs]] 0 1 [.ref 2 5 none] = [.agg [I r1.places, .ref 2 5 none]]) rfl<|sM (.bm (.take 1 0 1 5 r1.arcs.length (List.map gi_arc r1.arcs) [.agg [I r1.places, .ref 2 5 none]]))<|sO) <|
  eIf H (fun h2 H =>
  gX Ri_delivered func34 H (sEt 1 h2<|sN<|sN<|p2 (getCells [.agg [I r1.places, .ref 2 5 none]] 0 1 1 = some [.ref 2 5 none]) rfl<|p2 (setCells [.agg [I r1.places, .ref 2 5 none]] 0 1 [ow 5 gi_arc r1.arcs] = [.agg [I r1.places, ow 5 gi_arc r1.arcs]]) rfl<|sM (.bm (.put 1 0 1 2 [.agg [I r1.places, ow 5 gi_arc r1.arcs]]))<|sO))
  (fun h2 H =>
  eBind H fun r3 hr3 H =>
  eCk H fun h4 H =>
  gX Ri_delivered func34 H (sEf 1 h2<|sN<|pI (1 : Nat)<|p1 h4<|p1 (ci_network_push hr3)<|sH ({ i := 9, xtra := [2], call := some { cl := true, auto := true, ins := [1, 2], res := (Ri_network_push r3), G' := (Ni_network_push r3) } })<|sN<|p2 (getCells [.agg [I r3.2.places, .ref 2 5 none]] 0 1 1 = some [.ref 2 5 none]) rfl<|p2 (setCells [.agg [I r3.2.places, .ref 2 5 none]] 0 1 [ow 5 gi_arc r3.2.arcs] = [.agg [I r3.2.places, ow 5 gi_arc r3.2.arcs]]) rfl<|sM (.bm (.put 1 0 1 2 [.agg [I r3.2.places, ow 5 gi_arc r3.2.arcs]]))<|sO))
def Ri_DeliveryPlan (r : (List Gi_Convoy) × Bool) : List D := [ow 3 gi_Convoy r.1, .bool r.2]
noncomputable def Ki_DeliveryPlan : Si_DeliveryPlan → List Item
 | .h1 .. => nav 300 5 [false] [.code (bdy f7)]
def Zi_DeliveryPlan : Si_DeliveryPlan → St
 | .h1 t0 t1 b2 b3 l4 l5 => ⟨sts 93 [(4, .ptr 0 3 0 0), (10, .ptr 1 2 0 0), (12, .ref 2 3 none), (34, I t0), (35, I t1)], [some ⟨false, true, 3, 1, [gi_Lanes b2]⟩, some ⟨false, true, 2, 1, [.agg [I b3, .ref 3 5 none]]⟩, some ⟨false, false, 3, l4.length, List.map gi_Convoy l4⟩, some ⟨false, false, 5, l5.length, List.map gi_arc l5⟩]⟩
theorem ni_DeliveryPlan : NxA 7 0 Bi_DeliveryPlan Ki_DeliveryPlan Zi_DeliveryPlan Ri_DeliveryPlan (fun _ => [])
 | .h1 t0 t1 b2 b3 l4 l5, o, H =>
  eIf H (fun h1 H =>
  eL H fun h2 x3 hx3 H =>
  eBind H fun x4 hx4 H =>
  eBind H fun x5 hx5 H =>
  eBind H fun x6 hx6 H =>
  eBind H fun x7 hx7 H =>
  eBind H fun r8 hr8 H =>
  eL H fun h9 x10 hx10 H =>
  eL H fun h11 x12 hx12 H =>
  eBind H fun x13 hx13 H =>
  gN (sT 0 h1<|sN<|sN<|sB h2 hx3<|sN<|sW 3 gi_arc 4 [.bool true] (Gi_arc.mk x3.from_ x3.to_ x3.most x3.flow true) hx3<|sZ) <|
  gRN (sE 3 gi_arc hx4<|sE 8 gi_arc hx5<|sE 12 gi_arc hx6<|sE 16 gi_arc hx7<|pI (1 : Nat)<|p1 h9<|p1 (ci_network_push hr8)<|sH ({ i := 17, xtra := [3], call := some { cl := true, auto := true, ins := [1, 3], res := (Ri_network_push r8), G' := (Ni_network_push r8) } })<|sW 21 gi_arc 3 [I (IntKind.wrap .i64 (x4.flow - r8.1))] (Gi_arc.mk x12.from_ x12.to_ x12.most (IntKind.wrap .i64 (x4.flow - r8.1)) x12.frozen) hx12<|pI (.ptr 3 5 (Int.toNat t1) 0 : D)<|pI (.ptr 3 5 (Int.toNat t1) 3 : D)<|p1 (at_map gi_arc hx10)<|p2 (I x10.flow = I x4.flow) (congrArg _ h11)<|sZ) 17 [(1, { i := 1 }), (2, { i := 2 }), (3, hE 3 (gi_arc x10))] <|
  eIf H (fun h14 H =>
  eCk H fun h15 H =>
  eL H fun h16 x17 hx17 H =>
  eCk H fun h18 H =>
  eN H fun r hn => gO (sE 3 gi_arc hx13<|sT 4 h14<|sN<|p2 (¬ (((b2.Lanes.length : Nat) : Int) : Int) = 0) h15<|p2 (¬ (((b2.Lanes.length : Nat) : Int) : Int) = 0) h16<|sE 14 gi_arc hx17<|sA 17 gi_Convoy l4 [(Gi_Convoy.mk (IntKind.wrap .i64 (Int.tdiv t1 ((b2.Lanes.length : Nat) : Int))) (Int.tmod t1 ((b2.Lanes.length : Nat) : Int)) x17.flow)] h18<|sN<|sN<|sK [0, 1, 5, 3] [4, 10, 12, 34, 35]) hn)
  (fun h14 H =>
  eN H fun r hn => gO (sE 3 gi_arc hx13<|sF 4 h14<|sN<|sN<|sK [0, 1, 2, 3] [4, 10, 12, 34, 35]) hn))
  (fun h1 H =>
  gY func7 H (sF 0 h1<|sN<|sZ))
theorem ci_DeliveryPlan {a0 a1 a2 a3 r} (H : Di_DeliveryPlan a0 a1 a2 a3 = some r) : Cc 7 [gi_Lanes a0, I a1, I a2, I a3] (Ri_DeliveryPlan r) :=
  gF func7 <|
  eBind H fun r1 hr1 H =>
  gS (sZ) <|
  eIf H (fun h2 H =>
  eBind H fun r3 hr3 H =>
  gO (sCt 4 (ci_isTransport hr1) h2<|sN<|sC 4 (ci_delivered hr3)<|sN<|p2 (getCells [.agg [I r3.1.places, ow 5 gi_arc r3.1.arcs]] 0 1 1 = some [.list true 5 r3.1.arcs.length (List.map gi_arc r3.1.arcs)]) rfl<|p2 (setCells [.agg [I r3.1.places, ow 5 gi_arc r3.1.arcs]] 0 1 [.ref 2 5 none] = [.agg [I r3.1.places, .ref 2 5 none]]) rfl<|sM (.bm (.take 1 0 1 5 r3.1.arcs.length (List.map gi_arc r3.1.arcs) [.agg [I r3.1.places, .ref 2 5 none]]))<|sN<|sN<|sK [0, 1, 3, 2] [4, 10, 12, 34, 35]) (gW ni_DeliveryPlan H))
  (fun h2 H =>
  gX Ri_DeliveryPlan func7 H (sCf 4 (ci_isTransport hr1) h2<|sN<|sZ))
theorem cs_l1In {a0 a1 a2 r} (H : Ds_l1In a0 a1 a2 = some r) : Cc 53 [I a0, I a1, I a2] (RB r) :=
  gF func53 <|
  gS (sZ) <|
  eIf H (fun h1 H =>
  gX RB func53 H (sT 2 h1<|sZ))
  (fun h1 H =>
  gX RB func53 H (sF 2 h1<|sZ))
noncomputable def Ks_l1All : Ss_l1All → List Item
 | .h1 .. => nav 300 2 [] [.code (bdy f78)]
def Zs_l1All : Ss_l1All → St
 | .h1 lo0 vhi1 t2 t3 t4 => ⟨sts 21 [(1, I lo0), (2, I vhi1), (9, sl 1 I t2), (10, I t3), (11, I t4)], []⟩
theorem ns_l1All : NxA 78 0 Bs_l1All Ks_l1All Zs_l1All RB (fun _ => [])
 | .h1 lo0 vhi1 t2 t3 t4, o, H =>
  eIf H (fun h1 H =>
  eL H fun h2 x3 hx3 H =>
  eBind H fun r4 hr4 H =>
  gN (sT 0 h1<|sN<|sL 1 I h2 hx3<|sZ) <|
  eIf H (fun h5 H =>
  eN H fun r hn => gO (sCt 3 (cs_l1In hr4) h5<|sN<|sN<|sK [] [1, 2, 9, 10, 11]) hn)
  (fun h5 H =>
  gY func78 H (sCf 3 (cs_l1In hr4) h5<|sN<|sZ)))
  (fun h1 H =>
  gY func78 H (sF 0 h1<|sN<|sZ))
theorem cs_l1All {a0 a1 a2 r} (H : Ds_l1All a0 a1 a2 = some r) : Cc 78 [sl 1 I a0, I a1, I a2] (RB r) :=
  gF func78 <|
  gO (sN<|sN<|sK [] [1, 2, 9, 10, 11]) (gW ns_l1All H)
noncomputable def Ks_qGood : Ss_qGood → List Item
 | .h1 .. => nav 300 3 [false] [.code (bdy f60)]
def Zs_qGood : Ss_qGood → St
 | .h1 t0 t1 t2 b3 => ⟨sts 66 [(1, .ptr 0 3 0 0), (30, sl 3 gi_Lane t0), (31, I t1), (32, I t2)], [some ⟨false, true, 3, 1, [gi_Lanes b3]⟩]⟩
theorem ns_qGood : NxA 60 0 Bs_qGood Ks_qGood Zs_qGood RB (fun _ => [])
 | .h1 t0 t1 t2 b3, o, H =>
  eIf H (fun h1 H =>
  eL H fun h2 x3 hx3 H =>
  eBind H fun r4 hr4 H =>
  gN (sT 0 h1<|sN<|sL 1 gi_Lane h2 hx3<|sZ) <|
  eIf H (fun h5 H =>
  eBind H fun r6 hr6 H =>
  let s1 := fun s => sCt 5 (cs_l1In hr4) h5<|s
  eIf H (fun h7 H =>
  let s2 := fun s => s1<|sCt 13 (cs_l1In hr6) h7<|s
  eIf H (fun h8 H =>
  gY func60 H (s2<|sEt 21 h8<|sN<|sZ))
  (fun h8 H =>
  eBind H fun r9 hr9 H =>
  eIf H (fun h10 H =>
  eN H fun r hn => gO (s2<|sEf 21 h8<|sCt 26 (cs_l1In hr9) h10<|sN<|sN<|sK [0] [1, 30, 31, 32]) hn)
  (fun h10 H =>
  gY func60 H (s2<|sEf 21 h8<|sCf 26 (cs_l1In hr9) h10<|sN<|sZ))))
  (fun h7 H =>
  gY func60 H (s1<|sCf 13 (cs_l1In hr6) h7<|sN<|sZ)))
  (fun h5 H =>
  gY func60 H (sCf 5 (cs_l1In hr4) h5<|sN<|sZ)))
  (fun h1 H =>
  gY func60 H (sF 0 h1<|sN<|sZ))
theorem cs_qGood {a0 r} (H : Ds_qGood a0 = some r) : Cc 60 [gi_Lanes a0] (RB r) :=
  gF func60 <|
  eBind H fun r1 hr1 H =>
  gS (sZ) <|
  eIf H (fun h2 H =>
  let s3 := fun s => sCt 2 (cs_l1In hr1) h2<|s
  eIf H (fun h3 H =>
  gX RB func60 H (s3<|sT 8 h3<|sN<|sZ))
  (fun h3 H =>
  eIf H (fun h4 H =>
  eBind H fun r5 hr5 H =>
  eIf H (fun h6 H =>
  gO (s3<|sF 8 h3<|sNf 16 h4<|sCt 21 (cs_l1All hr5) h6<|sN<|sN<|sK [0] [1, 30, 31, 32]) (gW ns_qGood H))
  (fun h6 H =>
  gX RB func60 H (s3<|sF 8 h3<|sNf 16 h4<|sCf 21 (cs_l1All hr5) h6<|sN<|sZ)))
  (fun h4 H =>
  gX RB func60 H (s3<|sF 8 h3<|sNt 16 h4<|sN<|sZ))))
  (fun h2 H =>
  gX RB func60 H (sCf 2 (cs_l1In hr1) h2<|sN<|sZ))
theorem cs_qAsked {a0 a1 a2 a3 r} (H : Ds_qAsked a0 a1 a2 a3 = some r) : Cc 36 [gi_Lanes a0, I a1, I a2, I a3] (RB r) :=
  gF func36 <|
  eBind H fun r1 hr1 H =>
  gS (sZ) <|
  eIf H (fun h2 H =>
  eBind H fun r3 hr3 H =>
  let s1 := fun s => sCt 1 (cs_qGood hr1) h2<|s
  eIf H (fun h4 H =>
  eBind H fun r5 hr5 H =>
  let s2 := fun s => s1<|sCt 7 (cs_l1In hr3) h4<|s
  eIf H (fun h6 H =>
  eIf H (fun h7 H =>
  gX RB func36 H (s2<|sCt 14 (cs_l1In hr5) h6<|sNf 19 h7<|sZ))
  (fun h7 H =>
  eBind H fun r8 hr8 H =>
  gX RB func36 H (s2<|sCt 14 (cs_l1In hr5) h6<|sNt 19 h7<|sC 23 (cs_l1In hr8)<|sZ)))
  (fun h6 H =>
  gX RB func36 H (s2<|sCf 14 (cs_l1In hr5) h6<|sZ)))
  (fun h4 H =>
  gX RB func36 H (s1<|sCf 7 (cs_l1In hr3) h4<|sZ)))
  (fun h2 H =>
  gX RB func36 H (sCf 1 (cs_qGood hr1) h2<|sZ))
def Rs_qNetOf (r : Gs_qNet) : List D := [.optr 2 [gos_qNet r]]
noncomputable def Ks_qNetOf : Ss_qNetOf → List Item
 | .h1 .. => nav 300 3 [] [.code (bdy f41)]
 | .h2 .. => nav 300 6 [true] [.code (bdy f41)]
 | .h3 .. => nav 300 8 [true, false] [.code (bdy f41)]
def Zs_qNetOf : Ss_qNetOf → St
 | .h1 vfrom0 vto1 days2 d3 b4 b5 l6 => ⟨sts 101 [(1, I vfrom0), (2, I vto1), (3, I days2), (4, .ptr 0 3 0 0), (9, .ptr 1 2 0 0), (10, I d3)], [some ⟨false, true, 3, 1, [gi_Lanes b4]⟩, some ⟨false, true, 2, 1, [.agg [.ref 2 4 none, I b5]]⟩, some ⟨false, false, 4, l6.length, List.map gs_qArc l6⟩]⟩
 | .h2 vfrom0 vto1 days2 d3 vat4 next5 t6 t7 t8 b9 b10 l11 => ⟨sts 101 [(1, I vfrom0), (2, I vto1), (3, I days2), (4, .ptr 0 3 0 0), (9, .ptr 1 2 0 0), (10, I d3), (11, I vat4), (12, I next5), (39, sl 3 gi_Lane t6), (40, I t7), (41, I t8)], [some ⟨false, true, 3, 1, [gi_Lanes b9]⟩, some ⟨false, true, 2, 1, [.agg [.ref 2 4 none, I b10]]⟩, some ⟨false, false, 4, l11.length, List.map gs_qArc l11⟩]⟩
 | .h3 vfrom0 vto1 days2 d3 vat4 next5 t6 t7 t8 b9 b10 l11 => ⟨sts 101 [(1, I vfrom0), (2, I vto1), (3, I days2), (4, .ptr 0 3 0 0), (9, .ptr 1 2 0 0), (10, I d3), (11, I vat4), (12, I next5), (67, sl 1 I t6), (68, I t7), (69, I t8)], [some ⟨false, true, 3, 1, [gi_Lanes b9]⟩, some ⟨false, true, 2, 1, [.agg [.ref 2 4 none, I b10]]⟩, some ⟨false, false, 4, l11.length, List.map gs_qArc l11⟩]⟩
theorem ns_qNetOf : NxA 41 0 Bs_qNetOf Ks_qNetOf Zs_qNetOf Rs_qNetOf (fun _ => [])
 | .h1 vfrom0 vto1 days2 d3 b4 b5 l6, o, H =>
  eIf H (fun h1 H =>
  eN H fun r hn => gO (sT 2 h1<|sN<|sN<|sN<|sK [0, 1, 2] [1, 2, 3, 4, 9, 10, 11, 12, 39, 40, 41]) hn)
  (fun h1 H =>
  gY func41 H (sF 2 h1<|sN<|sN<|p2 (getCells [.agg [.ref 2 4 none, I b5]] 0 0 1 = some [.ref 2 4 none]) rfl<|p2 (setCells [.agg [.ref 2 4 none, I b5]] 0 0 [ow 4 gs_qArc l6] = [.agg [ow 4 gs_qArc l6, I b5]]) rfl<|sM (.bm (.put 1 0 0 2 [.agg [ow 4 gs_qArc l6, I b5]]))<|sO))
 | .h2 vfrom0 vto1 days2 d3 vat4 next5 t6 t7 t8 b9 b10 l11, o, H =>
  eIf H (fun h1 H =>
  eL H fun h2 x3 hx3 H =>
  eCk H fun h4 H =>
  eN H fun r hn => gO (sT 0 h1<|sN<|sL 1 gi_Lane h2 hx3<|sN<|sA 17 gs_qArc l11 [(Gs_qArc.mk (IntKind.wrap .i64 (vat4 + x3.From)) (IntKind.wrap .i64 (next5 + x3.To)) x3.Load 0)] h4<|sN<|sN<|sK [0, 1, 5] [1, 2, 3, 4, 9, 10, 11, 12, 39, 40, 41]) hn)
  (fun h1 H =>
  eN H fun r hn => gO (sF 0 h1<|sN<|sN<|sK [0, 1, 2] [1, 2, 3, 4, 9, 10, 11, 12, 67, 68, 69]) hn)
 | .h3 vfrom0 vto1 days2 d3 vat4 next5 t6 t7 t8 b9 b10 l11, o, H =>
  eIf H (fun h1 H =>
  eL H fun h2 x3 hx3 H =>
  gN (sT 0 h1<|sN<|sL 2 I h2 hx3<|sZ) <|
  eIf H (fun h4 H =>
  eCk H fun h5 H =>
  eN H fun r hn => gO (sEt 2 h4<|sN<|sN<|sA 14 gs_qArc l11 [(Gs_qArc.mk (IntKind.wrap .i64 (vat4 + t8)) (IntKind.wrap .i64 (next5 + t8)) 1000000 0)] h5<|sN<|sN<|sK [0, 1, 4] [1, 2, 3, 4, 9, 10, 11, 12, 67, 68, 69]) hn)
  (fun h4 H =>
  eIf H (fun h5 H =>
  eCk H fun h6 H =>
  eN H fun r hn => gO (sEf 2 h4<|sEt 6 h5<|sN<|sN<|sA 14 gs_qArc l11 [(Gs_qArc.mk (IntKind.wrap .i64 (vat4 + t8)) (IntKind.wrap .i64 (next5 + t8)) 1000000 0)] h6<|sN<|sN<|sK [0, 1, 4] [1, 2, 3, 4, 9, 10, 11, 12, 67, 68, 69]) hn)
  (fun h5 H =>
  eCk H fun h6 H =>
  eN H fun r hn => gO (sEf 2 h4<|sEf 6 h5<|sN<|sA 14 gs_qArc l11 [(Gs_qArc.mk (IntKind.wrap .i64 (vat4 + t8)) (IntKind.wrap .i64 (next5 + t8)) x3 0)] h6<|sN<|sN<|sK [0, 1, 4] [1, 2, 3, 4, 9, 10, 11, 12, 67, 68, 69]) hn)))
  (fun h1 H =>
  eN H fun r hn => gO (sF 0 h1<|sN<|sN<|sK [0, 1, 2] [1, 2, 3, 4, 9, 10]) hn)
theorem cs_qNetOf {a0 a1 a2 a3 r} (H : Ds_qNetOf a0 a1 a2 a3 = some r) : Cc 41 [gi_Lanes a0, I a1, I a2, I a3] (Rs_qNetOf r) :=
  gF func41 <|
  gO (sN<|sN<|sN<|p2 (getCells [.agg [.nil, I (IntKind.wrap .i64 ((IntKind.wrap .i64 (a3 + 1)) * a0.Depots))]] 0 0 1 = some [.nil]) rfl<|p2 (setCells [.agg [.nil, I (IntKind.wrap .i64 ((IntKind.wrap .i64 (a3 + 1)) * a0.Depots))]] 0 0 [.list true 4 0 []] = [.agg [.list true 4 0 [], I (IntKind.wrap .i64 ((IntKind.wrap .i64 (a3 + 1)) * a0.Depots))]]) rfl<|sM (.bm (.nil 1 0 0 4 [.agg [.list true 4 0 [], I (IntKind.wrap .i64 ((IntKind.wrap .i64 (a3 + 1)) * a0.Depots))]]))<|p2 (getCells [.agg [.list true 4 0 [], I (IntKind.wrap .i64 ((IntKind.wrap .i64 (a3 + 1)) * a0.Depots))]] 0 0 1 = some [.list true 4 0 []]) rfl<|p2 (setCells [.agg [.list true 4 0 [], I (IntKind.wrap .i64 ((IntKind.wrap .i64 (a3 + 1)) * a0.Depots))]] 0 0 [.ref 2 4 none] = [.agg [.ref 2 4 none, I (IntKind.wrap .i64 ((IntKind.wrap .i64 (a3 + 1)) * a0.Depots))]]) rfl<|sM (.bm (.take 1 0 0 4 0 [] [.agg [.ref 2 4 none, I (IntKind.wrap .i64 ((IntKind.wrap .i64 (a3 + 1)) * a0.Depots))]]))<|sK [0, 1, 2] [1, 2, 3, 4, 9, 10]) (gW ns_qNetOf H)
def Rs_qNet_reach (r : (List Int)) : List D := [ow 1 I r]
noncomputable def Ks_qNet_reach : Ss_qNet_reach → List Item
 | .h1 .. => nav 300 3 [] [.code (bdy f43)]
 | .h2 .. => nav 300 7 [false] [.code (bdy f43)]
 | .h3 .. => nav 300 10 [false, true] [.code (bdy f43)]
def Zs_qNet_reach : Ss_qNet_reach → St
 | .h1 n0 start1 t2 t3 l4 => ⟨sts 109 [(0, .fptr 2 [.agg [sl 4 gs_qArc n0.arcs, I n0.places]] 0 0), (1, I start1), (5, .ref 0 1 none), (18, I t2), (19, I t3)], [some ⟨false, false, 1, l4.length, List.map I l4⟩]⟩
 | .h2 n0 vat1 l2 l3 => ⟨sts 109 [(0, .fptr 2 [.agg [sl 4 gs_qArc n0.arcs, I n0.places]] 0 0), (5, .ref 0 1 none), (7, .ref 1 1 none), (8, I vat1)], [some ⟨false, false, 1, l2.length, List.map I l2⟩, some ⟨false, false, 1, l3.length, List.map I l3⟩]⟩
 | .h3 n0 vat1 v2 t3 t4 t5 l6 l7 => ⟨sts 109 [(0, .fptr 2 [.agg [sl 4 gs_qArc n0.arcs, I n0.places]] 0 0), (5, .ref 0 1 none), (7, .ref 1 1 none), (8, I vat1), (9, I v2), (44, sl 4 gs_qArc t3), (45, I t4), (46, I t5)], [some ⟨false, false, 1, l6.length, List.map I l6⟩, some ⟨false, false, 1, l7.length, List.map I l7⟩]⟩
theorem ns_qNet_reach : NxA 43 0 Bs_qNet_reach Ks_qNet_reach Zs_qNet_reach Rs_qNet_reach (fun _ => [])
 | .h1 n0 start1 t2 t3 l4, o, H =>
  eIf H (fun h1 H =>
  eL H fun h2 x3 hx3 H =>
  eN H fun r hn => gO (sT 0 h1<|sN<|sN<|sB h2 hx3<|sW 3 I 0 [I (-1)] (-1) hx3<|sN<|sN<|sK [0] [0, 1, 5, 18, 19]) hn)
  (fun h1 H =>
  eL H fun h2 x3 hx3 H =>
  eN H fun r hn => gO (sF 0 h1<|sN<|sB h2 hx3<|sW 3 I 0 [I (-2)] (-2) hx3<|sN<|sN<|sN<|sK [0, 1] [0, 5, 7, 8]) hn)
 | .h2 n0 vat1 l2 l3, o, H =>
  eIf H (fun h1 H =>
  eL H fun h2 x3 hx3 H =>
  eN H fun r hn => gO (sT 3 h1<|sN<|sL 3 I h2 hx3<|sN<|sN<|sK [0, 1] [0, 5, 7, 8, 9, 44, 45, 46]) hn)
  (fun h1 H =>
  gY func43 H (sF 3 h1<|sN<|sZ))
 | .h3 n0 vat1 v2 t3 t4 t5 l6 l7, o, H =>
  eIf H (fun h1 H =>
  eL H fun h2 x3 hx3 H =>
  gN (sT 0 h1<|sN<|sL 2 gs_qArc h2 hx3<|sZ) <|
  eIf H (fun h4 H =>
  let s1 := fun s => sEt 3 h4<|s
  eIf H (fun h5 H =>
  eL H fun h6 x7 hx7 H =>
  let s2 := fun s => s1<|sT 9 h5<|sL 16 I h6 hx7<|s
  eIf H (fun h8 H =>
  eL H fun h9 x10 hx10 H =>
  eCk H fun h11 H =>
  gN (s2<|sEt 17 h8<|sN<|sB h9 hx10<|sW 5 I 0 [I t5] t5 hx10<|sN<|sA 4 I l7 [x3.to_] h11<|sZ) <|
  eIf H (fun h12 H =>
  eIf H (fun h13 H =>
  eL H fun h14 x15 hx15 H =>
  eIf H (fun h16 H =>
  eL H fun h17 x18 hx18 H =>
  eCk H fun h19 H =>
  eN H fun r hn => gO (sEt 3 h12<|sT 7 h13<|sL 14 I h14 hx15<|sEt 15 h16<|sN<|sB h17 hx18<|sW 5 I 0 [I t5] t5 hx18<|sN<|sA 4 I (l7 ++ [x3.to_]) [x3.from_] h19<|sN<|sN<|sK [0, 6] [0, 5, 7, 8, 9, 44, 45, 46]) hn)
  (fun h16 H =>
  eN H fun r hn => gO (sEt 3 h12<|sT 7 h13<|sL 14 I h14 hx15<|sEf 15 h16<|sN<|sN<|sK [0, 4] [0, 5, 7, 8, 9, 44, 45, 46]) hn))
  (fun h13 H =>
  eN H fun r hn => gO (sEt 3 h12<|sF 7 h13<|sN<|sN<|sK [0, 4] [0, 5, 7, 8, 9, 44, 45, 46]) hn))
  (fun h12 H =>
  eN H fun r hn => gO (sEf 3 h12<|sN<|sN<|sK [0, 4] [0, 5, 7, 8, 9, 44, 45, 46]) hn))
  (fun h8 H =>
  gN (s2<|sEf 17 h8<|sZ) <|
  eIf H (fun h9 H =>
  eIf H (fun h10 H =>
  eL H fun h11 x12 hx12 H =>
  eIf H (fun h13 H =>
  eL H fun h14 x15 hx15 H =>
  eCk H fun h16 H =>
  eN H fun r hn => gO (sEt 3 h9<|sT 7 h10<|sL 14 I h11 hx12<|sEt 15 h13<|sN<|sB h14 hx15<|sW 5 I 0 [I t5] t5 hx15<|sN<|sA 4 I l7 [x3.from_] h16<|sN<|sN<|sK [0, 4] [0, 5, 7, 8, 9, 44, 45, 46]) hn)
  (fun h13 H =>
  eN H fun r hn => gO (sEt 3 h9<|sT 7 h10<|sL 14 I h11 hx12<|sEf 15 h13<|sN<|sN<|sK [0, 1] [0, 5, 7, 8, 9, 44, 45, 46]) hn))
  (fun h10 H =>
  eN H fun r hn => gO (sEt 3 h9<|sF 7 h10<|sN<|sN<|sK [0, 1] [0, 5, 7, 8, 9, 44, 45, 46]) hn))
  (fun h9 H =>
  eN H fun r hn => gO (sEf 3 h9<|sN<|sN<|sK [0, 1] [0, 5, 7, 8, 9, 44, 45, 46]) hn)))
  (fun h5 H =>
  gN (s1<|sF 9 h5<|sZ) <|
  eIf H (fun h6 H =>
  eIf H (fun h7 H =>
  eL H fun h8 x9 hx9 H =>
  eIf H (fun h10 H =>
  eL H fun h11 x12 hx12 H =>
  eCk H fun h13 H =>
  eN H fun r hn => gO (sEt 3 h6<|sT 7 h7<|sL 14 I h8 hx9<|sEt 15 h10<|sN<|sB h11 hx12<|sW 5 I 0 [I t5] t5 hx12<|sN<|sA 4 I l7 [x3.from_] h13<|sN<|sN<|sK [0, 4] [0, 5, 7, 8, 9, 44, 45, 46]) hn)
  (fun h10 H =>
  eN H fun r hn => gO (sEt 3 h6<|sT 7 h7<|sL 14 I h8 hx9<|sEf 15 h10<|sN<|sN<|sK [0, 1] [0, 5, 7, 8, 9, 44, 45, 46]) hn))
  (fun h7 H =>
  eN H fun r hn => gO (sEt 3 h6<|sF 7 h7<|sN<|sN<|sK [0, 1] [0, 5, 7, 8, 9, 44, 45, 46]) hn))
  (fun h6 H =>
  eN H fun r hn => gO (sEf 3 h6<|sN<|sN<|sK [0, 1] [0, 5, 7, 8, 9, 44, 45, 46]) hn)))
  (fun h4 H =>
  gN (sEf 3 h4<|sZ) <|
  eIf H (fun h5 H =>
  eIf H (fun h6 H =>
  eL H fun h7 x8 hx8 H =>
  eIf H (fun h9 H =>
  eL H fun h10 x11 hx11 H =>
  eCk H fun h12 H =>
  eN H fun r hn => gO (sEt 3 h5<|sT 7 h6<|sL 14 I h7 hx8<|sEt 15 h9<|sN<|sB h10 hx11<|sW 5 I 0 [I t5] t5 hx11<|sN<|sA 4 I l7 [x3.from_] h12<|sN<|sN<|sK [0, 4] [0, 5, 7, 8, 9, 44, 45, 46]) hn)
  (fun h9 H =>
  eN H fun r hn => gO (sEt 3 h5<|sT 7 h6<|sL 14 I h7 hx8<|sEf 15 h9<|sN<|sN<|sK [0, 1] [0, 5, 7, 8, 9, 44, 45, 46]) hn))
  (fun h6 H =>
  eN H fun r hn => gO (sEt 3 h5<|sF 7 h6<|sN<|sN<|sK [0, 1] [0, 5, 7, 8, 9, 44, 45, 46]) hn))
  (fun h5 H =>
  eN H fun r hn => gO (sEf 3 h5<|sN<|sN<|sK [0, 1] [0, 5, 7, 8, 9, 44, 45, 46]) hn)))
  (fun h1 H =>
  eN H fun r hn => gO (sF 0 h1<|sN<|sN<|sK [0, 1] [0, 5, 7, 8]) hn)
theorem cs_qNet_reach {a0 a1 r} (H : Ds_qNet_reach a0 a1 = some r) : Cc 43 [.fptr 2 [.agg [sl 4 gs_qArc a0.arcs, I a0.places]] 0 0, I a1] (Rs_qNet_reach r) :=
  gF func43 <|
  eCk H fun h1 H =>
  eCk H fun h2 H =>
  gO (sN<|sMk 4 I a0.places (0 : Int) h1 h2<|sN<|sN<|sK [0] [0, 1, 5, 18, 19]) (gW ns_qNet_reach H)
theorem cs_qNet_room {a0 a1 a2 r} (H : Ds_qNet_room a0 a1 a2 = some r) : Cc 68 [.fptr 2 [.agg [sl 4 gs_qArc a0.arcs, I a0.places]] 0 0, I a1, I a2] (RI r) :=
  gF func68 <|
  eL H fun h1 x2 hx2 H =>
  gS (sZ) <|
  eIf H (fun h3 H =>
  eL H fun h4 x5 hx5 H =>
  eL H fun h6 x7 hx7 H =>
  gX RI func68 H (sL 7 gs_qArc h1 hx2<|sEt 9 h3<|sN<|sL 7 gs_qArc h4 hx5<|sL 15 gs_qArc h6 hx7<|sZ))
  (fun h3 H =>
  eL H fun h4 x5 hx5 H =>
  gX RI func68 H (sL 7 gs_qArc h1 hx2<|sEf 9 h3<|sN<|sL 7 gs_qArc h4 hx5<|sZ))
theorem cs_l1Least {a0 a1 r} (H : Ds_l1Least a0 a1 = some r) : Cc 67 [I a0, I a1] (RI r) :=
  gF func67 <|
  gS (sZ) <|
  eIf H (fun h1 H =>
  gX RI func67 H (sT 2 h1<|sN<|sZ))
  (fun h1 H =>
  gX RI func67 H (sF 2 h1<|sN<|sZ))
theorem cs_qNet_other {a0 a1 a2 r} (H : Ds_qNet_other a0 a1 a2 = some r) : Cc 66 [.fptr 2 [.agg [sl 4 gs_qArc a0.arcs, I a0.places]] 0 0, I a1, I a2] (RI r) :=
  gF func66 <|
  eL H fun h1 x2 hx2 H =>
  eL H fun h3 x4 hx4 H =>
  gX RI func66 H (sN<|sL 7 gs_qArc h1 hx2<|sL 15 gs_qArc h3 hx4<|sZ)
def Rs_qNet_fill (r : Int × Gs_qNet) : List D := [I r.1]
def Ns_qNet_fill (r : Int × Gs_qNet) : List Root := [⟨false, true, 2, 1, [.agg [.ref 1 4 none, I r.2.places]]⟩, ⟨false, false, 4, r.2.arcs.length, List.map gs_qArc r.2.arcs⟩]
noncomputable def Ks_qNet_fill : Ss_qNet_fill → List Item
 | .h1 .. => nav 300 2 [] [.code (bdy f42)]
 | .h2 .. => nav 300 7 [true, false] [.code (bdy f42)]
 | .h3 .. => nav 300 9 [true, false, false] [.code (bdy f42)]
def Zs_qNet_fill : Ss_qNet_fill → St
 | .h1 start0 vend1 limit2 total3 b4 l5 => ⟨sts 98 [(0, .ptr 0 2 0 0), (1, I start0), (2, I vend1), (3, I limit2), (9, I total3)], [some ⟨false, true, 2, 1, [.agg [.ref 1 4 none, I b4]]⟩, some ⟨false, false, 4, l5.length, List.map gs_qArc l5⟩]⟩
 | .h2 start0 vend1 limit2 total3 most4 v5 b6 l7 l8 => ⟨sts 98 [(0, .ptr 0 2 0 0), (1, I start0), (2, I vend1), (3, I limit2), (9, I total3), (10, .ref 2 1 none), (11, I most4), (12, I v5)], [some ⟨false, true, 2, 1, [.agg [.ref 1 4 none, I b6]]⟩, some ⟨false, false, 4, l7.length, List.map gs_qArc l7⟩, some ⟨false, false, 1, l8.length, List.map I l8⟩]⟩
 | .h3 start0 vend1 limit2 total3 most4 v5 b6 l7 l8 => ⟨sts 98 [(0, .ptr 0 2 0 0), (1, I start0), (2, I vend1), (3, I limit2), (9, I total3), (10, .ref 2 1 none), (11, I most4), (13, I v5)], [some ⟨false, true, 2, 1, [.agg [.ref 1 4 none, I b6]]⟩, some ⟨false, false, 4, l7.length, List.map gs_qArc l7⟩, some ⟨false, false, 1, l8.length, List.map I l8⟩]⟩
theorem ns_qNet_fill : NxA 42 2 Bs_qNet_fill Ks_qNet_fill Zs_qNet_fill Rs_qNet_fill Ns_qNet_fill
 | .h1 start0 vend1 limit2 total3 b4 l5, o, H =>
  eIf H (fun h1 H =>
  eBind H fun r2 hr2 H =>
  eL H fun h3 x4 hx4 H =>
  gN (sT 2 h1<|sN<|p2 (nfL (List.flatMap D.cells (Rs_qNet_reach r2))) ⟨nfL_map nf_3 _, trivial⟩<|p2 (nfG []) trivial<|p1 (cs_qNet_reach hr2)<|sH ({ i := 2, xtra := [1], call := some { cl := false, auto := true, ins := [], res := (Rs_qNet_reach r2), G' := [] } })<|sZ) <|
  eIf H (fun h5 H =>
  gY func42 H (sL 3 I h3 hx4<|sT 4 h5<|sN<|sZ))
  (fun h5 H =>
  eN H fun r hn => gO (sL 3 I h3 hx4<|sF 4 h5<|sN<|sN<|sN<|sK [0, 1, 2] [0, 1, 2, 3, 9, 10, 11, 12]) hn))
  (fun h1 H =>
  gY func42 H (sF 2 h1<|sN<|sZ))
 | .h2 start0 vend1 limit2 total3 most4 v5 b6 l7 l8, o, H =>
  eIf H (fun h1 H =>
  eN H fun r hn => gO (sNf 2 h1<|sN<|sN<|sK [0, 1, 2] [0, 1, 2, 3, 9, 10, 11, 13]) hn)
  (fun h1 H =>
  eL H fun h2 x3 hx3 H =>
  eBind H fun r4 hr4 H =>
  eBind H fun r5 hr5 H =>
  eL H fun h6 x7 hx7 H =>
  eBind H fun r8 hr8 H =>
  eN H fun r hn => gO (sNt 2 h1<|sN<|sL 5 I h2 hx3<|p1 (cs_qNet_room hr4)<|sH ({ i := 7, xtra := [1], call := some { cl := false, auto := true, ins := [], res := (RI r4), G' := [] } })<|sC 8 (cs_l1Least hr5)<|sN<|sL 4 I h6 hx7<|p1 (cs_qNet_other hr8)<|sH ({ i := 6, xtra := [1], call := some { cl := false, auto := true, ins := [], res := (RI r8), G' := [] } })<|sN<|sK [0, 1, 2] [0, 1, 2, 3, 9, 10, 11, 12]) hn)
 | .h3 start0 vend1 limit2 total3 most4 v5 b6 l7 l8, o, H =>
  eIf H (fun h1 H =>
  eN H fun r hn => gO (sNf 2 h1<|sN<|sN<|sK [0, 1] [0, 1, 2, 3, 9]) hn)
  (fun h1 H =>
  eL H fun h2 x3 hx3 H =>
  eL H fun h4 x5 hx5 H =>
  eL H fun h6 x7 hx7 H =>
  eBind H fun r8 hr8 H =>
  gN (sNt 2 h1<|sN<|sL 7 I h2 hx3<|sB h4 hx5<|sN<|sL 4 I h6 hx7<|p1 (cs_qNet_other hr8)<|sH ({ i := 6, xtra := [1], call := some { cl := false, auto := true, ins := [], res := (RI r8), G' := [] } })<|sZ) <|
  eIf H (fun h9 H =>
  eN H fun r hn => gO (sE 3 gs_qArc hx5<|sEt 5 h9<|sN<|sE 3 gs_qArc hx5<|sW 8 gs_qArc 3 [I (IntKind.wrap .i64 (x5.flow + most4))] (Gs_qArc.mk x5.from_ x5.to_ x5.most (IntKind.wrap .i64 (x5.flow + most4))) hx5<|sN<|sN<|sK [0, 1, 2] [0, 1, 2, 3, 9, 10, 11, 13]) hn)
  (fun h9 H =>
  eN H fun r hn => gO (sE 3 gs_qArc hx5<|sEf 5 h9<|sN<|sE 3 gs_qArc hx5<|sW 8 gs_qArc 3 [I (IntKind.wrap .i64 (x5.flow - most4))] (Gs_qArc.mk x5.from_ x5.to_ x5.most (IntKind.wrap .i64 (x5.flow - most4))) hx5<|sN<|sN<|sK [0, 1, 2] [0, 1, 2, 3, 9, 10, 11, 13]) hn))
theorem cs_qNet_fill {a0 a1 a2 a3 r} (H : Ds_qNet_fill a0 a1 a2 a3 = some r) : Ct X.P X.gl 42 [.ptr 0 2 0 0, I a1, I a2, I a3] [⟨false, true, 2, 1, [.agg [.ref 1 4 none, I a0.places]]⟩, ⟨false, false, 4, a0.arcs.length, List.map gs_qArc a0.arcs⟩] (Rs_qNet_fill r) (Ns_qNet_fill r) :=
  gF func42 <|
  gO (sN<|sN<|sK [0, 1] [0, 1, 2, 3, 9]) (gW ns_qNet_fill H)
theorem cs_qGreatest {a0 a1 a2 a3 r} (H : Ds_qGreatest a0 a1 a2 a3 = some r) : Cc 38 [gi_Lanes a0, I a1, I a2, I a3] (RI r) :=
  gF func38 <|
  eBind H fun r1 hr1 H =>
  eBind H fun r2 hr2 H =>
  eCk H fun h3 H =>
  gX RI func38 H (sN<|sC 4 (cs_qNetOf hr1)<|sN<|p2 (getCells [.agg [ow 4 gs_qArc r1.arcs, I r1.places]] 0 0 1 = some [.list true 4 r1.arcs.length (List.map gs_qArc r1.arcs)]) rfl<|p2 (setCells [.agg [ow 4 gs_qArc r1.arcs, I r1.places]] 0 0 [.ref 2 4 none] = [.agg [.ref 2 4 none, I r1.places]]) rfl<|sM (.bm (.take 1 0 0 4 r1.arcs.length (List.map gs_qArc r1.arcs) [.agg [.ref 2 4 none, I r1.places]]))<|pI (1 : Nat)<|p1 h3<|p1 (cs_qNet_fill hr2)<|sH ({ i := 8, xtra := [2], call := some { cl := true, auto := true, ins := [1, 2], res := (Rs_qNet_fill r2), G' := (Ns_qNet_fill r2) } })<|sZ)
noncomputable def Ks_qPossible : Ss_qPossible → List Item
 | .h1 .. => nav 300 3 [] [.code (bdy f65)]
def Zs_qPossible : Ss_qPossible → St
 | .h1 vfrom0 vto1 days2 t3 t4 t5 b6 b7 l8 => ⟨sts 55 [(1, I vfrom0), (2, I vto1), (3, I days2), (5, .ptr 0 3 0 0), (11, .ptr 1 2 0 0), (19, sl 1 I t3), (20, I t4), (21, I t5)], [some ⟨false, true, 3, 1, [gi_Lanes b6]⟩, some ⟨false, true, 2, 1, [.agg [.ref 2 4 none, I b7]]⟩, some ⟨false, false, 4, l8.length, List.map gs_qArc l8⟩]⟩
theorem ns_qPossible : NxA 65 0 Bs_qPossible Ks_qPossible Zs_qPossible RI (fun _ => [])
 | .h1 vfrom0 vto1 days2 t3 t4 t5 b6 b7 l8, o, H =>
  eIf H (fun h1 H =>
  eL H fun h2 x3 hx3 H =>
  gN (sT 0 h1<|sN<|sL 2 I h2 hx3<|sZ) <|
  eIf H (fun h4 H =>
  eL H fun h5 x6 hx6 H =>
  eBind H fun r7 hr7 H =>
  eL H fun h8 x9 hx9 H =>
  eN H fun r hn => gO (sT 1 h4<|sN<|sL 12 gs_qArc h5 hx6<|sC 14 (cs_l1Least hr7)<|sB h8 hx9<|sW 17 gs_qArc 2 [I r7] (Gs_qArc.mk x9.from_ x9.to_ r7 x9.flow) hx9<|sN<|sN<|sK [0, 1, 2] [1, 2, 3, 5, 11, 19, 20, 21]) hn)
  (fun h4 H =>
  eN H fun r hn => gO (sF 1 h4<|sN<|sN<|sK [0, 1, 2] [1, 2, 3, 5, 11, 19, 20, 21]) hn))
  (fun h1 H =>
  eBind H fun r2 hr2 H =>
  eCk H fun h3 H =>
  gY func65 H (sF 0 h1<|sN<|pI (1 : Nat)<|p1 h3<|p1 (cs_qNet_fill hr2)<|sH ({ i := 8, xtra := [2], call := some { cl := true, auto := true, ins := [1, 2], res := (Rs_qNet_fill r2), G' := (Ns_qNet_fill r2) } })<|sZ))
theorem cs_qPossible {a0 a1 a2 a3 a4 r} (H : Ds_qPossible a0 a1 a2 a3 a4 = some r) : Cc 65 [gi_Lanes a0, I a1, I a2, I a3, sl 1 I a4] (RI r) :=
  gF func65 <|
  eBind H fun r1 hr1 H =>
  gO (sN<|sC 4 (cs_qNetOf hr1)<|sN<|p2 (getCells [.agg [ow 4 gs_qArc r1.arcs, I r1.places]] 0 0 1 = some [.list true 4 r1.arcs.length (List.map gs_qArc r1.arcs)]) rfl<|p2 (setCells [.agg [ow 4 gs_qArc r1.arcs, I r1.places]] 0 0 [.ref 2 4 none] = [.agg [.ref 2 4 none, I r1.places]]) rfl<|sM (.bm (.take 1 0 0 4 r1.arcs.length (List.map gs_qArc r1.arcs) [.agg [.ref 2 4 none, I r1.places]]))<|sN<|sK [0, 1, 2] [1, 2, 3, 5, 11, 19, 20, 21]) (gW ns_qPossible H)
def Rs_qLeast (r : (List Int)) : List D := [ow 1 I r]
noncomputable def Ks_qLeast : Ss_qLeast → List Item
 | .h1 .. => nav 300 6 [] [.code (bdy f37)]
 | .h2 .. => nav 300 8 [false] [.code (bdy f37)]
 | .h3 .. => nav 300 11 [false, true, false] [.code (bdy f37)]
def Zs_qLeast : Ss_qLeast → St
 | .h1 vfrom0 vto1 days2 want3 count4 t5 t6 b7 l8 l9 => ⟨sts 103 [(1, I vfrom0), (2, I vto1), (3, I days2), (4, .ptr 0 3 0 0), (9, I want3), (10, I count4), (11, .ref 1 1 none), (12, .ref 2 1 none), (34, I t5), (35, I t6)], [some ⟨false, true, 3, 1, [gi_Lanes b7]⟩, some ⟨false, false, 1, l8.length, List.map I l8⟩, some ⟨false, false, 1, l9.length, List.map I l9⟩]⟩
 | .h2 vfrom0 vto1 days2 want3 count4 i5 b6 l7 l8 => ⟨sts 103 [(1, I vfrom0), (2, I vto1), (3, I days2), (4, .ptr 0 3 0 0), (9, I want3), (10, I count4), (11, .ref 1 1 none), (12, .ref 2 1 none), (14, I i5)], [some ⟨false, true, 3, 1, [gi_Lanes b6]⟩, some ⟨false, false, 1, l7.length, List.map I l7⟩, some ⟨false, false, 1, l8.length, List.map I l8⟩]⟩
 | .h3 vfrom0 vto1 days2 want3 count4 i5 lo6 vhi7 b8 l9 l10 => ⟨sts 103 [(1, I vfrom0), (2, I vto1), (3, I days2), (4, .ptr 0 3 0 0), (9, I want3), (10, I count4), (11, .ref 1 1 none), (12, .ref 2 1 none), (14, I i5), (15, I lo6), (16, I vhi7)], [some ⟨false, true, 3, 1, [gi_Lanes b8]⟩, some ⟨false, false, 1, l9.length, List.map I l9⟩, some ⟨false, false, 1, l10.length, List.map I l10⟩]⟩
theorem ns_qLeast : NxA 37 0 Bs_qLeast Ks_qLeast Zs_qLeast Rs_qLeast (fun _ => [])
 | .h1 vfrom0 vto1 days2 want3 count4 t5 t6 b7 l8 l9, o, H =>
  eIf H (fun h1 H =>
  eL H fun h2 x3 hx3 H =>
  eN H fun r hn => gO (sT 0 h1<|sN<|sN<|sB h2 hx3<|sW 3 I 0 [I (-1)] (-1) hx3<|sN<|sN<|sK [0, 1, 2] [1, 2, 3, 4, 9, 10, 11, 12, 34, 35]) hn)
  (fun h1 H =>
  eN H fun r hn => gO (sF 0 h1<|sN<|sN<|sK [0, 1, 2] [1, 2, 3, 4, 9, 10, 11, 12, 14]) hn)
 | .h2 vfrom0 vto1 days2 want3 count4 i5 b6 l7 l8, o, H =>
  eIf H (fun h1 H =>
  eCk H fun h2 H =>
  gN (sT 2 h1<|sZ) <|
  let s1 := fun s => p2 (¬ ((IntKind.wrap .i64 (((b6.Lanes.length : Nat) : Int) + b6.Depots)) : Int) = 0) h2<|s
  eIf H (fun h3 H =>
  eN H fun r hn => gO (s1<|sT 11 h3<|sN<|sN<|sK [0, 1, 2] [1, 2, 3, 4, 9, 10, 11, 12, 14]) hn)
  (fun h3 H =>
  eCk H fun h4 H =>
  eL H fun h5 x6 hx6 H =>
  eN H fun r hn => gO (s1<|sF 11 h3<|sN<|p2 (¬ ((IntKind.wrap .i64 (((b6.Lanes.length : Nat) : Int) + b6.Depots)) : Int) = 0) h4<|sL 12 gi_Lane h5 hx6<|sN<|sK [0, 1, 2] [1, 2, 3, 4, 9, 10, 11, 12, 14, 15, 16]) hn))
  (fun h1 H =>
  gY func37 H (sF 2 h1<|sN<|sZ))
 | .h3 vfrom0 vto1 days2 want3 count4 i5 lo6 vhi7 b8 l9 l10, o, H =>
  eIf H (fun h1 H =>
  eL H fun h2 x3 hx3 H =>
  eBind H fun r4 hr4 H =>
  gN (sT 2 h1<|sN<|p2 (¬ (2 : Int) = 0) (by decide)<|sN<|sB h2 hx3<|sW 4 I 0 [I (IntKind.wrap .i64 (Int.tdiv (IntKind.wrap .i64 (lo6 + vhi7)) 2))] (IntKind.wrap .i64 (Int.tdiv (IntKind.wrap .i64 (lo6 + vhi7)) 2)) hx3<|sZ) <|
  eIf H (fun h5 H =>
  eN H fun r hn => gO (sCk 5 false [] (cs_qPossible hr4)<|sT 7 h5<|sN<|sN<|sK [0, 1, 2] [1, 2, 3, 4, 9, 10, 11, 12, 14, 15, 16]) hn)
  (fun h5 H =>
  eN H fun r hn => gO (sCk 5 false [] (cs_qPossible hr4)<|sF 7 h5<|sN<|sN<|sK [0, 1, 2] [1, 2, 3, 4, 9, 10, 11, 12, 14, 15, 16]) hn))
  (fun h1 H =>
  eL H fun h2 x3 hx3 H =>
  eCk H fun h4 H =>
  eN H fun r hn => gO (sF 2 h1<|sN<|sB h2 hx3<|sW 4 I 0 [I lo6] lo6 hx3<|sN<|sA 3 I l10 [lo6] h4<|sN<|sN<|sK [0, 1, 4] [1, 2, 3, 4, 9, 10, 11, 12, 14]) hn)
theorem cs_qLeast {a0 a1 a2 a3 r} (H : Ds_qLeast a0 a1 a2 a3 = some r) : Cc 37 [gi_Lanes a0, I a1, I a2, I a3] (Rs_qLeast r) :=
  gF func37 <|
  eBind H fun r1 hr1 H =>
  eCk H fun h2 H =>
  eCk H fun h3 H =>
  gO (sN<|sC 4 (cs_qGreatest hr1)<|sN<|sN<|sMk 1 I (IntKind.wrap .i64 (a3 * (IntKind.wrap .i64 (((a0.Lanes.length : Nat) : Int) + a0.Depots)))) (0 : Int) h2 h3<|sN<|sN<|sN<|sM (.own 12 1)<|sK [0, 1, 2] [1, 2, 3, 4, 9, 10, 11, 12, 34, 35]) (gW ns_qLeast H)
def Rs_DeliveryPlan (r : (List Gi_Convoy) × Bool) : List D := [ow 3 gi_Convoy r.1, .bool r.2]
noncomputable def Ks_DeliveryPlan : Ss_DeliveryPlan → List Item
 | .h1 .. => nav 300 4 [false] [.code (bdy f8)]
def Zs_DeliveryPlan : Ss_DeliveryPlan → St
 | .h1 t0 t1 b2 l3 l4 => ⟨sts 49 [(4, .ptr 0 3 0 0), (10, .ref 1 3 none), (23, .ref 2 1 none), (24, I t0), (25, I t1)], [some ⟨false, true, 3, 1, [gi_Lanes b2]⟩, some ⟨false, false, 3, l3.length, List.map gi_Convoy l3⟩, some ⟨false, false, 1, l4.length, List.map I l4⟩]⟩
theorem ns_DeliveryPlan : NxA 8 0 Bs_DeliveryPlan Ks_DeliveryPlan Zs_DeliveryPlan Rs_DeliveryPlan (fun _ => [])
 | .h1 t0 t1 b2 l3 l4, o, H =>
  eIf H (fun h1 H =>
  eL H fun h2 x3 hx3 H =>
  gN (sT 0 h1<|sN<|sL 2 I h2 hx3<|sZ) <|
  eIf H (fun h4 H =>
  eCk H fun h5 H =>
  eCk H fun h6 H =>
  eCk H fun h7 H =>
  eN H fun r hn => gO (sT 1 h4<|sN<|p2 (¬ (((b2.Lanes.length : Nat) : Int) : Int) = 0) h5<|p2 (¬ (((b2.Lanes.length : Nat) : Int) : Int) = 0) h6<|sA 14 gi_Convoy l3 [(Gi_Convoy.mk (IntKind.wrap .i64 (Int.tdiv t1 ((b2.Lanes.length : Nat) : Int))) (Int.tmod t1 ((b2.Lanes.length : Nat) : Int)) x3)] h7<|sN<|sN<|sK [0, 4, 2] [4, 10, 23, 24, 25]) hn)
  (fun h4 H =>
  eN H fun r hn => gO (sF 1 h4<|sN<|sN<|sK [0, 1, 2] [4, 10, 23, 24, 25]) hn))
  (fun h1 H =>
  gY func8 H (sF 0 h1<|sN<|sZ))
theorem cs_DeliveryPlan {a0 a1 a2 a3 r} (H : Ds_DeliveryPlan a0 a1 a2 a3 = some r) : Cc 8 [gi_Lanes a0, I a1, I a2, I a3] (Rs_DeliveryPlan r) :=
  gF func8 <|
  eBind H fun r1 hr1 H =>
  gS (sZ) <|
  eIf H (fun h2 H =>
  eBind H fun r3 hr3 H =>
  gO (sCt 4 (cs_qAsked hr1) h2<|sN<|sN<|sC 4 (cs_qLeast hr3)<|sN<|sM (.own 10 3)<|sK [0, 2, 1] [4, 10, 23, 24, 25]) (gW ns_DeliveryPlan H))
  (fun h2 H =>
  gX Rs_DeliveryPlan func8 H (sCf 4 (cs_qAsked hr1) h2<|sN<|sZ))
def Ri_GreatestDelivery (r : Int × Bool) : List D := [I r.1, .bool r.2]
theorem ci_GreatestDelivery {a0 a1 a2 a3 r} (H : Di_GreatestDelivery a0 a1 a2 a3 = some r) : Cc 9 [gi_Lanes a0, I a1, I a2, I a3] (Ri_GreatestDelivery r) :=
  gF func9 <|
  eBind H fun r1 hr1 H =>
  gS (sZ) <|
  eIf H (fun h2 H =>
  eBind H fun r3 hr3 H =>
  gX Ri_GreatestDelivery func9 H (sCt 4 (ci_isTransport hr1) h2<|sN<|sC 4 (ci_delivered hr3)<|sN<|p2 (getCells [.agg [I r3.1.places, ow 5 gi_arc r3.1.arcs]] 0 1 1 = some [.list true 5 r3.1.arcs.length (List.map gi_arc r3.1.arcs)]) rfl<|p2 (setCells [.agg [I r3.1.places, ow 5 gi_arc r3.1.arcs]] 0 1 [.ref 2 5 none] = [.agg [I r3.1.places, .ref 2 5 none]]) rfl<|sM (.bm (.take 1 0 1 5 r3.1.arcs.length (List.map gi_arc r3.1.arcs) [.agg [I r3.1.places, .ref 2 5 none]]))<|sZ))
  (fun h2 H =>
  gX Ri_GreatestDelivery func9 H (sCf 4 (ci_isTransport hr1) h2<|sN<|sZ))
def Rs_GreatestDelivery (r : Int × Bool) : List D := [I r.1, .bool r.2]
theorem cs_GreatestDelivery {a0 a1 a2 a3 r} (H : Ds_GreatestDelivery a0 a1 a2 a3 = some r) : Cc 10 [gi_Lanes a0, I a1, I a2, I a3] (Rs_GreatestDelivery r) :=
  gF func10 <|
  eBind H fun r1 hr1 H =>
  gS (sZ) <|
  eIf H (fun h2 H =>
  eBind H fun r3 hr3 H =>
  gX Rs_GreatestDelivery func10 H (sCt 4 (cs_qAsked hr1) h2<|sN<|sC 4 (cs_qGreatest hr3)<|sZ))
  (fun h2 H =>
  gX Rs_GreatestDelivery func10 H (sCf 4 (cs_qAsked hr1) h2<|sN<|sZ))
noncomputable def Kw_pSameConvoys : Sw_pSameConvoys → List Item
 | .h1 .. => nav 300 3 [false] [.code (bdy f11)]
def Zw_pSameConvoys : Sw_pSameConvoys → St
 | .h1 va0 b1 t2 t3 => ⟨sts 26 [(0, sl 3 gi_Convoy va0), (1, sl 3 gi_Convoy b1), (12, I t2), (13, I t3)], []⟩
theorem nw_pSameConvoys : NxA 11 0 Bw_pSameConvoys Kw_pSameConvoys Zw_pSameConvoys RB (fun _ => [])
 | .h1 va0 b1 t2 t3, o, H =>
  eIf H (fun h1 H =>
  eL H fun h2 x3 hx3 H =>
  eL H fun h4 x5 hx5 H =>
  gN (sT 0 h1<|sN<|sZ) <|
  let s1 := fun s => sL 3 gi_Convoy h2 hx3<|sL 7 gi_Convoy h4 hx5<|s
  eIf H (fun h6 H =>
  gY func11 H (s1<|sBt 8 h6<|sN<|sZ))
  (fun h6 H =>
  eN H fun r hn => gO (s1<|sBf 8 h6<|sN<|sN<|sK [] [0, 1, 12, 13]) hn))
  (fun h1 H =>
  gY func11 H (sF 0 h1<|sN<|sZ))
theorem cw_pSameConvoys {a0 a1 r} (H : Dw_pSameConvoys a0 a1 = some r) : Cc 11 [sl 3 gi_Convoy a0, sl 3 gi_Convoy a1] (RB r) :=
  gF func11 <|
  gS (sZ) <|
  eIf H (fun h1 H =>
  gO (sNf 4 h1<|sN<|sN<|sK [] [0, 1, 12, 13]) (gW nw_pSameConvoys H))
  (fun h1 H =>
  gX RB func11 H (sNt 4 h1<|sN<|sZ))
noncomputable def Ki_goodConvoys : Si_goodConvoys → List Item
 | .h1 .. => nav 300 2 [] [.code (bdy f39)]
def Zi_goodConvoys : Si_goodConvoys → St
 | .h1 days0 l1 t2 t3 t4 b5 => ⟨sts 79 [(1, I days0), (2, sl 3 gi_Convoy l1), (3, .ptr 0 3 0 0), (9, sl 3 gi_Convoy t2), (10, I t3), (11, I t4)], [some ⟨false, true, 3, 1, [gi_Lanes b5]⟩]⟩
theorem ni_goodConvoys : NxA 39 0 Bi_goodConvoys Ki_goodConvoys Zi_goodConvoys RB (fun _ => [])
 | .h1 days0 l1 t2 t3 t4 b5, o, H =>
  eIf H (fun h1 H =>
  eL H fun h2 x3 hx3 H =>
  eBind H fun r4 hr4 H =>
  gN (sT 0 h1<|sN<|sL 2 gi_Convoy h2 hx3<|sZ) <|
  eIf H (fun h5 H =>
  eBind H fun r6 hr6 H =>
  let s1 := fun s => sCt 3 (ci_isIndex hr4) h5<|s
  eIf H (fun h7 H =>
  eL H fun h8 x9 hx9 H =>
  eBind H fun r10 hr10 H =>
  let s2 := fun s => s1<|sCt 11 (ci_isIndex hr6) h7<|sL 23 gi_Lane h8 hx9<|s
  eIf H (fun h11 H =>
  gN (s2<|sCt 24 (ci_inRange hr10) h11<|sZ) <|
  eIf H (fun h12 H =>
  eL H fun h13 x14 hx14 H =>
  let s3 := fun s => sT 1 h12<|sL 8 gi_Convoy h13 hx14<|s
  eIf H (fun h15 H =>
  gY func39 H (s3<|sT 11 h15<|sN<|sZ))
  (fun h15 H =>
  eL H fun h16 x17 hx17 H =>
  let s4 := fun s => s3<|sF 11 h15<|sL 18 gi_Convoy h16 hx17<|s
  eIf H (fun h18 H =>
  eL H fun h19 x20 hx20 H =>
  eIf H (fun h21 H =>
  gY func39 H (s4<|sEt 21 h18<|sL 28 gi_Convoy h19 hx20<|sT 31 h21<|sN<|sZ))
  (fun h21 H =>
  eN H fun r hn => gO (s4<|sEt 21 h18<|sL 28 gi_Convoy h19 hx20<|sF 31 h21<|sN<|sN<|sK [0] [1, 2, 3, 9, 10, 11]) hn))
  (fun h18 H =>
  eN H fun r hn => gO (s4<|sEf 21 h18<|sN<|sN<|sK [0] [1, 2, 3, 9, 10, 11]) hn)))
  (fun h12 H =>
  eN H fun r hn => gO (sF 1 h12<|sN<|sN<|sK [0] [1, 2, 3, 9, 10, 11]) hn))
  (fun h11 H =>
  gY func39 H (s2<|sCf 24 (ci_inRange hr10) h11<|sN<|sZ)))
  (fun h7 H =>
  gY func39 H (s1<|sCf 11 (ci_isIndex hr6) h7<|sN<|sZ)))
  (fun h5 H =>
  gY func39 H (sCf 3 (ci_isIndex hr4) h5<|sN<|sZ)))
  (fun h1 H =>
  gY func39 H (sF 0 h1<|sN<|sZ))
theorem ci_goodConvoys {a0 a1 a2 r} (H : Di_goodConvoys a0 a1 a2 = some r) : Cc 39 [gi_Lanes a0, I a1, sl 3 gi_Convoy a2] (RB r) :=
  gF func39 <|
  gO (sN<|sN<|sK [0] [1, 2, 3, 9, 10, 11]) (gW ni_goodConvoys H)
def Ri_CheckConvoys (r : Int × Int × Bool) : List D := [I r.1, I r.2.1, .bool r.2.2]
noncomputable def Ki_CheckConvoys : Si_CheckConvoys → List Item
 | .h1 .. => nav 300 5 [false, false] [.code (bdy f12)]
 | .h2 .. => nav 300 9 [false, false, true] [.code (bdy f12)]
 | .h3 .. => nav 300 11 [false, false, true, false] [.code (bdy f12)]
def Zi_CheckConvoys : Si_CheckConvoys → St
 | .h1 vfrom0 vto1 l2 t3 t4 b5 l6 => ⟨sts 129 [(1, I vfrom0), (2, I vto1), (4, sl 3 gi_Convoy l2), (5, .ptr 0 3 0 0), (13, .ref 1 1 none), (39, I t3), (40, I t4)], [some ⟨false, true, 3, 1, [gi_Lanes b5]⟩, some ⟨false, false, 1, l6.length, List.map I l6⟩]⟩
 | .h2 vfrom0 vto1 l2 d3 t4 t5 t6 t7 t8 b9 l10 l11 => ⟨sts 129 [(1, I vfrom0), (2, I vto1), (4, sl 3 gi_Convoy l2), (5, .ptr 0 3 0 0), (13, .ref 1 1 none), (14, I d3), (15, .ref 2 1 none), (39, I t4), (40, I t5), (46, sl 3 gi_Convoy t6), (47, I t7), (48, I t8)], [some ⟨false, true, 3, 1, [gi_Lanes b9]⟩, some ⟨false, false, 1, l10.length, List.map I l10⟩, some ⟨false, false, 1, l11.length, List.map I l11⟩]⟩
 | .h3 vfrom0 vto1 l2 t3 t4 t5 t6 b7 l8 l9 => ⟨sts 129 [(1, I vfrom0), (2, I vto1), (4, sl 3 gi_Convoy l2), (5, .ptr 0 3 0 0), (13, .ref 1 1 none), (15, .ref 2 1 none), (39, I t3), (40, I t4), (85, .ref 1 1 none), (86, I t5), (87, I t6)], [some ⟨false, true, 3, 1, [gi_Lanes b7]⟩, some ⟨false, false, 1, l8.length, List.map I l8⟩, some ⟨false, false, 1, l9.length, List.map I l9⟩]⟩
theorem ni_CheckConvoys : NxA 12 0 Bi_CheckConvoys Ki_CheckConvoys Zi_CheckConvoys Ri_CheckConvoys (fun _ => [])
 | .h1 vfrom0 vto1 l2 t3 t4 b5 l6, o, H =>
  eIf H (fun h1 H =>
  eCk H fun h2 H =>
  eCk H fun h3 H =>
  eN H fun r hn => gO (sT 0 h1<|sN<|sN<|sMk 2 I b5.Depots (0 : Int) h2 h3<|sN<|sN<|sK [0, 1, 2] [1, 2, 4, 5, 13, 14, 15, 39, 40, 46, 47, 48]) hn)
  (fun h1 H =>
  eL H fun h2 x3 hx3 H =>
  gY func12 H (sF 0 h1<|sN<|sL 3 I h2 hx3<|sZ))
 | .h2 vfrom0 vto1 l2 d3 t4 t5 t6 t7 t8 b9 l10 l11, o, H =>
  eIf H (fun h1 H =>
  eL H fun h2 x3 hx3 H =>
  gN (sT 0 h1<|sN<|sL 1 gi_Convoy h2 hx3<|sZ) <|
  eIf H (fun h4 H =>
  eL H fun h5 x6 hx6 H =>
  eL H fun h7 x8 hx8 H =>
  eL H fun h9 x10 hx10 H =>
  eL H fun h11 x12 hx12 H =>
  eL H fun h13 x14 hx14 H =>
  eL H fun h15 x16 hx16 H =>
  eN H fun r hn => gO (sEt 3 h4<|sN<|sL 7 gi_Lane h5 hx6<|sL 9 I h7 hx8<|sB h9 hx10<|sW 14 I 0 [I (IntKind.wrap .i64 (x8 - x3.Load))] (IntKind.wrap .i64 (x8 - x3.Load)) hx10<|sN<|sL 7 gi_Lane h11 hx12<|sL 9 I h13 hx14<|sB h15 hx16<|sW 14 I 0 [I (IntKind.wrap .i64 (x14 + x3.Load))] (IntKind.wrap .i64 (x14 + x3.Load)) hx16<|sN<|sN<|sK [0, 1, 2] [1, 2, 4, 5, 13, 14, 15, 39, 40, 46, 47, 48]) hn)
  (fun h4 H =>
  eN H fun r hn => gO (sEf 3 h4<|sN<|sN<|sK [0, 1, 2] [1, 2, 4, 5, 13, 14, 15, 39, 40, 46, 47, 48]) hn))
  (fun h1 H =>
  eN H fun r hn => gO (sF 0 h1<|sN<|sN<|sK [0, 1, 2] [1, 2, 4, 5, 13, 15, 39, 40, 85, 86, 87]) hn)
 | .h3 vfrom0 vto1 l2 t3 t4 t5 t6 b7 l8 l9, o, H =>
  eIf H (fun h1 H =>
  eL H fun h2 x3 hx3 H =>
  gN (sT 0 h1<|sN<|sL 2 I h2 hx3<|sZ) <|
  eIf H (fun h4 H =>
  eL H fun h5 x6 hx6 H =>
  eL H fun h7 x8 hx8 H =>
  eL H fun h9 x10 hx10 H =>
  eN H fun r hn => gO (sNf 2 h4<|sN<|sL 3 I h5 hx6<|sL 7 I h7 hx8<|sB h9 hx10<|sW 10 I 0 [I (IntKind.wrap .i64 (x6 + x8))] (IntKind.wrap .i64 (x6 + x8)) hx10<|sN<|sN<|sK [0, 1, 2] [1, 2, 4, 5, 13, 15, 39, 40, 85, 86, 87]) hn)
  (fun h4 H =>
  eIf H (fun h5 H =>
  gY func12 H (sNt 2 h4<|sT 5 h5<|sN<|sZ))
  (fun h5 H =>
  eIf H (fun h6 H =>
  eL H fun h7 x8 hx8 H =>
  eL H fun h9 x10 hx10 H =>
  eL H fun h11 x12 hx12 H =>
  eN H fun r hn => gO (sNt 2 h4<|sF 5 h5<|sNf 9 h6<|sN<|sL 3 I h7 hx8<|sL 7 I h9 hx10<|sB h11 hx12<|sW 10 I 0 [I (IntKind.wrap .i64 (x8 + x10))] (IntKind.wrap .i64 (x8 + x10)) hx12<|sN<|sN<|sK [0, 1, 2] [1, 2, 4, 5, 13, 15, 39, 40, 85, 86, 87]) hn)
  (fun h6 H =>
  eL H fun h7 x8 hx8 H =>
  eIf H (fun h9 H =>
  gY func12 H (sNt 2 h4<|sF 5 h5<|sNt 9 h6<|sL 16 I h7 hx8<|sT 17 h9<|sN<|sZ))
  (fun h9 H =>
  eL H fun h10 x11 hx11 H =>
  eL H fun h12 x13 hx13 H =>
  eL H fun h14 x15 hx15 H =>
  eN H fun r hn => gO (sNt 2 h4<|sF 5 h5<|sNt 9 h6<|sL 16 I h7 hx8<|sF 17 h9<|sN<|sL 3 I h10 hx11<|sL 7 I h12 hx13<|sB h14 hx15<|sW 10 I 0 [I (IntKind.wrap .i64 (x11 + x13))] (IntKind.wrap .i64 (x11 + x13)) hx15<|sN<|sN<|sK [0, 1, 2] [1, 2, 4, 5, 13, 15, 39, 40, 85, 86, 87]) hn)))))
  (fun h1 H =>
  eN H fun r hn => gO (sF 0 h1<|sN<|sN<|sK [0, 1] [1, 2, 4, 5, 13, 39, 40]) hn)
theorem ci_CheckConvoys {a0 a1 a2 a3 a4 r} (H : Di_CheckConvoys a0 a1 a2 a3 a4 = some r) : Cc 12 [gi_Lanes a0, I a1, I a2, I a3, sl 3 gi_Convoy a4] (Ri_CheckConvoys r) :=
  gF func12 <|
  eBind H fun r1 hr1 H =>
  gS (sZ) <|
  eIf H (fun h2 H =>
  let s1 := fun s => sCt 4 (ci_isTransport hr1) h2<|s
  eIf H (fun h3 H =>
  gX Ri_CheckConvoys func12 H (s1<|sT 9 h3<|sN<|sZ))
  (fun h3 H =>
  eBind H fun r4 hr4 H =>
  gS (s1<|sF 9 h3<|sZ) <|
  eIf H (fun h5 H =>
  eCk H fun h6 H =>
  eCk H fun h7 H =>
  gO (sCt 3 (ci_goodConvoys hr4) h5<|sN<|sMk 2 I a0.Depots (0 : Int) h6 h7<|sN<|sN<|sK [0, 1] [1, 2, 4, 5, 13, 39, 40]) (gW ni_CheckConvoys H))
  (fun h5 H =>
  gX Ri_CheckConvoys func12 H (sCf 3 (ci_goodConvoys hr4) h5<|sN<|sZ))))
  (fun h2 H =>
  gX Ri_CheckConvoys func12 H (sCf 4 (ci_isTransport hr1) h2<|sN<|sZ))
def Ri_DeliveryCut (r : (List Int) × Bool) : List D := [ow 1 I r.1, .bool r.2]
noncomputable def Ki_DeliveryCut : Si_DeliveryCut → List Item
 | .h1 .. => nav 300 5 [false] [.code (bdy f13)]
def Zi_DeliveryCut : Si_DeliveryCut → St
 | .h1 t0 t1 l2 l3 => ⟨sts 47 [(12, .ref 0 1 none), (32, .ref 1 3 none), (33, I t0), (34, I t1)], [some ⟨false, false, 1, l2.length, List.map I l2⟩, some ⟨false, false, 3, l3.length, List.map gi_visit l3⟩]⟩
theorem ni_DeliveryCut : NxA 13 0 Bi_DeliveryCut Ki_DeliveryCut Zi_DeliveryCut Ri_DeliveryCut (fun _ => [])
 | .h1 t0 t1 l2 l3, o, H =>
  eIf H (fun h1 H =>
  eL H fun h2 x3 hx3 H =>
  gN (sT 0 h1<|sN<|sL 2 gi_visit h2 hx3<|sZ) <|
  eIf H (fun h4 H =>
  eCk H fun h5 H =>
  eN H fun r hn => gO (sBt 1 h4<|sN<|sA 3 I l2 [t1] h5<|sN<|sN<|sK [4, 1] [12, 32, 33, 34]) hn)
  (fun h4 H =>
  eN H fun r hn => gO (sBf 1 h4<|sN<|sN<|sK [0, 1] [12, 32, 33, 34]) hn))
  (fun h1 H =>
  gY func13 H (sF 0 h1<|sN<|sZ))
theorem ci_DeliveryCut {a0 a1 a2 a3 r} (H : Di_DeliveryCut a0 a1 a2 a3 = some r) : Cc 13 [gi_Lanes a0, I a1, I a2, I a3] (Ri_DeliveryCut r) :=
  gF func13 <|
  eBind H fun r1 hr1 H =>
  gS (sZ) <|
  eIf H (fun h2 H =>
  eBind H fun r3 hr3 H =>
  eBind H fun r4 hr4 H =>
  gO (sCt 4 (ci_isTransport hr1) h2<|sN<|sC 4 (ci_delivered hr3)<|sN<|p2 (getCells [.agg [I r3.1.places, ow 5 gi_arc r3.1.arcs]] 0 1 1 = some [.list true 5 r3.1.arcs.length (List.map gi_arc r3.1.arcs)]) rfl<|p2 (setCells [.agg [I r3.1.places, ow 5 gi_arc r3.1.arcs]] 0 1 [.ref 2 5 none] = [.agg [I r3.1.places, .ref 2 5 none]]) rfl<|sM (.bm (.take 1 0 1 5 r3.1.arcs.length (List.map gi_arc r3.1.arcs) [.agg [I r3.1.places, .ref 2 5 none]]))<|sN<|p2 (nfL (List.flatMap D.cells (Ri_network_search r4))) ⟨nfL_map nf_73 _, trivial⟩<|p2 (nfG []) trivial<|p1 (ci_network_search hr4)<|sH ({ i := 2, xtra := [2], call := some { cl := false, auto := true, ins := [], res := (Ri_network_search r4), G' := [] } })<|sN<|sK [3, 4] [12, 32, 33, 34]) (gW ni_DeliveryCut H))
  (fun h2 H =>
  gX Ri_DeliveryCut func13 H (sCf 4 (ci_isTransport hr1) h2<|sN<|sZ))
def Rs_DeliveryCut (r : (List Int) × Bool) : List D := [ow 1 I r.1, .bool r.2]
noncomputable def Ks_DeliveryCut : Ss_DeliveryCut → List Item
 | .h1 .. => nav 300 6 [false] [.code (bdy f14)]
def Zs_DeliveryCut : Ss_DeliveryCut → St
 | .h1 t0 t1 l2 l3 => ⟨sts 51 [(11, .ref 0 1 none), (36, .ref 1 1 none), (37, I t0), (38, I t1)], [some ⟨false, false, 1, l2.length, List.map I l2⟩, some ⟨false, false, 1, l3.length, List.map I l3⟩]⟩
theorem ns_DeliveryCut : NxA 14 0 Bs_DeliveryCut Ks_DeliveryCut Zs_DeliveryCut Rs_DeliveryCut (fun _ => [])
 | .h1 t0 t1 l2 l3, o, H =>
  eIf H (fun h1 H =>
  eL H fun h2 x3 hx3 H =>
  gN (sT 0 h1<|sN<|sL 2 I h2 hx3<|sZ) <|
  eIf H (fun h4 H =>
  eN H fun r hn => gO (sNf 1 h4<|sN<|sN<|sK [0, 1] [11, 36, 37, 38]) hn)
  (fun h4 H =>
  eCk H fun h5 H =>
  eN H fun r hn => gO (sNt 1 h4<|sN<|sA 3 I l2 [t1] h5<|sN<|sN<|sK [3, 1] [11, 36, 37, 38]) hn))
  (fun h1 H =>
  gY func14 H (sF 0 h1<|sN<|sZ))
theorem cs_DeliveryCut {a0 a1 a2 a3 r} (H : Ds_DeliveryCut a0 a1 a2 a3 = some r) : Cc 14 [gi_Lanes a0, I a1, I a2, I a3] (Rs_DeliveryCut r) :=
  gF func14 <|
  eBind H fun r1 hr1 H =>
  gS (sZ) <|
  eIf H (fun h2 H =>
  eBind H fun r3 hr3 H =>
  eBind H fun r4 hr4 H =>
  eL H fun h5 r6 hr6 H =>
  gO (sCt 4 (cs_qAsked hr1) h2<|sN<|sC 4 (cs_qNetOf hr3)<|sN<|p2 (getCells [.agg [ow 4 gs_qArc r3.arcs, I r3.places]] 0 0 1 = some [.list true 4 r3.arcs.length (List.map gs_qArc r3.arcs)]) rfl<|p2 (setCells [.agg [ow 4 gs_qArc r3.arcs, I r3.places]] 0 0 [.ref 2 4 none] = [.agg [.ref 2 4 none, I r3.places]]) rfl<|sM (.bm (.take 1 0 0 4 r3.arcs.length (List.map gs_qArc r3.arcs) [.agg [.ref 2 4 none, I r3.places]]))<|pI (1 : Nat)<|p1 h5<|p1 (cs_qNet_fill hr4)<|sH ({ i := 8, xtra := [2], call := some { cl := true, auto := true, ins := [1, 2], res := (Rs_qNet_fill r4), G' := (Ns_qNet_fill r4) } })<|sN<|sN<|p2 (nfL (List.flatMap D.cells (Rs_qNet_reach r6))) ⟨nfL_map nf_3 _, trivial⟩<|p2 (nfG []) trivial<|p1 (cs_qNet_reach hr6)<|sH ({ i := 2, xtra := [2], call := some { cl := false, auto := true, ins := [], res := (Rs_qNet_reach r6), G' := [] } })<|sN<|sM (.own 11 1)<|sK [4, 3] [11, 36, 37, 38]) (gW ns_DeliveryCut H))
  (fun h2 H =>
  gX Rs_DeliveryCut func14 H (sCf 4 (cs_qAsked hr1) h2<|sN<|sZ))
noncomputable def Ki_increasing : Si_increasing → List Item
 | .h1 .. => nav 300 2 [] [.code (bdy f45)]
def Zi_increasing : Si_increasing → St
 | .h1 list0 i1 => ⟨sts 20 [(0, sl 1 I list0), (3, I i1)], []⟩
theorem ni_increasing : NxA 45 0 Bi_increasing Ki_increasing Zi_increasing RB (fun _ => [])
 | .h1 list0 i1, o, H =>
  eIf H (fun h1 H =>
  eL H fun h2 x3 hx3 H =>
  eL H fun h4 x5 hx5 H =>
  gN (sT 3 h1<|sZ) <|
  eIf H (fun h6 H =>
  gY func45 H (sL 4 I h2 hx3<|sL 8 I h4 hx5<|sT 9 h6<|sN<|sZ))
  (fun h6 H =>
  eN H fun r hn => gO (sL 4 I h2 hx3<|sL 8 I h4 hx5<|sF 9 h6<|sN<|sN<|sK [] [0, 3]) hn))
  (fun h1 H =>
  gY func45 H (sF 3 h1<|sN<|sZ))
theorem ci_increasing {a0 r} (H : Di_increasing a0 = some r) : Cc 45 [sl 1 I a0] (RB r) :=
  gF func45 <|
  gO (sN<|sN<|sK [] [0, 3]) (gW ni_increasing H)
theorem ci_CutLoad_1 {a0 a1 a2 r} (H : Di_CutLoad_1 a0 a1 a2 = some r) : Cc 47 [I a0, .fptr 1 [.agg [I a1]] 0 0, .fptr 3 [.agg [I a2.Depots, sl 3 gi_Lane a2.Lanes, sl 1 I a2.Stores]] 0 0] (RB r) :=
  gF func47 <|
  eBind H fun r1 hr1 H =>
  gX RB func47 H (sN<|sC 6 (ci_isIndex hr1)<|sZ)
noncomputable def Kslices_IndexFunc_int_i_CutLoad_1 : Sslices_IndexFunc_int_i_CutLoad_1 → List Item
 | .h1 .. => nav 300 2 [] [.code (bdy f69)]
def Zslices_IndexFunc_int_i_CutLoad_1 : Sslices_IndexFunc_int_i_CutLoad_1 → St
 | .h1 s0 f1 f2 t3 t4 => ⟨sts 19 [(0, sl 1 I s0), (1, .fn 47 [.fptr 1 [.agg [I f1]] 0 0, .fptr 3 [.agg [I f2.Depots, sl 3 gi_Lane f2.Lanes, sl 1 I f2.Stores]] 0 0]), (7, I t3), (8, I t4)], []⟩
theorem nslices_IndexFunc_int_i_CutLoad_1 : NxA 69 0 Bslices_IndexFunc_int_i_CutLoad_1 Kslices_IndexFunc_int_i_CutLoad_1 Zslices_IndexFunc_int_i_CutLoad_1 RI (fun _ => [])
 | .h1 s0 f1 f2 t3 t4, o, H =>
  eIf H (fun h1 H =>
  eL H fun h2 x3 hx3 H =>
  eBind H fun r4 hr4 H =>
  gN (sT 0 h1<|sN<|sZ) <|
  eIf H (fun h5 H =>
  gY func69 H (sL 4 I h2 hx3<|sCt 5 (ci_CutLoad_1 hr4) h5<|sN<|sZ))
  (fun h5 H =>
  eN H fun r hn => gO (sL 4 I h2 hx3<|sCf 5 (ci_CutLoad_1 hr4) h5<|sN<|sN<|sK [] [0, 1, 7, 8]) hn))
  (fun h1 H =>
  gY func69 H (sF 0 h1<|sN<|sZ))
theorem cslices_IndexFunc_int_i_CutLoad_1 {a0 a100 a101 r} (H : Dslices_IndexFunc_int_i_CutLoad_1 a0 a100 a101 = some r) : Cc 69 [sl 1 I a0, .fn 47 [.fptr 1 [.agg [I a100]] 0 0, .fptr 3 [.agg [I a101.Depots, sl 3 gi_Lane a101.Lanes, sl 1 I a101.Stores]] 0 0]] (RI r) :=
  gF func69 <|
  gO (sN<|sN<|sK [] [0, 1, 7, 8]) (gW nslices_IndexFunc_int_i_CutLoad_1 H)
theorem cslices_ContainsFunc_int_i_CutLoad_1 {a0 a100 a101 r} (H : Dslices_ContainsFunc_int_i_CutLoad_1 a0 a100 a101 = some r) : Cc 46 [sl 1 I a0, .fn 47 [.fptr 1 [.agg [I a100]] 0 0, .fptr 3 [.agg [I a101.Depots, sl 3 gi_Lane a101.Lanes, sl 1 I a101.Stores]] 0 0]] (RB r) :=
  gF func46 <|
  eBind H fun r1 hr1 H =>
  gX RB func46 H (sN<|sC 2 (cslices_IndexFunc_int_i_CutLoad_1 hr1)<|sZ)
noncomputable def Kslices_Index_int : Sslices_Index_int → List Item
 | .h1 .. => nav 300 2 [] [.code (bdy f70)]
def Zslices_Index_int : Sslices_Index_int → St
 | .h1 s0 v1 t2 t3 => ⟨sts 19 [(0, sl 1 I s0), (1, I v1), (7, I t2), (8, I t3)], []⟩
theorem nslices_Index_int : NxA 70 0 Bslices_Index_int Kslices_Index_int Zslices_Index_int RI (fun _ => [])
 | .h1 s0 v1 t2 t3, o, H =>
  eIf H (fun h1 H =>
  eL H fun h2 x3 hx3 H =>
  gN (sT 0 h1<|sN<|sZ) <|
  eIf H (fun h4 H =>
  gY func70 H (sL 4 I h2 hx3<|sEt 5 h4<|sN<|sZ))
  (fun h4 H =>
  eN H fun r hn => gO (sL 4 I h2 hx3<|sEf 5 h4<|sN<|sN<|sK [] [0, 1, 7, 8]) hn))
  (fun h1 H =>
  gY func70 H (sF 0 h1<|sN<|sZ))
theorem cslices_Index_int {a0 a1 r} (H : Dslices_Index_int a0 a1 = some r) : Cc 70 [sl 1 I a0, I a1] (RI r) :=
  gF func70 <|
  gO (sN<|sN<|sK [] [0, 1, 7, 8]) (gW nslices_Index_int H)
theorem cslices_Contains_int {a0 a1 r} (H : Dslices_Contains_int a0 a1 = some r) : Cc 50 [sl 1 I a0, I a1] (RB r) :=
  gF func50 <|
  eBind H fun r1 hr1 H =>
  gX RB func50 H (sN<|sC 2 (cslices_Index_int hr1)<|sZ)
def Ri_CutLoad (r : Int × Bool) : List D := [I r.1, .bool r.2]
noncomputable def Ki_CutLoad : Si_CutLoad → List Item
 | .h1 .. => nav 300 4 [false] [.code (bdy f15)]
def Zi_CutLoad : Si_CutLoad → St
 | .h1 cut0 sum1 t2 t3 l4 => ⟨sts 57 [(2, sl 1 I cut0), (8, I sum1), (34, .ref 0 5 none), (35, I t2), (36, I t3)], [some ⟨false, false, 5, l4.length, List.map gi_arc l4⟩]⟩
theorem ni_CutLoad : NxA 15 0 Bi_CutLoad Ki_CutLoad Zi_CutLoad Ri_CutLoad (fun _ => [])
 | .h1 cut0 sum1 t2 t3 l4, o, H =>
  eIf H (fun h1 H =>
  eL H fun h2 x3 hx3 H =>
  eBind H fun r4 hr4 H =>
  gN (sT 0 h1<|sN<|sL 1 gi_arc h2 hx3<|sZ) <|
  eIf H (fun h5 H =>
  eBind H fun r6 hr6 H =>
  eIf H (fun h7 H =>
  eN H fun r hn => gO (sCt 3 (cslices_Contains_int hr4) h5<|sCt 8 (cslices_Contains_int hr6) h7<|sN<|sN<|sK [0] [2, 8, 34, 35, 36]) hn)
  (fun h7 H =>
  eN H fun r hn => gO (sCt 3 (cslices_Contains_int hr4) h5<|sCf 8 (cslices_Contains_int hr6) h7<|sN<|sN<|sN<|sK [0] [2, 8, 34, 35, 36]) hn))
  (fun h5 H =>
  eN H fun r hn => gO (sCf 3 (cslices_Contains_int hr4) h5<|sN<|sN<|sK [0] [2, 8, 34, 35, 36]) hn))
  (fun h1 H =>
  gY func15 H (sF 0 h1<|sN<|sZ))
theorem ci_CutLoad {a0 a1 a2 r} (H : Di_CutLoad a0 a1 a2 = some r) : Cc 15 [gi_Lanes a0, I a1, sl 1 I a2] (Ri_CutLoad r) :=
  gF func15 <|
  eBind H fun r1 hr1 H =>
  gS (sZ) <|
  eIf H (fun h2 H =>
  eBind H fun r3 hr3 H =>
  let s1 := fun s => sCt 1 (ci_IsLanes hr1) h2<|s
  eIf H (fun h4 H =>
  eBind H fun r5 hr5 H =>
  let s2 := fun s => s1<|sCt 5 (ci_inRange hr3) h4<|s
  eIf H (fun h6 H =>
  eBind H fun r7 hr7 H =>
  eIf H (fun h8 H =>
  gX Ri_CutLoad func15 H (s2<|sCt 10 (ci_increasing hr5) h6<|p1 (cslices_ContainsFunc_int_i_CutLoad_1 hr7)<|p2 (r7 = true) (h8)<|sH ({ i := 16, call := some { cl := false, auto := true, ins := [], res := (RB r7), G' := [] }, dec := some true })<|sN<|sZ))
  (fun h8 H =>
  eBind H fun r9 hr9 H =>
  gO (s2<|sCt 10 (ci_increasing hr5) h6<|p1 (cslices_ContainsFunc_int_i_CutLoad_1 hr7)<|p2 (r7 = false) (eqF h8)<|sH ({ i := 16, call := some { cl := false, auto := true, ins := [], res := (RB r7), G' := [] }, dec := some false })<|sN<|sN<|sC 2 (ci_networkOf hr9)<|p2 (getCells [.agg [I r9.places, ow 5 gi_arc r9.arcs]] 0 1 1 = some [.list true 5 r9.arcs.length (List.map gi_arc r9.arcs)]) rfl<|p2 (setCells [.agg [I r9.places, ow 5 gi_arc r9.arcs]] 0 1 [.ref 3 5 none] = [.agg [I r9.places, .ref 3 5 none]]) rfl<|sH ({ i := 5, pre := [.take 2 0 1 5 r9.arcs.length (List.map gi_arc r9.arcs) [.agg [I r9.places, .ref 3 5 none]]] })<|sN<|sK [3] [2, 8, 34, 35, 36]) (gW ni_CutLoad H)))
  (fun h6 H =>
  gX Ri_CutLoad func15 H (s2<|sCf 10 (ci_increasing hr5) h6<|sN<|sZ)))
  (fun h4 H =>
  gX Ri_CutLoad func15 H (s1<|sCf 5 (ci_inRange hr3) h4<|sN<|sZ)))
  (fun h2 H =>
  gX Ri_CutLoad func15 H (sCf 1 (ci_IsLanes hr1) h2<|sN<|sZ))
noncomputable def Kw_sameInts : Sw_sameInts → List Item
 | .h1 .. => nav 300 3 [false] [.code (bdy f16)]
def Zw_sameInts : Sw_sameInts → St
 | .h1 va0 b1 t2 t3 => ⟨sts 26 [(0, sl 1 I va0), (1, sl 1 I b1), (12, I t2), (13, I t3)], []⟩
theorem nw_sameInts : NxA 16 0 Bw_sameInts Kw_sameInts Zw_sameInts RB (fun _ => [])
 | .h1 va0 b1 t2 t3, o, H =>
  eIf H (fun h1 H =>
  eL H fun h2 x3 hx3 H =>
  eL H fun h4 x5 hx5 H =>
  gN (sT 0 h1<|sN<|sZ) <|
  eIf H (fun h6 H =>
  eN H fun r hn => gO (sL 3 I h2 hx3<|sL 7 I h4 hx5<|sNf 8 h6<|sN<|sN<|sK [] [0, 1, 12, 13]) hn)
  (fun h6 H =>
  gY func16 H (sL 3 I h2 hx3<|sL 7 I h4 hx5<|sNt 8 h6<|sN<|sZ)))
  (fun h1 H =>
  gY func16 H (sF 0 h1<|sN<|sZ))
theorem cw_sameInts {a0 a1 r} (H : Dw_sameInts a0 a1 = some r) : Cc 16 [sl 1 I a0, sl 1 I a1] (RB r) :=
  gF func16 <|
  gS (sZ) <|
  eIf H (fun h1 H =>
  gO (sNf 4 h1<|sN<|sN<|sK [] [0, 1, 12, 13]) (gW nw_sameInts H))
  (fun h1 H =>
  gX RB func16 H (sNt 4 h1<|sN<|sZ))
def Rs_DrawFewestDays (r : Gi_Lanes × Int × Int × Int) : List D := [.agg [I r.1.Depots, ow 3 gi_Lane r.1.Lanes, ow 1 I r.1.Stores], I r.2.1, I r.2.2.1, I r.2.2.2]
theorem cs_DrawFewestDays {a0 r} (H : Ds_DrawFewestDays a0 = some r) : Cc 17 [sl 1 (D.int .u8) a0] (Rs_DrawFewestDays r) :=
  gF func17 <|
  eBind H fun r1 hr1 H =>
  eBind H fun r2 hr2 H =>
  gX Rs_DrawFewestDays func17 H (sN<|sN<|pI (1 : Nat)<|sCk 1 true [1] (cs_l1Cur_trip hr1)<|sN<|pI (1 : Nat)<|p1 (cs_l1Cur_among hr2)<|sH ({ i := 5, frz := [6], call := some { cl := true, auto := true, ins := [1], res := (Rs_l1Cur_among r2), G' := (Ns_l1Cur_among r2) } })<|sZ)
def Ri_FewestDays (r : Int × Bool) : List D := [I r.1, .bool r.2]
noncomputable def Ki_FewestDays : Si_FewestDays → List Item
 | .h1 .. => nav 300 3 [false] [.code (bdy f18)]
def Zi_FewestDays : Si_FewestDays → St
 | .h1 vfrom0 vto1 vamount2 days3 b4 => ⟨sts 39 [(1, I vfrom0), (2, I vto1), (3, I vamount2), (4, .ptr 0 3 0 0), (10, I days3)], [some ⟨false, true, 3, 1, [gi_Lanes b4]⟩]⟩
theorem ni_FewestDays : NxA 18 0 Bi_FewestDays Ki_FewestDays Zi_FewestDays Ri_FewestDays (fun _ => [])
 | .h1 vfrom0 vto1 vamount2 days3 b4, o, H =>
  eIf H (fun h1 H =>
  eBind H fun r2 hr2 H =>
  gN (sT 1 h1<|sN<|sC 4 (ci_delivered hr2)<|sN<|p2 (getCells [.agg [I r2.1.places, ow 5 gi_arc r2.1.arcs]] 0 1 1 = some [.list true 5 r2.1.arcs.length (List.map gi_arc r2.1.arcs)]) rfl<|p2 (setCells [.agg [I r2.1.places, ow 5 gi_arc r2.1.arcs]] 0 1 [.ref 2 5 none] = [.agg [I r2.1.places, .ref 2 5 none]]) rfl<|sM (.bm (.take 1 0 1 5 r2.1.arcs.length (List.map gi_arc r2.1.arcs) [.agg [I r2.1.places, .ref 2 5 none]]))<|sO) <|
  eIf H (fun h3 H =>
  gY func18 H (sT 2 h3<|sN<|sZ))
  (fun h3 H =>
  eN H fun r hn => gO (sF 2 h3<|sN<|sN<|sK [0] [1, 2, 3, 4, 10]) hn))
  (fun h1 H =>
  gY func18 H (sF 1 h1<|sN<|sZ))
theorem ci_FewestDays {a0 a1 a2 a3 r} (H : Di_FewestDays a0 a1 a2 a3 = some r) : Cc 18 [gi_Lanes a0, I a1, I a2, I a3] (Ri_FewestDays r) :=
  gF func18 <|
  eBind H fun r1 hr1 H =>
  gS (sZ) <|
  eIf H (fun h2 H =>
  eBind H fun r3 hr3 H =>
  eIf H (fun h4 H =>
  gO (sCt 3 (ci_isTransport hr1) h2<|sCt 7 (ci_inRange hr3) h4<|sN<|sN<|sK [0] [1, 2, 3, 4, 10]) (gW ni_FewestDays H))
  (fun h4 H =>
  gX Ri_FewestDays func18 H (sCt 3 (ci_isTransport hr1) h2<|sCf 7 (ci_inRange hr3) h4<|sN<|sZ)))
  (fun h2 H =>
  gX Ri_FewestDays func18 H (sCf 3 (ci_isTransport hr1) h2<|sN<|sZ))
def Rs_FewestDays (r : Int × Bool) : List D := [I r.1, .bool r.2]
noncomputable def Ks_FewestDays : Ss_FewestDays → List Item
 | .h1 .. => nav 300 3 [false] [.code (bdy f19)]
def Zs_FewestDays : Ss_FewestDays → St
 | .h1 vfrom0 vto1 vamount2 days3 b4 => ⟨sts 33 [(1, I vfrom0), (2, I vto1), (3, I vamount2), (4, .ptr 0 3 0 0), (10, I days3)], [some ⟨false, true, 3, 1, [gi_Lanes b4]⟩]⟩
theorem ns_FewestDays : NxA 19 0 Bs_FewestDays Ks_FewestDays Zs_FewestDays Rs_FewestDays (fun _ => [])
 | .h1 vfrom0 vto1 vamount2 days3 b4, o, H =>
  eIf H (fun h1 H =>
  eBind H fun r2 hr2 H =>
  gN (sT 1 h1<|sZ) <|
  eIf H (fun h3 H =>
  gY func19 H (sC 4 (cs_qGreatest hr2)<|sT 6 h3<|sN<|sZ))
  (fun h3 H =>
  eN H fun r hn => gO (sC 4 (cs_qGreatest hr2)<|sF 6 h3<|sN<|sN<|sK [0] [1, 2, 3, 4, 10]) hn))
  (fun h1 H =>
  gY func19 H (sF 1 h1<|sN<|sZ))
theorem cs_FewestDays {a0 a1 a2 a3 r} (H : Ds_FewestDays a0 a1 a2 a3 = some r) : Cc 19 [gi_Lanes a0, I a1, I a2, I a3] (Rs_FewestDays r) :=
  gF func19 <|
  eBind H fun r1 hr1 H =>
  gS (sZ) <|
  eIf H (fun h2 H =>
  eBind H fun r3 hr3 H =>
  eIf H (fun h4 H =>
  gO (sCt 3 (cs_qAsked hr1) h2<|sCt 7 (cs_l1In hr3) h4<|sN<|sN<|sK [0] [1, 2, 3, 4, 10]) (gW ns_FewestDays H))
  (fun h4 H =>
  gX Rs_FewestDays func19 H (sCt 3 (cs_qAsked hr1) h2<|sCf 7 (cs_l1In hr3) h4<|sN<|sZ)))
  (fun h2 H =>
  gX Rs_FewestDays func19 H (sCf 3 (cs_qAsked hr1) h2<|sN<|sZ))
noncomputable def Kw_FnDeliveries : Sw_FnDeliveries → List Item
 | .h1 .. => nav 300 14 [false, false, true, false] [.code (bdy f3)]
def Zw_FnDeliveries : Sw_FnDeliveries → St
 | .h1 more0 => ⟨sts 212 [(1, sl 1 (D.int .u8) more0)], []⟩
theorem nw_FnDeliveries : NxA 3 0 Bw_FnDeliveries Kw_FnDeliveries Zw_FnDeliveries RB (fun _ => [])
 | .h1 more0, o, H =>
  eBind H fun r1 hr1 H =>
  eBind H fun r2 hr2 H =>
  gN (sC 1 (cs_DrawFewestDays hr1)<|sZ) <|
  let s1 := fun s => sCk 4 false [] (ci_FewestDays hr2)<|s
  eIf H (fun h3 H =>
  eBind H fun r4 hr4 H =>
  gN (s1<|sBt 7 h3<|sN<|sCk 4 false [] (cs_FewestDays hr4)<|sZ) <|
  eIf H (fun h5 H =>
  gY func3 H (sBt 2 h5<|sN<|sZ))
  (fun h5 H =>
  eIf H (fun h6 H =>
  gN (sBf 2 h5<|sNf 6 h6<|sZ) <|
  eIf H (fun h7 H =>
  eBind H fun r8 hr8 H =>
  gN (sT 3 h7<|sZ) <|
  eIf H (fun h9 H =>
  gY func3 H (sCk 5 false [] (ci_GreatestDelivery hr8)<|sBt 8 h9<|sN<|sZ))
  (fun h9 H =>
  gY func3 H (sCk 5 false [] (ci_GreatestDelivery hr8)<|sBf 8 h9<|sN<|sZ)))
  (fun h7 H =>
  gY func3 H (sF 3 h7<|sN<|sZ)))
  (fun h6 H =>
  gY func3 H (sBf 2 h5<|sNt 6 h6<|sN<|sZ))))
  (fun h3 H =>
  eBind H fun r4 hr4 H =>
  gN (s1<|sBf 7 h3<|sN<|sCk 4 false [] (cs_FewestDays hr4)<|sZ) <|
  eIf H (fun h5 H =>
  gY func3 H (sBt 2 h5<|sN<|sZ))
  (fun h5 H =>
  eIf H (fun h6 H =>
  gY func3 H (sBf 2 h5<|sNf 6 h6<|sN<|sN<|sZ))
  (fun h6 H =>
  gY func3 H (sBf 2 h5<|sNt 6 h6<|sN<|sZ))))
theorem cw_FnDeliveries {a0 a1 r} (H : Dw_FnDeliveries a0 a1 = some r) : Cc 3 [sl 1 (D.int .u8) a0, sl 1 (D.int .u8) a1] (RB r) :=
  gF func3 <|
  eBind H fun r1 hr1 H =>
  gS (sZ) <|
  eIf H (fun h2 H =>
  gX RB func3 H (sCt 2 (cw_big hr1) h2<|sN<|sZ))
  (fun h2 H =>
  eBind H fun r3 hr3 H =>
  eBind H fun r4 hr4 H =>
  gS (sCf 2 (cw_big hr1) h2<|sN<|sC 1 (cs_DrawDeliveryPlan hr3)<|sZ) <|
  let s2 := fun s => p2 (nfL (List.flatMap D.cells (Ri_DeliveryPlan r4))) ⟨nfL_map nf_64 _, trivial, trivial⟩<|p2 (nfG []) trivial<|sCk 4 false [] (ci_DeliveryPlan hr4)<|s
  eIf H (fun h5 H =>
  eBind H fun r6 hr6 H =>
  eBind H fun r7 hr7 H =>
  eBind H fun r8 hr8 H =>
  gS (s2<|sBt 7 h5<|sN<|p2 (nfL (List.flatMap D.cells (Rs_DeliveryPlan r6))) ⟨nfL_map nf_64 _, trivial, trivial⟩<|p2 (nfG []) trivial<|sCk 4 false [] (cs_DeliveryPlan hr6)<|sN<|sCk 4 false [] (ci_GreatestDelivery hr7)<|sN<|sCk 4 false [] (cs_GreatestDelivery hr8)<|sZ) <|
  eIf H (fun h9 H =>
  gX RB func3 H (sBt 2 h9<|sN<|sZ))
  (fun h9 H =>
  eBind H fun r10 hr10 H =>
  let s3 := fun s => sBf 2 h9<|s
  eIf H (fun h11 H =>
  let s4 := fun s => s3<|p1 (cw_pSameConvoys hr10)<|p2 (r10 = true) (h11)<|sH ({ i := 6, call := some { cl := false, auto := true, ins := [], res := (RB r10), G' := [] }, dec := some true })<|s
  eIf H (fun h12 H =>
  gX RB func3 H (s4<|sBt 12 h12<|sN<|sZ))
  (fun h12 H =>
  let s5 := fun s => s4<|sBf 12 h12<|s
  eIf H (fun h13 H =>
  eBind H fun r14 hr14 H =>
  gS (s5<|sNf 17 h13<|sN<|sZ) <|
  let s6 := fun s => sCk 5 false [] (ci_CheckConvoys hr14)<|s
  eIf H (fun h15 H =>
  eBind H fun r16 hr16 H =>
  gS (s6<|sBt 9 h15<|sZ) <|
  let s7 := fun s => p2 (nfL (List.flatMap D.cells (Ri_DeliveryCut r16))) ⟨nfL_map nf_3 _, trivial, trivial⟩<|p2 (nfG []) trivial<|sCk 4 false [] (ci_DeliveryCut hr16)<|s
  eIf H (fun h17 H =>
  eBind H fun r18 hr18 H =>
  eBind H fun r19 hr19 H =>
  gS (s7<|sBt 7 h17<|sN<|p2 (nfL (List.flatMap D.cells (Rs_DeliveryCut r18))) ⟨nfL_map nf_3 _, trivial, trivial⟩<|p2 (nfG []) trivial<|sCk 4 false [] (cs_DeliveryCut hr18)<|sZ) <|
  let s8 := fun s => sCk 3 false [] (ci_CutLoad hr19)<|s
  eIf H (fun h20 H =>
  gS (s8<|sBt 6 h20<|sZ) <|
  eIf H (fun h21 H =>
  eIf H (fun h22 H =>
  eBind H fun r23 hr23 H =>
  eIf H (fun h24 H =>
  let s9 := fun s => sNf 4 h21<|sNf 9 h22<|p1 (cw_sameInts hr23)<|p2 (r23 = true) (h24)<|sH ({ i := 18, call := some { cl := false, auto := true, ins := [], res := (RB r23), G' := [] }, dec := some true })<|s
  eIf H (fun h25 H =>
  gO (s9<|sNf 28 h25<|sN<|sK [] [1]) (gW nw_FnDeliveries H))
  (fun h25 H =>
  gX RB func3 H (s9<|sNt 28 h25<|sN<|sZ)))
  (fun h24 H =>
  gX RB func3 H (sNf 4 h21<|sNf 9 h22<|p1 (cw_sameInts hr23)<|p2 (r23 = false) (eqF h24)<|sH ({ i := 18, call := some { cl := false, auto := true, ins := [], res := (RB r23), G' := [] }, dec := some false })<|sN<|sZ)))
  (fun h22 H =>
  gX RB func3 H (sNf 4 h21<|sNt 9 h22<|sN<|sZ)))
  (fun h21 H =>
  gX RB func3 H (sNt 4 h21<|sN<|sZ)))
  (fun h20 H =>
  gS (s8<|sBf 6 h20<|sZ) <|
  eIf H (fun h21 H =>
  eIf H (fun h22 H =>
  eBind H fun r23 hr23 H =>
  eIf H (fun h24 H =>
  gX RB func3 H (sNf 4 h21<|sNf 9 h22<|p1 (cw_sameInts hr23)<|p2 (r23 = true) (h24)<|sH ({ i := 18, call := some { cl := false, auto := true, ins := [], res := (RB r23), G' := [] }, dec := some true })<|sN<|sZ))
  (fun h24 H =>
  gX RB func3 H (sNf 4 h21<|sNf 9 h22<|p1 (cw_sameInts hr23)<|p2 (r23 = false) (eqF h24)<|sH ({ i := 18, call := some { cl := false, auto := true, ins := [], res := (RB r23), G' := [] }, dec := some false })<|sN<|sZ)))
  (fun h22 H =>
  gX RB func3 H (sNf 4 h21<|sNt 9 h22<|sN<|sZ)))
  (fun h21 H =>
  gX RB func3 H (sNt 4 h21<|sN<|sZ))))
  (fun h17 H =>
  eBind H fun r18 hr18 H =>
  eBind H fun r19 hr19 H =>
  gS (s7<|sBf 7 h17<|sN<|p2 (nfL (List.flatMap D.cells (Rs_DeliveryCut r18))) ⟨nfL_map nf_3 _, trivial, trivial⟩<|p2 (nfG []) trivial<|sCk 4 false [] (cs_DeliveryCut hr18)<|sZ) <|
  let s10 := fun s => sCk 3 false [] (ci_CutLoad hr19)<|s
  eIf H (fun h20 H =>
  gS (s10<|sBt 6 h20<|sZ) <|
  eIf H (fun h21 H =>
  eIf H (fun h22 H =>
  gX RB func3 H (sNf 4 h21<|sNf 9 h22<|sN<|sZ))
  (fun h22 H =>
  gX RB func3 H (sNf 4 h21<|sNt 9 h22<|sN<|sZ)))
  (fun h21 H =>
  gX RB func3 H (sNt 4 h21<|sN<|sZ)))
  (fun h20 H =>
  gS (s10<|sBf 6 h20<|sZ) <|
  eIf H (fun h21 H =>
  eIf H (fun h22 H =>
  gX RB func3 H (sNf 4 h21<|sNf 9 h22<|sN<|sZ))
  (fun h22 H =>
  gX RB func3 H (sNf 4 h21<|sNt 9 h22<|sN<|sZ)))
  (fun h21 H =>
  gX RB func3 H (sNt 4 h21<|sN<|sZ)))))
  (fun h15 H =>
  eBind H fun r16 hr16 H =>
  gS (s6<|sBf 9 h15<|sZ) <|
  let s11 := fun s => p2 (nfL (List.flatMap D.cells (Ri_DeliveryCut r16))) ⟨nfL_map nf_3 _, trivial, trivial⟩<|p2 (nfG []) trivial<|sCk 4 false [] (ci_DeliveryCut hr16)<|s
  eIf H (fun h17 H =>
  eBind H fun r18 hr18 H =>
  eBind H fun r19 hr19 H =>
  gS (s11<|sBt 7 h17<|sN<|p2 (nfL (List.flatMap D.cells (Rs_DeliveryCut r18))) ⟨nfL_map nf_3 _, trivial, trivial⟩<|p2 (nfG []) trivial<|sCk 4 false [] (cs_DeliveryCut hr18)<|sZ) <|
  eIf H (fun h20 H =>
  gX RB func3 H (sCk 3 false [] (ci_CutLoad hr19)<|sBt 6 h20<|sN<|sN<|sZ))
  (fun h20 H =>
  gX RB func3 H (sCk 3 false [] (ci_CutLoad hr19)<|sBf 6 h20<|sN<|sN<|sZ)))
  (fun h17 H =>
  eBind H fun r18 hr18 H =>
  eBind H fun r19 hr19 H =>
  gS (s11<|sBf 7 h17<|sN<|p2 (nfL (List.flatMap D.cells (Rs_DeliveryCut r18))) ⟨nfL_map nf_3 _, trivial, trivial⟩<|p2 (nfG []) trivial<|sCk 4 false [] (cs_DeliveryCut hr18)<|sZ) <|
  eIf H (fun h20 H =>
  gX RB func3 H (sCk 3 false [] (ci_CutLoad hr19)<|sBt 6 h20<|sN<|sN<|sZ))
  (fun h20 H =>
  gX RB func3 H (sCk 3 false [] (ci_CutLoad hr19)<|sBf 6 h20<|sN<|sN<|sZ)))))
  (fun h13 H =>
  gX RB func3 H (s5<|sNt 17 h13<|sN<|sZ))))
  (fun h11 H =>
  gX RB func3 H (s3<|p1 (cw_pSameConvoys hr10)<|p2 (r10 = false) (eqF h11)<|sH ({ i := 6, call := some { cl := false, auto := true, ins := [], res := (RB r10), G' := [] }, dec := some false })<|sN<|sZ))))
  (fun h5 H =>
  eBind H fun r6 hr6 H =>
  eBind H fun r7 hr7 H =>
  eBind H fun r8 hr8 H =>
  gS (s2<|sBf 7 h5<|sN<|p2 (nfL (List.flatMap D.cells (Rs_DeliveryPlan r6))) ⟨nfL_map nf_64 _, trivial, trivial⟩<|p2 (nfG []) trivial<|sCk 4 false [] (cs_DeliveryPlan hr6)<|sN<|sCk 4 false [] (ci_GreatestDelivery hr7)<|sN<|sCk 4 false [] (cs_GreatestDelivery hr8)<|sZ) <|
  eIf H (fun h9 H =>
  gX RB func3 H (sBt 2 h9<|sN<|sZ))
  (fun h9 H =>
  eBind H fun r10 hr10 H =>
  eIf H (fun h11 H =>
  let s12 := fun s => sBf 2 h9<|p1 (cw_pSameConvoys hr10)<|p2 (r10 = true) (h11)<|sH ({ i := 6, call := some { cl := false, auto := true, ins := [], res := (RB r10), G' := [] }, dec := some true })<|s
  eIf H (fun h12 H =>
  gX RB func3 H (s12<|sBt 12 h12<|sN<|sZ))
  (fun h12 H =>
  eIf H (fun h13 H =>
  gO (s12<|sBf 12 h12<|sNf 17 h13<|sN<|sN<|sK [] [1]) (gW nw_FnDeliveries H))
  (fun h13 H =>
  gX RB func3 H (s12<|sBf 12 h12<|sNt 17 h13<|sN<|sZ))))
  (fun h11 H =>
  gX RB func3 H (sBf 2 h9<|p1 (cw_pSameConvoys hr10)<|p2 (r10 = false) (eqF h11)<|sH ({ i := 6, call := some { cl := false, auto := true, ins := [], res := (RB r10), G' := [] }, dec := some false })<|sN<|sZ)))))
def Rs_DrawCheckConvoys (r : Gi_Lanes × Int × Int × Int × (List Gi_Convoy)) : List D := [.agg [I r.1.Depots, ow 3 gi_Lane r.1.Lanes, ow 1 I r.1.Stores], I r.2.1, I r.2.2.1, I r.2.2.2.1, ow 3 gi_Convoy r.2.2.2.2]
theorem cs_DrawCheckConvoys {a0 r} (H : Ds_DrawCheckConvoys a0 = some r) : Cc 20 [sl 1 (D.int .u8) a0] (Rs_DrawCheckConvoys r) :=
  gF func20 <|
  eBind H fun r1 hr1 H =>
  eBind H fun r2 hr2 H =>
  gS (sN<|sN<|pI (1 : Nat)<|sCk 1 true [1] (cs_l1Cur_trip hr1)<|sZ) <|
  let s1 := fun s => p2 (nfL (List.flatMap D.cells (Rs_DeliveryPlan r2))) ⟨nfL_map nf_64 _, trivial, trivial⟩<|p2 (nfG []) trivial<|sCk 4 false [] (cs_DeliveryPlan hr2)<|s
  eIf H (fun h3 H =>
  eBind H fun r4 hr4 H =>
  gS (s1<|sBt 7 h3<|sN<|sN<|pI (1 : Nat)<|sCk 1 true [1] (cs_l1Cur_pick hr4)<|sZ) <|
  eIf H (fun h5 H =>
  gS (sEt 0 h5<|sZ) <|
  eIf H (fun h6 H =>
  eBind H fun r7 hr7 H =>
  eL H fun h8 x9 hx9 H =>
  eL H fun h10 x11 hx11 H =>
  gX Rs_DrawCheckConvoys func20 H (sT 2 h6<|sN<|pI (1 : Nat)<|sCk 4 true [1] (cs_l1Cur_pick hr7)<|sL 7 gi_Convoy h8 hx9<|sB h10 hx11<|sW 11 gi_Convoy 2 [I (IntKind.wrap .i64 (x9.Load + 1))] (Gi_Convoy.mk x11.Day x11.Lane (IntKind.wrap .i64 (x9.Load + 1))) hx11<|sN<|sZ))
  (fun h6 H =>
  gX Rs_DrawCheckConvoys func20 H (sF 2 h6<|sN<|sZ)))
  (fun h5 H =>
  gS (sEf 0 h5<|sZ) <|
  eIf H (fun h6 H =>
  gS (sEt 0 h6<|sZ) <|
  eIf H (fun h7 H =>
  eCk H fun h8 H =>
  gX Rs_DrawCheckConvoys func20 H (sT 2 h7<|sN<|p2 ((0 : Int) ≤ 1) (by decide)<|p2 ((1 : Int) ≤ ((r2.1.length : Nat) : Int)) h8<|sN<|sN<|p2 ((r2.1.length - (Int.toNat 1)) = (List.take (r2.1.length - (Int.toNat 1)) (List.drop (Int.toNat 1) r2.1)).length) (by first | (simp <;> omega) | (simp only [List.length_take, List.length_drop, List.length_nil] <;> omega))<|p2 (List.take (r2.1.length - (Int.toNat 1)) (List.drop (Int.toNat 1) (List.map gi_Convoy r2.1)) = List.map gi_Convoy (List.take (r2.1.length - (Int.toNat 1)) (List.drop (Int.toNat 1) r2.1))) (by rw [List.map_take, List.map_drop])<|sM (.view 6 (List.take (r2.1.length - (Int.toNat 1)) (List.drop (Int.toNat 1) r2.1)).length (List.map gi_Convoy (List.take (r2.1.length - (Int.toNat 1)) (List.drop (Int.toNat 1) r2.1))))<|sO))
  (fun h7 H =>
  gX Rs_DrawCheckConvoys func20 H (sF 2 h7<|sN<|sZ)))
  (fun h6 H =>
  gS (sEf 0 h6<|sZ) <|
  eIf H (fun h7 H =>
  eBind H fun r8 hr8 H =>
  eBind H fun r9 hr9 H =>
  eCk H fun h10 H =>
  gX Rs_DrawCheckConvoys func20 H (sEt 0 h7<|sN<|pI (1 : Nat)<|sCk 2 true [1] (cs_l1Cur_pick hr8)<|pI (1 : Nat)<|sCk 4 true [1] (cs_l1Cur_pick hr9)<|sA 7 gi_Convoy r2.1 [(Gi_Convoy.mk r8.1 r9.1 1)] h10<|sN<|sZ))
  (fun h7 H =>
  gX Rs_DrawCheckConvoys func20 H (sEf 0 h7<|sN<|sZ)))))
  (fun h3 H =>
  gX Rs_DrawCheckConvoys func20 H (s1<|sBf 7 h3<|sN<|sN<|sZ))
noncomputable def Ks_qForm : Ss_qForm → List Item
 | .h1 .. => nav 300 2 [] [.code (bdy f55)]
def Zs_qForm : Ss_qForm → St
 | .h1 days0 l1 t2 t3 t4 b5 => ⟨sts 74 [(1, I days0), (2, sl 3 gi_Convoy l1), (3, .ptr 0 3 0 0), (9, sl 3 gi_Convoy t2), (10, I t3), (11, I t4)], [some ⟨false, true, 3, 1, [gi_Lanes b5]⟩]⟩
theorem ns_qForm : NxA 55 0 Bs_qForm Ks_qForm Zs_qForm RB (fun _ => [])
 | .h1 days0 l1 t2 t3 t4 b5, o, H =>
  eIf H (fun h1 H =>
  eL H fun h2 x3 hx3 H =>
  eBind H fun r4 hr4 H =>
  gN (sT 0 h1<|sN<|sL 2 gi_Convoy h2 hx3<|sZ) <|
  eIf H (fun h5 H =>
  eBind H fun r6 hr6 H =>
  let s1 := fun s => sCt 4 (cs_l1In hr4) h5<|s
  eIf H (fun h7 H =>
  eL H fun h8 x9 hx9 H =>
  eBind H fun r10 hr10 H =>
  let s2 := fun s => s1<|sCt 13 (cs_l1In hr6) h7<|sL 25 gi_Lane h8 hx9<|s
  eIf H (fun h11 H =>
  gN (s2<|sCt 26 (cs_l1In hr10) h11<|sZ) <|
  eIf H (fun h12 H =>
  eL H fun h13 x14 hx14 H =>
  eL H fun h15 x16 hx16 H =>
  let s3 := fun s => sT 1 h12<|sL 8 gi_Convoy h13 hx14<|sL 15 gi_Convoy h15 hx16<|s
  eIf H (fun h17 H =>
  gY func55 H (s3<|sT 23 h17<|sN<|sZ))
  (fun h17 H =>
  eN H fun r hn => gO (s3<|sF 23 h17<|sN<|sN<|sK [0] [1, 2, 3, 9, 10, 11]) hn))
  (fun h12 H =>
  eN H fun r hn => gO (sF 1 h12<|sN<|sN<|sK [0] [1, 2, 3, 9, 10, 11]) hn))
  (fun h11 H =>
  gY func55 H (s2<|sCf 26 (cs_l1In hr10) h11<|sN<|sZ)))
  (fun h7 H =>
  gY func55 H (s1<|sCf 13 (cs_l1In hr6) h7<|sN<|sZ)))
  (fun h5 H =>
  gY func55 H (sCf 4 (cs_l1In hr4) h5<|sN<|sZ)))
  (fun h1 H =>
  gY func55 H (sF 0 h1<|sN<|sZ))
theorem cs_qForm {a0 a1 a2 r} (H : Ds_qForm a0 a1 a2 = some r) : Cc 55 [gi_Lanes a0, I a1, sl 3 gi_Convoy a2] (RB r) :=
  gF func55 <|
  gO (sN<|sN<|sK [0] [1, 2, 3, 9, 10, 11]) (gW ns_qForm H)
def Rs_l1Own (r : (List Int)) : List D := [ow 1 I r]
theorem cs_l1Own {a0 r} (H : Ds_l1Own a0 = some r) : Cc 73 [sl 1 I a0] (Rs_l1Own r) :=
  gF func73 <|
  eCk H fun h1 H =>
  gX Rs_l1Own func73 H (sN<|p2 (AllFl (List.map I a0)) (allFl_3 _)<|p2 (a0.length = ([] : List Int).length + a0.length) (by simp <;> omega)<|p2 ((([] : List Int).length + a0.length) * 8 ≤ 70368744177664) (by have := h1; simp at this ⊢ <;> omega)<|p2 (List.map I ([] : List Int) ++ List.map I a0 = List.map I a0) (by simp)<|sH (hA 2 a0.length (List.map I a0))<|sZ)
def Rs_qRun (r : (List Int) × Bool) : List D := [ow 1 I r.1, .bool r.2]
noncomputable def Ks_qRun : Ss_qRun → List Item
 | .h1 .. => nav 300 3 [] [.code (bdy f56)]
 | .h2 .. => nav 300 7 [true] [.code (bdy f56)]
 | .h3 .. => nav 300 9 [true, false] [.code (bdy f56)]
def Zs_qRun : Ss_qRun → St
 | .h1 vfrom0 vto1 days2 l3 d4 b5 l6 => ⟨sts 111 [(1, I vfrom0), (2, I vto1), (3, I days2), (4, sl 3 gi_Convoy l3), (5, .ptr 0 3 0 0), (12, .ref 1 1 none), (13, I d4)], [some ⟨false, true, 3, 1, [gi_Lanes b5]⟩, some ⟨false, false, 1, l6.length, List.map I l6⟩]⟩
 | .h2 vfrom0 vto1 days2 l3 d4 t5 t6 t7 b8 l9 l10 => ⟨sts 111 [(1, I vfrom0), (2, I vto1), (3, I days2), (4, sl 3 gi_Convoy l3), (5, .ptr 0 3 0 0), (13, I d4), (14, .ref 1 1 none), (15, .ref 2 1 none), (33, sl 3 gi_Convoy t5), (34, I t6), (35, I t7)], [some ⟨false, true, 3, 1, [gi_Lanes b8]⟩, some ⟨false, false, 1, l9.length, List.map I l9⟩, some ⟨false, false, 1, l10.length, List.map I l10⟩]⟩
 | .h3 vfrom0 vto1 days2 l3 d4 t5 t6 b7 l8 l9 => ⟨sts 111 [(1, I vfrom0), (2, I vto1), (3, I days2), (4, sl 3 gi_Convoy l3), (5, .ptr 0 3 0 0), (13, I d4), (14, .ref 1 1 none), (72, .ref 2 1 none), (73, I t5), (74, I t6)], [some ⟨false, true, 3, 1, [gi_Lanes b7]⟩, some ⟨false, false, 1, l8.length, List.map I l8⟩, some ⟨false, false, 1, l9.length, List.map I l9⟩]⟩
theorem ns_qRun : NxA 56 0 Bs_qRun Ks_qRun Zs_qRun Rs_qRun (fun _ => [])
 | .h1 vfrom0 vto1 days2 l3 d4 b5 l6, o, H =>
  eIf H (fun h1 H =>
  eCk H fun h2 H =>
  eL H fun h3 r4 hr4 H =>
  eN H fun r hn => gO (sT 2 h1<|sN<|sMk 2 I b5.Depots (0 : Int) h2 h3<|sN<|p2 (nfL (List.flatMap D.cells (Rs_l1Own r4))) ⟨nfL_map nf_3 _, trivial⟩<|p2 (nfG []) trivial<|sCk 1 false [] (cs_l1Own hr4)<|sN<|sN<|sK [0, 2, 3] [1, 2, 3, 4, 5, 13, 14, 15, 33, 34, 35]) hn)
  (fun h1 H =>
  gY func56 H (sF 2 h1<|sN<|sZ))
 | .h2 vfrom0 vto1 days2 l3 d4 t5 t6 t7 b8 l9 l10, o, H =>
  eIf H (fun h1 H =>
  eL H fun h2 x3 hx3 H =>
  gN (sT 0 h1<|sN<|sL 1 gi_Convoy h2 hx3<|sZ) <|
  eIf H (fun h4 H =>
  eL H fun h5 x6 hx6 H =>
  eL H fun h7 x8 hx8 H =>
  eL H fun h9 x10 hx10 H =>
  eL H fun h11 x12 hx12 H =>
  eL H fun h13 x14 hx14 H =>
  eL H fun h15 x16 hx16 H =>
  eN H fun r hn => gO (sEt 3 h4<|sN<|sL 7 gi_Lane h5 hx6<|sL 9 I h7 hx8<|sB h9 hx10<|sW 14 I 0 [I (IntKind.wrap .i64 (x8 - x3.Load))] (IntKind.wrap .i64 (x8 - x3.Load)) hx10<|sN<|sL 7 gi_Lane h11 hx12<|sL 9 I h13 hx14<|sB h15 hx16<|sW 14 I 0 [I (IntKind.wrap .i64 (x14 + x3.Load))] (IntKind.wrap .i64 (x14 + x3.Load)) hx16<|sN<|sN<|sK [0, 1, 2] [1, 2, 3, 4, 5, 13, 14, 15, 33, 34, 35]) hn)
  (fun h4 H =>
  eN H fun r hn => gO (sEf 3 h4<|sN<|sN<|sK [0, 1, 2] [1, 2, 3, 4, 5, 13, 14, 15, 33, 34, 35]) hn))
  (fun h1 H =>
  eN H fun r hn => gO (sF 0 h1<|sN<|sN<|sK [0, 1, 2] [1, 2, 3, 4, 5, 13, 14, 72, 73, 74]) hn)
 | .h3 vfrom0 vto1 days2 l3 d4 t5 t6 b7 l8 l9, o, H =>
  eIf H (fun h1 H =>
  eL H fun h2 x3 hx3 H =>
  gN (sT 0 h1<|sN<|sL 2 I h2 hx3<|sZ) <|
  eIf H (fun h4 H =>
  eN H fun r hn => gO (sEt 2 h4<|sN<|sN<|sK [0, 1, 2] [1, 2, 3, 4, 5, 13, 14, 72, 73, 74]) hn)
  (fun h4 H =>
  gN (sEf 2 h4<|sZ) <|
  eIf H (fun h5 H =>
  gY func56 H (sT 1 h5<|sN<|sZ))
  (fun h5 H =>
  eIf H (fun h6 H =>
  eL H fun h7 x8 hx8 H =>
  eL H fun h9 x10 hx10 H =>
  eN H fun r hn => gO (sF 1 h5<|sNf 5 h6<|sN<|sL 3 I h7 hx8<|sB h9 hx10<|sW 7 I 0 [I (IntKind.wrap .i64 (x8 + x3))] (IntKind.wrap .i64 (x8 + x3)) hx10<|sN<|sN<|sK [0, 1, 2] [1, 2, 3, 4, 5, 13, 14, 72, 73, 74]) hn)
  (fun h6 H =>
  eL H fun h7 x8 hx8 H =>
  eIf H (fun h9 H =>
  gY func56 H (sF 1 h5<|sNt 5 h6<|sL 12 I h7 hx8<|sT 13 h9<|sN<|sZ))
  (fun h9 H =>
  eL H fun h10 x11 hx11 H =>
  eL H fun h12 x13 hx13 H =>
  eN H fun r hn => gO (sF 1 h5<|sNt 5 h6<|sL 12 I h7 hx8<|sF 13 h9<|sN<|sL 3 I h10 hx11<|sB h12 hx13<|sW 7 I 0 [I (IntKind.wrap .i64 (x11 + x3))] (IntKind.wrap .i64 (x11 + x3)) hx13<|sN<|sN<|sK [0, 1, 2] [1, 2, 3, 4, 5, 13, 14, 72, 73, 74]) hn)))))
  (fun h1 H =>
  eL H fun h2 x3 hx3 H =>
  eN H fun r hn => gO (sF 0 h1<|sN<|sB h2 hx3<|sW 3 I 0 [I 0] 0 hx3<|sN<|sN<|sN<|sK [0, 1] [1, 2, 3, 4, 5, 12, 13]) hn)
theorem cs_qRun {a0 a1 a2 a3 a4 r} (H : Ds_qRun a0 a1 a2 a3 a4 = some r) : Cc 56 [gi_Lanes a0, I a1, I a2, I a3, sl 3 gi_Convoy a4] (Rs_qRun r) :=
  gF func56 <|
  eCk H fun h1 H =>
  eCk H fun h2 H =>
  gO (sN<|sMk 2 I a0.Depots (0 : Int) h1 h2<|sN<|sN<|sK [0, 1] [1, 2, 3, 4, 5, 12, 13]) (gW ns_qRun H)
def Rs_CheckConvoys (r : Int × Int × Bool) : List D := [I r.1, I r.2.1, .bool r.2.2]
theorem cs_CheckConvoys {a0 a1 a2 a3 a4 r} (H : Ds_CheckConvoys a0 a1 a2 a3 a4 = some r) : Cc 21 [gi_Lanes a0, I a1, I a2, I a3, sl 3 gi_Convoy a4] (Rs_CheckConvoys r) :=
  gF func21 <|
  eBind H fun r1 hr1 H =>
  gS (sZ) <|
  eIf H (fun h2 H =>
  eBind H fun r3 hr3 H =>
  gS (sCt 4 (cs_qAsked hr1) h2<|sZ) <|
  eIf H (fun h4 H =>
  eBind H fun r5 hr5 H =>
  gS (sCt 3 (cs_qForm hr3) h4<|sZ) <|
  eIf H (fun h6 H =>
  eL H fun h7 x8 hx8 H =>
  gX Rs_CheckConvoys func21 H (sC 5 (cs_qRun hr5)<|sBt 8 h6<|sN<|sN<|sL 3 I h7 hx8<|sZ))
  (fun h6 H =>
  gX Rs_CheckConvoys func21 H (sC 5 (cs_qRun hr5)<|sBf 8 h6<|sN<|sN<|sZ)))
  (fun h4 H =>
  gX Rs_CheckConvoys func21 H (sCf 3 (cs_qForm hr3) h4<|sN<|sZ)))
  (fun h2 H =>
  gX Rs_CheckConvoys func21 H (sCf 4 (cs_qAsked hr1) h2<|sN<|sZ))
def Rslices_Clone_i_Lane (r : List Gi_Lane) : List D := [ow 3 gi_Lane r]
theorem cslices_Clone_i_Lane {l r : List Gi_Lane} (H : Dslices_Clone_i_Lane l = some r) : Ct X.P X.gl 75 [sl 3 gi_Lane l] [] (Rslices_Clone_i_Lane r) [] :=
  eCk H fun h H => eRet (P := fun r => Ct X.P X.gl 75 [sl 3 gi_Lane l] [] (Rslices_Clone_i_Lane r) []) H <|
    gF func75<|by
      by_cases h0 : 0 < l.length
      · exact gE func75 (sN<|p1 h0<|sH { i := 1, keep := true }<|sN<| p1 (allFl_69 l)<|p2 (l.length = 0 + l.length) (by simp)<|p2 ((0 + l.length) * 24 ≤ 70368744177664) (by simpa using h)<|p2 (([] : List D) ++ List.map gi_Lane l = List.map gi_Lane l) rfl<|sH { i := 2, n := l.length, xs := List.map gi_Lane l }<|sZ)
      · have e : l = [] := by cases l with | nil => rfl | cons x l => exact absurd (Nat.succ_pos _) h0
        subst e
        refine gO (sN<|sN<|sM .stop<|sO) (k' := nav 300 2 [] [.code (bdy f75)]) (σ' := ⟨sts 8 [(0, sl 3 gi_Lane []), (2, .nil), (3, sl 3 gi_Lane []), (4, .anyb)], []⟩) (Wc.anyb 4 (by kernel_rfl) fun b => ?_)
        cases b with
        | true => exact gE func75 sZ
        | false =>
          have h : ([] : List Gi_Lane).length * 24 ≤ 70368744177664 := by decide
          have : Wc X 75 0 (nav 300 2 [] [.code (bdy f75)]) ⟨sts 8 [(0, sl 3 gi_Lane []), (2, .nil), (3, sl 3 gi_Lane []), (4, .bool false)], []⟩ (Rslices_Clone_i_Lane []) [] := by
            generalize hl : ([] : List Gi_Lane) = l at h ⊢
            exact gE func75 ( p1 (allFl_69 l)<|p2 (l.length = 0 + l.length) (by simp)<|p2 ((0 + l.length) * 24 ≤ 70368744177664) (by simpa using h)<|p2 (([] : List D) ++ List.map gi_Lane l = List.map gi_Lane l) rfl<|sH { i := 2, n := l.length, xs := List.map gi_Lane l }<|sZ)
          exact this
def Rslices_Delete_i_Lane (r : (List Gi_Lane)) : List D := [ow 3 gi_Lane r]
def Nslices_Delete_i_Lane (r : (List Gi_Lane)) : List Root := [deadR]
theorem cslices_Delete_i_Lane {a0 : (List Gi_Lane)} {a1 : Int} {a2 : Int} {r : (List Gi_Lane)} (H : Dslices_Delete_i_Lane a0 a1 a2 = some r) : Ct X.P X.gl 74 [.ref 0 3 none, I a1, I a2] [⟨false, false, 3, a0.length, List.map gi_Lane a0⟩] (Rslices_Delete_i_Lane r) (Nslices_Delete_i_Lane r) :=
  eCk H fun h H => eRet (P := fun r => Ct X.P X.gl 74 [.ref 0 3 none, I a1, I a2] [⟨false, false, 3, a0.length, List.map gi_Lane a0⟩] (Rslices_Delete_i_Lane r) (Nslices_Delete_i_Lane r)) H<|ct_delk (P := X.P) (ρ := lays_g74_ren) lays_g74 ⟨f74, func74, by kernel_rfl, by kernel_rfl⟩ (k := 3) (z := .agg #[.int .i64 0, .int .i64 0, .int .i64 0]) (by kernel_rfl) rfl (by decide) (f := gi_Lane) (e := fun x => [x.From, x.To, x.Load]) (fun _ => rfl) (fun _ => rfl) h.1 h.2.1 h.2.2.1 h.2.2.2
def Rslices_Clone_int (r : List Int) : List D := [ow 1 I r]
theorem cslices_Clone_int {l r : List Int} (H : Dslices_Clone_int l = some r) : Ct X.P X.gl 76 [sl 1 I l] [] (Rslices_Clone_int r) [] :=
  eCk H fun h H => eRet (P := fun r => Ct X.P X.gl 76 [sl 1 I l] [] (Rslices_Clone_int r) []) H <|
    gF func76<|by
      by_cases h0 : 0 < l.length
      · exact gE func76 (sN<|p1 h0<|sH { i := 1, keep := true }<|sN<| p1 (allFl_3 l)<|p2 (l.length = 0 + l.length) (by simp)<|p2 ((0 + l.length) * 8 ≤ 70368744177664) (by simpa using h)<|p2 (([] : List D) ++ List.map I l = List.map I l) rfl<|sH { i := 2, n := l.length, xs := List.map I l }<|sZ)
      · have e : l = [] := by cases l with | nil => rfl | cons x l => exact absurd (Nat.succ_pos _) h0
        subst e
        refine gO (sN<|sN<|sM .stop<|sO) (k' := nav 300 2 [] [.code (bdy f76)]) (σ' := ⟨sts 8 [(0, sl 1 I []), (2, .nil), (3, sl 1 I []), (4, .anyb)], []⟩) (Wc.anyb 4 (by kernel_rfl) fun b => ?_)
        cases b with
        | true => exact gE func76 sZ
        | false =>
          have h : ([] : List Int).length * 8 ≤ 70368744177664 := by decide
          have : Wc X 76 0 (nav 300 2 [] [.code (bdy f76)]) ⟨sts 8 [(0, sl 1 I []), (2, .nil), (3, sl 1 I []), (4, .bool false)], []⟩ (Rslices_Clone_int []) [] := by
            generalize hl : ([] : List Int) = l at h ⊢
            exact gE func76 ( p1 (allFl_3 l)<|p2 (l.length = 0 + l.length) (by simp)<|p2 ((0 + l.length) * 8 ≤ 70368744177664) (by simpa using h)<|p2 (([] : List D) ++ List.map I l = List.map I l) rfl<|sH { i := 2, n := l.length, xs := List.map I l }<|sZ)
          exact this
def Ri_withoutLane (r : Gi_Lanes) : List D := [.agg [I r.Depots, ow 3 gi_Lane r.Lanes, ow 1 I r.Stores]]
theorem ci_withoutLane {a0 a1 r} (H : Di_withoutLane a0 a1 = some r) : Cc 57 [gi_Lanes a0, I a1] (Ri_withoutLane r) :=
  gF func57 <|
  eBind H fun r1 hr1 H =>
  eBind H fun r2 hr2 H =>
  eBind H fun r3 hr3 H =>
  gX Ri_withoutLane func57 H (sN<|sC 4 (cslices_Clone_i_Lane hr1)<|sCk 8 true [2] (cslices_Delete_i_Lane hr2)<|sC 11 (cslices_Clone_int hr3)<|sZ)
def Ri_CriticalLanes (r : (List Int) × Bool) : List D := [ow 1 I r.1, .bool r.2]
noncomputable def Ki_CriticalLanes : Si_CriticalLanes → List Item
 | .h1 .. => nav 300 5 [false] [.code (bdy f22)]
def Zi_CriticalLanes : Si_CriticalLanes → St
 | .h1 vfrom0 vto1 days2 most3 t4 t5 b6 l7 => ⟨sts 52 [(1, I vfrom0), (2, I vto1), (3, I days2), (4, .ptr 0 3 0 0), (10, I most3), (12, .ref 1 1 none), (29, I t4), (30, I t5)], [some ⟨false, true, 3, 1, [gi_Lanes b6]⟩, some ⟨false, false, 1, l7.length, List.map I l7⟩]⟩
theorem ni_CriticalLanes : NxA 22 0 Bi_CriticalLanes Ki_CriticalLanes Zi_CriticalLanes Ri_CriticalLanes (fun _ => [])
 | .h1 vfrom0 vto1 days2 most3 t4 t5 b6 l7, o, H =>
  eIf H (fun h1 H =>
  eBind H fun r2 hr2 H =>
  eBind H fun r3 hr3 H =>
  gN (sT 0 h1<|sN<|sN<|sC 2 (ci_withoutLane hr2)<|p2 (nfL (List.flatMap D.cells (Ri_delivered r3))) ⟨⟨⟨trivial, nfL_map nf_58 _, trivial⟩, trivial⟩, trivial, trivial⟩<|p2 (nfG []) trivial<|sCk 6 false [] (ci_delivered hr3)<|sN<|p2 (getCells [.agg [I r3.1.places, ow 5 gi_arc r3.1.arcs]] 0 1 1 = some [.list true 5 r3.1.arcs.length (List.map gi_arc r3.1.arcs)]) rfl<|p2 (setCells [.agg [I r3.1.places, ow 5 gi_arc r3.1.arcs]] 0 1 [.ref 6 5 none] = [.agg [I r3.1.places, .ref 6 5 none]]) rfl<|sM (.bm (.take 5 0 1 5 r3.1.arcs.length (List.map gi_arc r3.1.arcs) [.agg [I r3.1.places, .ref 6 5 none]]))<|sO) <|
  eIf H (fun h4 H =>
  eCk H fun h5 H =>
  eN H fun r hn => gO (sT 2 h4<|sN<|sA 3 I l7 [t5] h5<|sN<|sN<|sK [0, 8] [1, 2, 3, 4, 10, 12, 29, 30]) hn)
  (fun h4 H =>
  eN H fun r hn => gO (sF 2 h4<|sN<|sN<|sK [0, 1] [1, 2, 3, 4, 10, 12, 29, 30]) hn))
  (fun h1 H =>
  gY func22 H (sF 0 h1<|sN<|sZ))
theorem ci_CriticalLanes {a0 a1 a2 a3 r} (H : Di_CriticalLanes a0 a1 a2 a3 = some r) : Cc 22 [gi_Lanes a0, I a1, I a2, I a3] (Ri_CriticalLanes r) :=
  gF func22 <|
  eBind H fun r1 hr1 H =>
  gS (sZ) <|
  eIf H (fun h2 H =>
  gO (sC 4 (ci_GreatestDelivery hr1)<|sBt 7 h2<|sN<|sN<|sN<|sN<|sK [0, 1] [1, 2, 3, 4, 10, 12, 29, 30]) (gW ni_CriticalLanes H))
  (fun h2 H =>
  gX Ri_CriticalLanes func22 H (sC 4 (ci_GreatestDelivery hr1)<|sBf 7 h2<|sN<|sN<|sZ))
def Rs_qWithout (r : Gi_Lanes) : List D := [.agg [I r.Depots, ow 3 gi_Lane r.Lanes, ow 1 I r.Stores]]
noncomputable def Ks_qWithout : Ss_qWithout → List Item
 | .h1 .. => nav 300 3 [] [.code (bdy f58)]
 | .h2 .. => nav 300 8 [true, true] [.code (bdy f58)]
def Zs_qWithout : Ss_qWithout → St
 | .h1 i0 t1 t2 t3 b4 b5 l6 => ⟨sts 33 [(1, I i0), (4, .ptr 0 3 0 0), (5, .ptr 1 3 0 0), (15, sl 3 gi_Lane t1), (16, I t2), (17, I t3)], [some ⟨false, true, 3, 1, [.agg [I b4, .nil, .nil]]⟩, some ⟨false, true, 3, 1, [.agg [I b5, .nil, .ref 2 1 none]]⟩, some ⟨false, false, 1, l6.length, List.map I l6⟩]⟩
 | .h2 i0 t1 t2 t3 b4 b5 l6 l7 => ⟨sts 33 [(1, I i0), (4, .ptr 0 3 0 0), (5, .ptr 1 3 0 0), (15, sl 3 gi_Lane t1), (16, I t2), (17, I t3)], [some ⟨false, true, 3, 1, [.agg [I b4, .nil, .nil]]⟩, some ⟨false, true, 3, 1, [.agg [I b5, .ref 2 3 none, .ref 3 1 none]]⟩, some ⟨false, false, 3, l6.length, List.map gi_Lane l6⟩, some ⟨false, false, 1, l7.length, List.map I l7⟩]⟩
theorem ns_qWithout : NxA 58 0 Bs_qWithout Ks_qWithout Zs_qWithout Rs_qWithout (fun _ => [])
 | .h1 i0 t1 t2 t3 b4 b5 l6, o, H =>
  eIf H (fun h1 H =>
  eL H fun h2 x3 hx3 H =>
  gN (sT 0 h1<|sN<|sL 2 gi_Lane h2 hx3<|sZ) <|
  eIf H (fun h4 H =>
  eN H fun r hn => gO (sNf 2 h4<|sN<|sN<|sK [0, 1, 2] [1, 4, 5, 15, 16, 17]) hn)
  (fun h4 H =>
  eCk H fun h5 H =>
  eN H fun r hn => gO (sNt 2 h4<|sN<|sA0 4 gi_Lane [x3] h5<|sN<|sN<|sK [0, 1, 5, 2] [1, 4, 5, 15, 16, 17]) hn))
  (fun h1 H =>
  gY func58 H (sF 0 h1<|sN<|sZ))
 | .h2 i0 t1 t2 t3 b4 b5 l6 l7, o, H =>
  eIf H (fun h1 H =>
  eL H fun h2 x3 hx3 H =>
  gN (sT 0 h1<|sN<|sL 2 gi_Lane h2 hx3<|sZ) <|
  eIf H (fun h4 H =>
  eN H fun r hn => gO (sNf 2 h4<|sN<|sN<|sK [0, 1, 2, 3] [1, 4, 5, 15, 16, 17]) hn)
  (fun h4 H =>
  eCk H fun h5 H =>
  eN H fun r hn => gO (sNt 2 h4<|sN<|sA 4 gi_Lane l6 [x3] h5<|sN<|sN<|sK [0, 1, 6, 3] [1, 4, 5, 15, 16, 17]) hn))
  (fun h1 H =>
  gY func58 H (sF 0 h1<|sN<|sZ))
theorem cs_qWithout {a0 a1 r} (H : Ds_qWithout a0 a1 = some r) : Cc 58 [gi_Lanes a0, I a1] (Rs_qWithout r) :=
  gF func58 <|
  eBind H fun r1 hr1 H =>
  gO (sN<|sC 4 (cs_l1Own hr1)<|sN<|sN<|sK [1, 3, 2] [1, 4, 5, 15, 16, 17]) (gW ns_qWithout H)
def Rs_CriticalLanes (r : (List Int) × Bool) : List D := [ow 1 I r.1, .bool r.2]
noncomputable def Ks_CriticalLanes : Ss_CriticalLanes → List Item
 | .h1 .. => nav 300 5 [false] [.code (bdy f23)]
def Zs_CriticalLanes : Ss_CriticalLanes → St
 | .h1 vfrom0 vto1 days2 want3 t4 t5 b6 l7 => ⟨sts 45 [(1, I vfrom0), (2, I vto1), (3, I days2), (4, .ptr 0 3 0 0), (10, I want3), (11, .ref 1 1 none), (26, I t4), (27, I t5)], [some ⟨false, true, 3, 1, [gi_Lanes b6]⟩, some ⟨false, false, 1, l7.length, List.map I l7⟩]⟩
theorem ns_CriticalLanes : NxA 23 0 Bs_CriticalLanes Ks_CriticalLanes Zs_CriticalLanes Rs_CriticalLanes (fun _ => [])
 | .h1 vfrom0 vto1 days2 want3 t4 t5 b6 l7, o, H =>
  eIf H (fun h1 H =>
  eBind H fun r2 hr2 H =>
  eBind H fun r3 hr3 H =>
  gN (sT 0 h1<|sN<|sZ) <|
  let s1 := fun s => sC 2 (cs_qWithout hr2)<|sCk 6 false [] (cs_qGreatest hr3)<|s
  eIf H (fun h4 H =>
  eCk H fun h5 H =>
  eN H fun r hn => gO (s1<|sT 8 h4<|sN<|sA 3 I l7 [t5] h5<|sN<|sN<|sK [0, 6] [1, 2, 3, 4, 10, 11, 26, 27]) hn)
  (fun h4 H =>
  eN H fun r hn => gO (s1<|sF 8 h4<|sN<|sN<|sK [0, 1] [1, 2, 3, 4, 10, 11, 26, 27]) hn))
  (fun h1 H =>
  gY func23 H (sF 0 h1<|sN<|sZ))
theorem cs_CriticalLanes {a0 a1 a2 a3 r} (H : Ds_CriticalLanes a0 a1 a2 a3 = some r) : Cc 23 [gi_Lanes a0, I a1, I a2, I a3] (Rs_CriticalLanes r) :=
  gF func23 <|
  eBind H fun r1 hr1 H =>
  gS (sZ) <|
  eIf H (fun h2 H =>
  eBind H fun r3 hr3 H =>
  gO (sCt 4 (cs_qAsked hr1) h2<|sN<|sC 4 (cs_qGreatest hr3)<|sN<|sN<|sN<|sM (.own 11 1)<|sK [0, 1] [1, 2, 3, 4, 10, 11, 26, 27]) (gW ns_CriticalLanes H))
  (fun h2 H =>
  gX Rs_CriticalLanes func23 H (sCf 4 (cs_qAsked hr1) h2<|sN<|sZ))
def Rs_DrawWithoutLane (r : Gi_Lanes × Int) : List D := [.agg [I r.1.Depots, ow 3 gi_Lane r.1.Lanes, ow 1 I r.1.Stores], I r.2]
theorem cs_DrawWithoutLane {a0 r} (H : Ds_DrawWithoutLane a0 = some r) : Cc 24 [sl 1 (D.int .u8) a0] (Rs_DrawWithoutLane r) :=
  gF func24 <|
  eBind H fun r1 hr1 H =>
  eBind H fun r2 hr2 H =>
  eBind H fun r3 hr3 H =>
  gX Rs_DrawWithoutLane func24 H (sN<|sN<|pI (1 : Nat)<|sCk 1 true [1] (cs_l1Cur_anyLanes hr1)<|sN<|pI (1 : Nat)<|sCk 6 true [1] (cs_l1Cur_pick hr2)<|pI (1 : Nat)<|sCk 8 true [1] (cs_l1Cur_pick hr3)<|p2 (¬ (19 : Int) = 0) (by decide)<|sZ)
def Ri_WithoutLane (r : Gi_Lanes × Bool) : List D := [.agg [I r.1.Depots, ow 3 gi_Lane r.1.Lanes, ow 1 I r.1.Stores], .bool r.2]
theorem ci_WithoutLane {a0 a1 r} (H : Di_WithoutLane a0 a1 = some r) : Cc 25 [gi_Lanes a0, I a1] (Ri_WithoutLane r) :=
  gF func25 <|
  eBind H fun r1 hr1 H =>
  gS (sZ) <|
  eIf H (fun h2 H =>
  eBind H fun r3 hr3 H =>
  eIf H (fun h4 H =>
  eBind H fun r5 hr5 H =>
  gX Ri_WithoutLane func25 H (sCt 1 (ci_IsLanes hr1) h2<|sCt 8 (ci_isIndex hr3) h4<|sN<|sC 2 (ci_withoutLane hr5)<|sZ))
  (fun h4 H =>
  gX Ri_WithoutLane func25 H (sCt 1 (ci_IsLanes hr1) h2<|sCf 8 (ci_isIndex hr3) h4<|sN<|sZ)))
  (fun h2 H =>
  gX Ri_WithoutLane func25 H (sCf 1 (ci_IsLanes hr1) h2<|sN<|sZ))
def Rs_WithoutLane (r : Gi_Lanes × Bool) : List D := [.agg [I r.1.Depots, ow 3 gi_Lane r.1.Lanes, ow 1 I r.1.Stores], .bool r.2]
theorem cs_WithoutLane {a0 a1 r} (H : Ds_WithoutLane a0 a1 = some r) : Cc 26 [gi_Lanes a0, I a1] (Rs_WithoutLane r) :=
  gF func26 <|
  eBind H fun r1 hr1 H =>
  gS (sZ) <|
  eIf H (fun h2 H =>
  eBind H fun r3 hr3 H =>
  eIf H (fun h4 H =>
  eBind H fun r5 hr5 H =>
  gX Rs_WithoutLane func26 H (sCt 1 (cs_qGood hr1) h2<|sCt 9 (cs_l1In hr3) h4<|sN<|sC 2 (cs_qWithout hr5)<|sZ))
  (fun h4 H =>
  gX Rs_WithoutLane func26 H (sCt 1 (cs_qGood hr1) h2<|sCf 9 (cs_l1In hr3) h4<|sN<|sZ)))
  (fun h2 H =>
  gX Rs_WithoutLane func26 H (sCf 1 (cs_qGood hr1) h2<|sN<|sZ))
def Rs_DrawCutLoad (r : Gi_Lanes × Int × (List Int)) : List D := [.agg [I r.1.Depots, ow 3 gi_Lane r.1.Lanes, ow 1 I r.1.Stores], I r.2.1, ow 1 I r.2.2]
noncomputable def Ks_DrawCutLoad : Ss_DrawCutLoad → List Item
 | .h1 .. => nav 300 7 [false] [.code (bdy f27)]
def Zs_DrawCutLoad : Ss_DrawCutLoad → St
 | .h1 days0 v1 b2 b3 b4 l5 l6 l7 => ⟨sts 53 [(2, .ptr 0 3 0 0), (5, .ptr 1 3 0 0), (6, .ptr 2 3 0 0), (9, I days0), (12, .ref 3 1 none), (13, I v1)], [some ⟨false, true, 3, 1, [.agg [I b2, .nil, .nil]]⟩, some ⟨false, true, 3, 1, [gs_l1Cur b3]⟩, some ⟨false, true, 3, 1, [.agg [I b4, .ref 4 3 none, .ref 5 1 none]]⟩, some ⟨false, false, 1, l5.length, List.map I l5⟩, some ⟨false, false, 3, l6.length, List.map gi_Lane l6⟩, some ⟨false, false, 1, l7.length, List.map I l7⟩]⟩
theorem ns_DrawCutLoad : NxA 27 0 Bs_DrawCutLoad Ks_DrawCutLoad Zs_DrawCutLoad Rs_DrawCutLoad (fun _ => [])
 | .h1 days0 v1 b2 b3 b4 l5 l6 l7, o, H =>
  eIf H (fun h1 H =>
  eBind H fun r2 hr2 H =>
  gN (sT 1 h1<|sZ) <|
  eIf H (fun h3 H =>
  eCk H fun h4 H =>
  eN H fun r hn => gO (pI (1 : Nat)<|p1 (cs_l1Cur_one hr2)<|p2 (r2.1 = true) (h3)<|sH ({ i := 1, call := some { cl := true, auto := true, ins := [1], res := (Rs_l1Cur_one r2), G' := (Ns_l1Cur_one r2) }, dec := some true })<|sN<|sA 3 I l5 [v1] h4<|sN<|sN<|sK [0, 1, 2, 7, 4, 5] [2, 5, 6, 9, 12, 13]) hn)
  (fun h3 H =>
  eN H fun r hn => gO (pI (1 : Nat)<|p1 (cs_l1Cur_one hr2)<|p2 (r2.1 = false) (eqF h3)<|sH ({ i := 1, call := some { cl := true, auto := true, ins := [1], res := (Rs_l1Cur_one r2), G' := (Ns_l1Cur_one r2) }, dec := some false })<|sN<|sN<|sK [0, 1, 2, 3, 4, 5] [2, 5, 6, 9, 12, 13]) hn))
  (fun h1 H =>
  gY func27 H (sF 1 h1<|sN<|sZ))
theorem cs_DrawCutLoad {a0 r} (H : Ds_DrawCutLoad a0 = some r) : Cc 27 [sl 1 (D.int .u8) a0] (Rs_DrawCutLoad r) :=
  gF func27 <|
  eBind H fun r1 hr1 H =>
  eBind H fun r2 hr2 H =>
  gS (sN<|sN<|pI (1 : Nat)<|sCk 1 true [1] (cs_l1Cur_trip hr1)<|sZ) <|
  let s1 := fun s => p2 (nfL (List.flatMap D.cells (Rs_DeliveryCut r2))) ⟨nfL_map nf_3 _, trivial, trivial⟩<|p2 (nfG []) trivial<|sCk 4 false [] (cs_DeliveryCut hr2)<|s
  eIf H (fun h3 H =>
  eBind H fun r4 hr4 H =>
  gS (s1<|sBt 7 h3<|sZ) <|
  eIf H (fun h5 H =>
  gX Rs_DrawCutLoad func27 H (pI (1 : Nat)<|p1 (cs_l1Cur_one hr4)<|p2 (r4.1 = true) (h5)<|sH ({ i := 3, call := some { cl := true, auto := true, ins := [1], res := (Rs_l1Cur_one r4), G' := (Ns_l1Cur_one r4) }, dec := some true })<|sN<|sZ))
  (fun h5 H =>
  gO (pI (1 : Nat)<|p1 (cs_l1Cur_one hr4)<|p2 (r4.1 = false) (eqF h5)<|sH ({ i := 3, call := some { cl := true, auto := true, ins := [1], res := (Rs_l1Cur_one r4), G' := (Ns_l1Cur_one r4) }, dec := some false })<|sN<|sN<|sN<|sM (.own 12 1)<|sK [0, 1, 5, 7, 3, 4] [2, 5, 6, 9, 12, 13]) (gW ns_DrawCutLoad H)))
  (fun h3 H =>
  gO (s1<|sBf 7 h3<|sN<|sN<|sN<|sN<|sM (.own 12 1)<|sK [0, 1, 5, 7, 3, 4] [2, 5, 6, 9, 12, 13]) (gW ns_DrawCutLoad H))
noncomputable def Ks_l1Rising : Ss_l1Rising → List Item
 | .h1 .. => nav 300 2 [] [.code (bdy f62)]
def Zs_l1Rising : Ss_l1Rising → St
 | .h1 l0 lo1 vhi2 t3 t4 t5 => ⟨sts 35 [(0, sl 1 I l0), (1, I lo1), (2, I vhi2), (9, sl 1 I t3), (10, I t4), (11, I t5)], []⟩
theorem ns_l1Rising : NxA 62 0 Bs_l1Rising Ks_l1Rising Zs_l1Rising RB (fun _ => [])
 | .h1 l0 lo1 vhi2 t3 t4 t5, o, H =>
  eIf H (fun h1 H =>
  eL H fun h2 x3 hx3 H =>
  eBind H fun r4 hr4 H =>
  gN (sT 0 h1<|sN<|sL 2 I h2 hx3<|sZ) <|
  eIf H (fun h5 H =>
  let s1 := fun s => sCt 3 (cs_l1In hr4) h5<|s
  eIf H (fun h6 H =>
  eL H fun h7 x8 hx8 H =>
  eIf H (fun h9 H =>
  gY func62 H (s1<|sT 7 h6<|sL 13 I h7 hx8<|sT 15 h9<|sN<|sZ))
  (fun h9 H =>
  eN H fun r hn => gO (s1<|sT 7 h6<|sL 13 I h7 hx8<|sF 15 h9<|sN<|sN<|sK [] [0, 1, 2, 9, 10, 11]) hn))
  (fun h6 H =>
  eN H fun r hn => gO (s1<|sF 7 h6<|sN<|sN<|sK [] [0, 1, 2, 9, 10, 11]) hn))
  (fun h5 H =>
  gY func62 H (sCf 3 (cs_l1In hr4) h5<|sN<|sZ)))
  (fun h1 H =>
  gY func62 H (sF 0 h1<|sN<|sZ))
theorem cs_l1Rising {a0 a1 a2 r} (H : Ds_l1Rising a0 a1 a2 = some r) : Cc 62 [sl 1 I a0, I a1, I a2] (RB r) :=
  gF func62 <|
  gO (sN<|sN<|sK [] [0, 1, 2, 9, 10, 11]) (gW ns_l1Rising H)
noncomputable def Ks_l1Has : Ss_l1Has → List Item
 | .h1 .. => nav 300 2 [] [.code (bdy f63)]
def Zs_l1Has : Ss_l1Has → St
 | .h1 n0 t1 t2 t3 => ⟨sts 17 [(1, I n0), (7, sl 1 I t1), (8, I t2), (9, I t3)], []⟩
theorem ns_l1Has : NxA 63 0 Bs_l1Has Ks_l1Has Zs_l1Has RB (fun _ => [])
 | .h1 n0 t1 t2 t3, o, H =>
  eIf H (fun h1 H =>
  eL H fun h2 x3 hx3 H =>
  gN (sT 0 h1<|sN<|sL 1 I h2 hx3<|sZ) <|
  eIf H (fun h4 H =>
  gY func63 H (sEt 2 h4<|sN<|sZ))
  (fun h4 H =>
  eN H fun r hn => gO (sEf 2 h4<|sN<|sN<|sK [] [1, 7, 8, 9]) hn))
  (fun h1 H =>
  gY func63 H (sF 0 h1<|sN<|sZ))
theorem cs_l1Has {a0 a1 r} (H : Ds_l1Has a0 a1 = some r) : Cc 63 [sl 1 I a0, I a1] (RB r) :=
  gF func63 <|
  gO (sN<|sN<|sK [] [1, 7, 8, 9]) (gW ns_l1Has H)
def Rs_CutLoad (r : Int × Bool) : List D := [I r.1, .bool r.2]
noncomputable def Ks_CutLoad : Ss_CutLoad → List Item
 | .h1 .. => nav 300 4 [false] [.code (bdy f28)]
def Zs_CutLoad : Ss_CutLoad → St
 | .h1 cut0 sum1 t2 t3 l4 => ⟨sts 58 [(2, sl 1 I cut0), (8, I sum1), (35, .ref 0 4 none), (36, I t2), (37, I t3)], [some ⟨false, false, 4, l4.length, List.map gs_qArc l4⟩]⟩
theorem ns_CutLoad : NxA 28 0 Bs_CutLoad Ks_CutLoad Zs_CutLoad Rs_CutLoad (fun _ => [])
 | .h1 cut0 sum1 t2 t3 l4, o, H =>
  eIf H (fun h1 H =>
  eL H fun h2 x3 hx3 H =>
  eBind H fun r4 hr4 H =>
  gN (sT 0 h1<|sN<|sL 1 gs_qArc h2 hx3<|sZ) <|
  eIf H (fun h5 H =>
  eBind H fun r6 hr6 H =>
  eIf H (fun h7 H =>
  eN H fun r hn => gO (sCt 3 (cs_l1Has hr4) h5<|sCt 8 (cs_l1Has hr6) h7<|sN<|sN<|sK [0] [2, 8, 35, 36, 37]) hn)
  (fun h7 H =>
  eN H fun r hn => gO (sCt 3 (cs_l1Has hr4) h5<|sCf 8 (cs_l1Has hr6) h7<|sN<|sN<|sN<|sK [0] [2, 8, 35, 36, 37]) hn))
  (fun h5 H =>
  eN H fun r hn => gO (sCf 3 (cs_l1Has hr4) h5<|sN<|sN<|sK [0] [2, 8, 35, 36, 37]) hn))
  (fun h1 H =>
  gY func28 H (sF 0 h1<|sN<|sZ))
theorem cs_CutLoad {a0 a1 a2 r} (H : Ds_CutLoad a0 a1 a2 = some r) : Cc 28 [gi_Lanes a0, I a1, sl 1 I a2] (Rs_CutLoad r) :=
  gF func28 <|
  eBind H fun r1 hr1 H =>
  gS (sZ) <|
  eIf H (fun h2 H =>
  eBind H fun r3 hr3 H =>
  let s1 := fun s => sCt 1 (cs_qGood hr1) h2<|s
  eIf H (fun h4 H =>
  eBind H fun r5 hr5 H =>
  eIf H (fun h6 H =>
  eBind H fun r7 hr7 H =>
  gO (s1<|sCt 5 (cs_l1In hr3) h4<|sCt 16 (cs_l1Rising hr5) h6<|sN<|sN<|sC 2 (cs_qNetOf hr7)<|p2 (getCells [.agg [ow 4 gs_qArc r7.arcs, I r7.places]] 0 0 1 = some [.list true 4 r7.arcs.length (List.map gs_qArc r7.arcs)]) rfl<|p2 (setCells [.agg [ow 4 gs_qArc r7.arcs, I r7.places]] 0 0 [.ref 2 4 none] = [.agg [.ref 2 4 none, I r7.places]]) rfl<|sH ({ i := 5, pre := [.take 1 0 0 4 r7.arcs.length (List.map gs_qArc r7.arcs) [.agg [.ref 2 4 none, I r7.places]]] })<|sN<|sK [2] [2, 8, 35, 36, 37]) (gW ns_CutLoad H))
  (fun h6 H =>
  gX Rs_CutLoad func28 H (s1<|sCt 5 (cs_l1In hr3) h4<|sCf 16 (cs_l1Rising hr5) h6<|sN<|sZ)))
  (fun h4 H =>
  gX Rs_CutLoad func28 H (s1<|sCf 5 (cs_l1In hr3) h4<|sN<|sZ)))
  (fun h2 H =>
  gX Rs_CutLoad func28 H (sCf 1 (cs_qGood hr1) h2<|sN<|sZ))
noncomputable def Kw_pSameLanes : Sw_pSameLanes → List Item
 | .h1 .. => nav 300 3 [false] [.code (bdy f29)]
def Zw_pSameLanes : Sw_pSameLanes → St
 | .h1 t0 t1 b2 b3 => ⟨sts 46 [(2, .ptr 0 3 0 0), (3, .ptr 1 3 0 0), (30, I t0), (31, I t1)], [some ⟨false, true, 3, 1, [gi_Lanes b2]⟩, some ⟨false, true, 3, 1, [gi_Lanes b3]⟩]⟩
theorem nw_pSameLanes : NxA 29 0 Bw_pSameLanes Kw_pSameLanes Zw_pSameLanes RB (fun _ => [])
 | .h1 t0 t1 b2 b3, o, H =>
  eIf H (fun h1 H =>
  eL H fun h2 x3 hx3 H =>
  eL H fun h4 x5 hx5 H =>
  gN (sT 0 h1<|sN<|sZ) <|
  eIf H (fun h6 H =>
  gY func29 H (sL 4 gi_Lane h2 hx3<|sL 9 gi_Lane h4 hx5<|sBt 10 h6<|sN<|sZ))
  (fun h6 H =>
  eN H fun r hn => gO (sL 4 gi_Lane h2 hx3<|sL 9 gi_Lane h4 hx5<|sBf 10 h6<|sN<|sN<|sK [0, 1] [2, 3, 30, 31]) hn))
  (fun h1 H =>
  gY func29 H (sF 0 h1<|sN<|sZ))
theorem cw_pSameLanes {a0 a1 r} (H : Dw_pSameLanes a0 a1 = some r) : Cc 29 [gi_Lanes a0, gi_Lanes a1] (RB r) :=
  gF func29 <|
  gS (sZ) <|
  eIf H (fun h1 H =>
  eBind H fun r2 hr2 H =>
  eIf H (fun h3 H =>
  eIf H (fun h4 H =>
  gO (sNf 4 h1<|sCt 10 (cw_sameInts hr2) h3<|sNf 20 h4<|sN<|sN<|sK [0, 1] [2, 3, 30, 31]) (gW nw_pSameLanes H))
  (fun h4 H =>
  gX RB func29 H (sNf 4 h1<|sCt 10 (cw_sameInts hr2) h3<|sNt 20 h4<|sN<|sZ)))
  (fun h3 H =>
  gX RB func29 H (sNf 4 h1<|sCf 10 (cw_sameInts hr2) h3<|sN<|sZ)))
  (fun h1 H =>
  gX RB func29 H (sNt 4 h1<|sN<|sZ))
theorem cs_IsLanes {a0 r} (H : Ds_IsLanes a0 = some r) : Cc 31 [gi_Lanes a0] (RB r) :=
  gF func31 <|
  eBind H fun r1 hr1 H =>
  gX RB func31 H (sN<|sC 1 (cs_qGood hr1)<|sZ)
theorem cw_FnLanes {a0 a1 r} (H : Dw_FnLanes a0 a1 = some r) : Cc 4 [sl 1 (D.int .u8) a0, sl 1 (D.int .u8) a1] (RB r) :=
  gF func4 <|
  eBind H fun r1 hr1 H =>
  gS (sZ) <|
  eIf H (fun h2 H =>
  gX RB func4 H (sCt 2 (cw_big hr1) h2<|sN<|sZ))
  (fun h2 H =>
  eBind H fun r3 hr3 H =>
  eBind H fun r4 hr4 H =>
  gS (sCf 2 (cw_big hr1) h2<|sN<|sC 1 (cs_DrawCheckConvoys hr3)<|sZ) <|
  let s1 := fun s => sCk 5 false [] (ci_CheckConvoys hr4)<|s
  eIf H (fun h5 H =>
  eBind H fun r6 hr6 H =>
  gS (s1<|sBt 9 h5<|sN<|sCk 5 false [] (cs_CheckConvoys hr6)<|sZ) <|
  eIf H (fun h7 H =>
  gX RB func4 H (sBt 2 h7<|sN<|sZ))
  (fun h7 H =>
  let s2 := fun s => sBf 2 h7<|s
  eIf H (fun h8 H =>
  let s3 := fun s => s2<|sNf 6 h8<|s
  eIf H (fun h9 H =>
  eBind H fun r10 hr10 H =>
  gS (s3<|sNf 11 h9<|sZ) <|
  let s4 := fun s => sCk 4 false [] (ci_GreatestDelivery hr10)<|s
  eIf H (fun h11 H =>
  gS (s4<|sBt 7 h11<|sZ) <|
  eIf H (fun h12 H =>
  gX RB func4 H (sT 7 h12<|sN<|sZ))
  (fun h12 H =>
  eBind H fun r13 hr13 H =>
  eBind H fun r14 hr14 H =>
  gS (sF 7 h12<|sN<|p2 (nfL (List.flatMap D.cells (Ri_CriticalLanes r13))) ⟨nfL_map nf_3 _, trivial, trivial⟩<|p2 (nfG []) trivial<|sCk 4 false [] (ci_CriticalLanes hr13)<|sN<|p2 (nfL (List.flatMap D.cells (Rs_CriticalLanes r14))) ⟨nfL_map nf_3 _, trivial, trivial⟩<|p2 (nfG []) trivial<|sCk 4 false [] (cs_CriticalLanes hr14)<|sZ) <|
  eIf H (fun h15 H =>
  gX RB func4 H (sBt 2 h15<|sN<|sZ))
  (fun h15 H =>
  eBind H fun r16 hr16 H =>
  let s5 := fun s => sBf 2 h15<|s
  eIf H (fun h17 H =>
  eBind H fun r18 hr18 H =>
  eBind H fun r19 hr19 H =>
  eBind H fun r20 hr20 H =>
  eBind H fun r21 hr21 H =>
  eBind H fun r22 hr22 H =>
  eBind H fun r23 hr23 H =>
  gS (s5<|p1 (cw_sameInts hr16)<|p2 (r16 = true) (h17)<|sH ({ i := 6, call := some { cl := false, auto := true, ins := [], res := (RB r16), G' := [] }, dec := some true })<|sN<|sC 1 (cs_DrawWithoutLane hr18)<|sN<|p2 (nfL (List.flatMap D.cells (Ri_WithoutLane r19))) ⟨trivial, nfL_map nf_69 _, nfL_map nf_3 _, trivial, trivial⟩<|p2 (nfG []) trivial<|sCk 2 false [] (ci_WithoutLane hr19)<|sN<|p2 (nfL (List.flatMap D.cells (Rs_WithoutLane r20))) ⟨trivial, nfL_map nf_69 _, nfL_map nf_3 _, trivial, trivial⟩<|p2 (nfG []) trivial<|sCk 2 false [] (cs_WithoutLane hr20)<|sN<|sC 1 (cs_DrawCutLoad hr21)<|sN<|sCk 3 false [] (ci_CutLoad hr22)<|sN<|sCk 3 false [] (cs_CutLoad hr23)<|sZ) <|
  eIf H (fun h24 H =>
  eBind H fun r25 hr25 H =>
  eIf H (fun h26 H =>
  let s6 := fun s => sBt 2 h24<|p1 (cw_pSameLanes hr25)<|p2 (r25 = true) (h26)<|sH ({ i := 6, call := some { cl := false, auto := true, ins := [], res := (RB r25), G' := [] }, dec := some true })<|s
  eIf H (fun h27 H =>
  eIf H (fun h28 H =>
  eBind H fun r29 hr29 H =>
  eBind H fun r30 hr30 H =>
  gX RB func4 H (s6<|sBt 11 h27<|sEt 16 h28<|sCk 20 false [] (ci_IsLanes hr29)<|sCk 22 false [] (cs_IsLanes hr30)<|sZ))
  (fun h28 H =>
  gX RB func4 H (s6<|sBt 11 h27<|sEf 16 h28<|sZ)))
  (fun h27 H =>
  gX RB func4 H (s6<|sBf 11 h27<|sZ)))
  (fun h26 H =>
  gX RB func4 H (sBt 2 h24<|p1 (cw_pSameLanes hr25)<|p2 (r25 = false) (eqF h26)<|sH ({ i := 6, call := some { cl := false, auto := true, ins := [], res := (RB r25), G' := [] }, dec := some false })<|sZ)))
  (fun h24 H =>
  gX RB func4 H (sBf 2 h24<|sZ)))
  (fun h17 H =>
  gX RB func4 H (s5<|p1 (cw_sameInts hr16)<|p2 (r16 = false) (eqF h17)<|sH ({ i := 6, call := some { cl := false, auto := true, ins := [], res := (RB r16), G' := [] }, dec := some false })<|sN<|sZ)))))
  (fun h11 H =>
  gX RB func4 H (s4<|sBf 7 h11<|sN<|sN<|sZ)))
  (fun h9 H =>
  gX RB func4 H (s3<|sNt 11 h9<|sN<|sZ)))
  (fun h8 H =>
  gX RB func4 H (s2<|sNt 6 h8<|sN<|sZ))))
  (fun h5 H =>
  eBind H fun r6 hr6 H =>
  gS (s1<|sBf 9 h5<|sN<|sCk 5 false [] (cs_CheckConvoys hr6)<|sZ) <|
  eIf H (fun h7 H =>
  gX RB func4 H (sBt 2 h7<|sN<|sZ))
  (fun h7 H =>
  let s7 := fun s => sBf 2 h7<|s
  eIf H (fun h8 H =>
  let s8 := fun s => s7<|sNf 6 h8<|s
  eIf H (fun h9 H =>
  eBind H fun r10 hr10 H =>
  eBind H fun r11 hr11 H =>
  eBind H fun r12 hr12 H =>
  gS (s8<|sNf 11 h9<|sN<|sCk 4 false [] (ci_GreatestDelivery hr10)<|sN<|sN<|p2 (nfL (List.flatMap D.cells (Ri_CriticalLanes r11))) ⟨nfL_map nf_3 _, trivial, trivial⟩<|p2 (nfG []) trivial<|sCk 4 false [] (ci_CriticalLanes hr11)<|sN<|p2 (nfL (List.flatMap D.cells (Rs_CriticalLanes r12))) ⟨nfL_map nf_3 _, trivial, trivial⟩<|p2 (nfG []) trivial<|sCk 4 false [] (cs_CriticalLanes hr12)<|sZ) <|
  eIf H (fun h13 H =>
  gX RB func4 H (sBt 2 h13<|sN<|sZ))
  (fun h13 H =>
  eBind H fun r14 hr14 H =>
  let s9 := fun s => sBf 2 h13<|s
  eIf H (fun h15 H =>
  eBind H fun r16 hr16 H =>
  eBind H fun r17 hr17 H =>
  eBind H fun r18 hr18 H =>
  eBind H fun r19 hr19 H =>
  eBind H fun r20 hr20 H =>
  eBind H fun r21 hr21 H =>
  gS (s9<|p1 (cw_sameInts hr14)<|p2 (r14 = true) (h15)<|sH ({ i := 6, call := some { cl := false, auto := true, ins := [], res := (RB r14), G' := [] }, dec := some true })<|sN<|sC 1 (cs_DrawWithoutLane hr16)<|sN<|p2 (nfL (List.flatMap D.cells (Ri_WithoutLane r17))) ⟨trivial, nfL_map nf_69 _, nfL_map nf_3 _, trivial, trivial⟩<|p2 (nfG []) trivial<|sCk 2 false [] (ci_WithoutLane hr17)<|sN<|p2 (nfL (List.flatMap D.cells (Rs_WithoutLane r18))) ⟨trivial, nfL_map nf_69 _, nfL_map nf_3 _, trivial, trivial⟩<|p2 (nfG []) trivial<|sCk 2 false [] (cs_WithoutLane hr18)<|sN<|sC 1 (cs_DrawCutLoad hr19)<|sN<|sCk 3 false [] (ci_CutLoad hr20)<|sN<|sCk 3 false [] (cs_CutLoad hr21)<|sZ) <|
  eIf H (fun h22 H =>
  eBind H fun r23 hr23 H =>
  eIf H (fun h24 H =>
  let s10 := fun s => sBt 2 h22<|p1 (cw_pSameLanes hr23)<|p2 (r23 = true) (h24)<|sH ({ i := 6, call := some { cl := false, auto := true, ins := [], res := (RB r23), G' := [] }, dec := some true })<|s
  eIf H (fun h25 H =>
  eIf H (fun h26 H =>
  eBind H fun r27 hr27 H =>
  eBind H fun r28 hr28 H =>
  gX RB func4 H (s10<|sBt 11 h25<|sEt 16 h26<|sCk 20 false [] (ci_IsLanes hr27)<|sCk 22 false [] (cs_IsLanes hr28)<|sZ))
  (fun h26 H =>
  gX RB func4 H (s10<|sBt 11 h25<|sEf 16 h26<|sZ)))
  (fun h25 H =>
  gX RB func4 H (s10<|sBf 11 h25<|sZ)))
  (fun h24 H =>
  gX RB func4 H (sBt 2 h22<|p1 (cw_pSameLanes hr23)<|p2 (r23 = false) (eqF h24)<|sH ({ i := 6, call := some { cl := false, auto := true, ins := [], res := (RB r23), G' := [] }, dec := some false })<|sZ)))
  (fun h22 H =>
  gX RB func4 H (sBf 2 h22<|sZ)))
  (fun h15 H =>
  gX RB func4 H (s9<|p1 (cw_sameInts hr14)<|p2 (r14 = false) (eqF h15)<|sH ({ i := 6, call := some { cl := false, auto := true, ins := [], res := (RB r14), G' := [] }, dec := some false })<|sN<|sZ))))
  (fun h9 H =>
  gX RB func4 H (s8<|sNt 11 h9<|sN<|sZ)))
  (fun h8 H =>
  gX RB func4 H (s7<|sNt 6 h8<|sN<|sZ)))))
end Go.Proofs.Ytnfeelacifllmaa.Ab
