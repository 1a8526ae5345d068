/- Part of the proof of FnExactNextDue: no condition of its own. -/
import Derived.Test.YtipolkdlaepcaaaA1C
set_option linter.unusedVariables false
set_option linter.unusedSimpArgs false
open Go Go.Proofs
namespace Go.Proofs.Ytipolkdlaepcaaa.Ab
/-! loop example/g00886/spec ChildOf -/
noncomputable def b25 : Code := match Go.Proofs.Try.f25.body with | some c => c | none => .skip
theorem F25 : X.P.funcs[25]? = some Go.Proofs.Try.f25 := by kernel_rfl
def R25 (r : (List G53) × Int × Bool) : List D := [ow 3 g53 r.1, .int .i64 r.2.1, .bool r.2.2]
def N25 (r : (List G53) × Int × Bool) : List Root := []
theorem c25 {a0 : (List G53)} {a1 : Int} {a2 : Int} {r : (List G53) × Int × Bool} (H : D25 a0 a1 a2 = some r) : Ct X.P X.gl 25 [sl 3 g53 a0, .int .i64 a1, .int .i64 a2] [] (R25 r) (N25 r) :=
  Ct.of F25 (c := b25) (by kernel_rfl) (by kernel_rfl) <|
  eBind H fun r1 hr1 H =>
  eIf H (fun h2 H =>
    eBind H fun r3 hr3 H =>
    eIf H (fun h4 H =>
      eBind H fun r5 hr5 H =>
      eRet (P := fun r => Wc X 25 0 _ _ (R25 r) (N25 r)) H <| runFin_ok T_ok mixed F25 (cmds := [.reg [],
    .reg [{ i := 2, call := some { cl := true, ins := [], args := [sl 3 g53 a0, .int .i64 a1], res := R43 r1, G' := N43 r1 }, dec := some true }, { i := 6, call := some { cl := true, ins := [], args := [.int .i64 a2], res := R48 r3, G' := N48 r3 }, dec := some true }],
    .reg [{ i := 3, call := some { cl := true, ins := [], args := [sl 3 g53 a0, .int .i64 a1, .int .i64 a2], res := R49 r5, G' := N49 r5 } }]]) (by kernel_rfl) (PL g53 a0 <| PI (a1 : Int) <| P1 (c43 hr1) <| P2 (r1 = true) (h2) <| PI (a2 : Int) <| P1 (c48 hr3) <| P2 (r3 = true) (h4) <| PL g53 a0 <| PI (a1 : Int) <| PI (a2 : Int) <| P1 (c49 hr5) <| PR g53 r5.1 <| PI (r5.2.1 : Int) <| PI r5.2.2 <| P0))
    (fun h4 H =>
      eRet (P := fun r => Wc X 25 0 _ _ (R25 r) (N25 r)) H <| runFin_ok T_ok mixed F25 (cmds := [.reg [],
    .reg [{ i := 2, call := some { cl := true, ins := [], args := [sl 3 g53 a0, .int .i64 a1], res := R43 r1, G' := N43 r1 }, dec := some true }, { i := 6, call := some { cl := true, ins := [], args := [.int .i64 a2], res := R48 r3, G' := N48 r3 }, dec := some false }],
    .reg []]) (by kernel_rfl) (PL g53 a0 <| PI (a1 : Int) <| P1 (c43 hr1) <| P2 (r1 = true) (h2) <| PI (a2 : Int) <| P1 (c48 hr3) <| P2 (r3 = false) (eqF h4) <| PI (0 : Nat) <| PI ([] : List D) <| PI (0 : Int) <| PI false <| P0)))
  (fun h2 H =>
    eRet (P := fun r => Wc X 25 0 _ _ (R25 r) (N25 r)) H <| runFin_ok T_ok mixed F25 (cmds := [.reg [],
    .reg [{ i := 2, call := some { cl := true, ins := [], args := [sl 3 g53 a0, .int .i64 a1], res := R43 r1, G' := N43 r1 }, dec := some false }],
    .reg []]) (by kernel_rfl) (PL g53 a0 <| PI (a1 : Int) <| P1 (c43 hr1) <| P2 (r1 = false) (eqF h2) <| PI (0 : Nat) <| PI ([] : List D) <| PI (0 : Int) <| PI false <| P0))
/-! slices Clone -/
noncomputable def b59 : Code := match Go.Proofs.Try.f59.body with | some c => c | none => .skip
theorem F59 : X.P.funcs[59]? = some Go.Proofs.Try.f59 := by kernel_rfl
def R59 (r : List G53) : List D := [ow 3 g53 r]
def N59 (r : List G53) : List Root := []
theorem c59 {l r : List G53} (H : D59 l = some r) : Ct X.P X.gl 59 [sl 3 g53 l] [] (R59 r) (N59 r) :=
  eCk H fun h H => eRet (P := fun r => Ct X.P X.gl 59 [sl 3 g53 l] [] (R59 r) (N59 r)) H <|
    Ct.of F59 (c := b59) (by kernel_rfl) (by kernel_rfl) <| by
      by_cases h0 : 0 < List.length l
      · exact runFin_ok T_ok mixed F59 (cmds := [.reg [], .reg [{ i := 1, keep := true }], .reg [{ i := 2, n := List.length l, xs := List.map g53 l }]]) (by kernel_rfl) (P1 h0 <| P1 (allFl_53 l) <| P2 (List.length l = 0 + List.length l) (by simp) <| P2 ((0 + List.length l) * 24 ≤ 70368744177664) (by simpa using h) <| P2 (([] : List D) ++ List.map g53 l = List.map g53 l) rfl <| PR g53 l P0)
      · have e : l = [] := by cases l with | nil => rfl | cons x l => exact absurd (Nat.succ_pos _) h0
        subst e
        refine run_ok T_ok mixed (cmds := [.reg [], .reg [], .stop]) (k' := nav 300 2 [] [.code b59]) (σ' := ⟨sts 8 [(0, sl 3 g53 []), (2, .nil), (3, sl 3 g53 []), (4, .anyb)], []⟩) (by kernel_rfl) P0 (Wc.anyb 4 (by kernel_rfl) fun b => ?_)
        cases b with
        | true => exact runFin_ok T_ok mixed F59 (cmds := [.reg []]) (by kernel_rfl) (PI (0 : Nat) <| PI ([] : List D) P0)
        | false =>
          have h : List.length ([] : List G53) * 24 ≤ 70368744177664 := by decide
          have : Wc X 59 0 (nav 300 2 [] [.code b59]) ⟨sts 8 [(0, sl 3 g53 []), (2, .nil), (3, sl 3 g53 []), (4, .bool false)], []⟩ (R59 []) [] := by
            generalize hl : ([] : List G53) = l at h ⊢
            exact runFin_ok T_ok mixed F59 (cmds := [.reg [{ i := 2, n := List.length l, xs := List.map g53 l }]]) (by kernel_rfl) (P1 (allFl_53 l) <| P2 (List.length l = 0 + List.length l) (by simp) <| P2 ((0 + List.length l) * 24 ≤ 70368744177664) (by simpa using h) <| P2 (([] : List D) ++ List.map g53 l = List.map g53 l) rfl <| PR g53 l P0)
          exact this
/-! loop example/g00886/impl childOf -/
noncomputable def b50 : Code := match Go.Proofs.Try.f50.body with | some c => c | none => .skip
theorem F50 : X.P.funcs[50]? = some Go.Proofs.Try.f50 := by kernel_rfl
def R50 (r : (List G53) × Int × Bool) : List D := [ow 3 g53 r.1, .int .i64 r.2.1, .bool r.2.2]
def N50 (r : (List G53) × Int × Bool) : List Root := []
theorem c50 {a0 : (List G53)} {a1 : Int} {a2 : Int} {r : (List G53) × Int × Bool} (H : D50 a0 a1 a2 = some r) : Ct X.P X.gl 50 [sl 3 g53 a0, .int .i64 a1, .int .i64 a2] [] (R50 r) (N50 r) :=
  Ct.of F50 (c := b50) (by kernel_rfl) (by kernel_rfl) <|
  eBind H fun r1 hr1 H =>
  eIf H (fun h2 H =>
    eBind H fun r3 hr3 H =>
    eRet (P := fun r => Wc X 50 0 _ _ (R50 r) (N50 r)) H <| runFin_ok T_ok mixed F50 (cmds := [.reg [],
    .reg [{ i := 3, call := some { cl := true, ins := [], args := [sl 3 g53 a0, .int .i64 a1, .int .i64 a2], res := R40 r1, G' := N40 r1 } }],
    .reg [{ i := 1, dec := some true }],
    .reg [{ i := 1, call := some { cl := true, ins := [], args := [sl 3 g53 a0], res := R59 r3, G' := N59 r3 } }]]) (by kernel_rfl) (PL g53 a0 <| PI (a1 : Int) <| PI (a2 : Int) <| P1 (c40 hr1) <| P2 ((decide (r1 ≥ 0)) = true) (decide_eq_true h2) <| PL g53 a0 <| P1 (c59 hr3) <| PR g53 r3 <| PI (r1 : Int) <| PI true <| P0))
  (fun h2 H =>
    eIf H (fun h3 H =>
      eRet (P := fun r => Wc X 50 0 _ _ (R50 r) (N50 r)) H <| runFin_ok T_ok mixed F50 (cmds := [.reg [],
    .reg [{ i := 3, call := some { cl := true, ins := [], args := [sl 3 g53 a0, .int .i64 a1, .int .i64 a2], res := R40 r1, G' := N40 r1 } }],
    .reg [{ i := 1, dec := some false }],
    .reg [{ i := 2, dec := some true }],
    .reg []]) (by kernel_rfl) (PL g53 a0 <| PI (a1 : Int) <| PI (a2 : Int) <| P1 (c40 hr1) <| P2 ((decide (r1 ≥ 0)) = false) (decide_eq_false h2) <| P2 (((((List.length a0 : Nat) : Int) : Int) == 40) = true) (beqT h3) <| PI (0 : Nat) <| PI ([] : List D) <| PI (0 : Int) <| PI false <| P0))
    (fun h3 H =>
      eCk H fun h4 H =>
      eBind H fun x5 hx5 H =>
      eIf H (fun h6 H =>
        eRet (P := fun r => Wc X 50 0 _ _ (R50 r) (N50 r)) H <| runFin_ok T_ok mixed F50 (cmds := [.reg [],
    .reg [{ i := 3, call := some { cl := true, ins := [], args := [sl 3 g53 a0, .int .i64 a1, .int .i64 a2], res := R40 r1, G' := N40 r1 } }],
    .reg [{ i := 1, dec := some false }],
    .reg [{ i := 2, dec := some false }, { i := 8, xs := [.int .i64 x5.Turn] }, { i := 9, dec := some true }],
    .reg []]) (by kernel_rfl) (PL g53 a0 <| PI (a1 : Int) <| PI (a2 : Int) <| P1 (c40 hr1) <| P2 ((decide (r1 ≥ 0)) = false) (decide_eq_false h2) <| P2 (((((List.length a0 : Nat) : Int) : Int) == 40) = false) (beqF h3) <| P2 ((0 : Int) ≤ a1) h4 <| P2 (a1 < (List.length a0 : Int)) (int_lt_of_at (h4) hx5) <| P2 (getCells (List.map g53 a0) (Int.toNat a1) 1 1 = some [.int .i64 x5.Turn]) (getCells_map hx5 rfl) <| P2 (((x5.Turn : Int) == 30) = true) (beqT h6) <| PI (0 : Nat) <| PI ([] : List D) <| PI (0 : Int) <| PI false <| P0))
      (fun h6 H =>
        eBind H fun r7 hr7 H =>
        eCk H fun h8 H =>
        eBind H fun x9 hx9 H =>
        eCk H fun h10 H =>
        eRet (P := fun r => Wc X 50 0 _ _ (R50 r) (N50 r)) H <| runFin_ok T_ok mixed F50 (cmds := [.reg [],
    .reg [{ i := 3, call := some { cl := true, ins := [], args := [sl 3 g53 a0, .int .i64 a1, .int .i64 a2], res := R40 r1, G' := N40 r1 } }],
    .reg [{ i := 1, dec := some false }],
    .reg [{ i := 2, dec := some false }, { i := 8, xs := [.int .i64 x5.Turn] }, { i := 9, dec := some false }],
    .reg [{ i := 1, call := some { cl := true, ins := [], args := [sl 3 g53 a0], res := R59 r7, G' := N59 r7 } }, { i := 7, xs := [.int .i64 x9.Turn] }, { i := 12, n := List.length (r7 ++ [(G53.mk a1 (IntKind.wrap .i64 (x9.Turn + 1)) a2)]), xs := List.map g53 (r7 ++ [(G53.mk a1 (IntKind.wrap .i64 (x9.Turn + 1)) a2)]) }]]) (by kernel_rfl) (PL g53 a0 <| PI (a1 : Int) <| PI (a2 : Int) <| P1 (c40 hr1) <| P2 ((decide (r1 ≥ 0)) = false) (decide_eq_false h2) <| P2 (((((List.length a0 : Nat) : Int) : Int) == 40) = false) (beqF h3) <| P2 ((0 : Int) ≤ a1) h4 <| P2 (a1 < (List.length a0 : Int)) (int_lt_of_at (h4) hx5) <| P2 (getCells (List.map g53 a0) (Int.toNat a1) 1 1 = some [.int .i64 x5.Turn]) (getCells_map hx5 rfl) <| P2 (((x5.Turn : Int) == 30) = false) (beqF h6) <| PL g53 a0 <| P1 (c59 hr7) <| P2 ((0 : Int) ≤ a1) h8 <| P2 (a1 < (List.length a0 : Int)) (int_lt_of_at (h8) hx9) <| P2 (getCells (List.map g53 a0) (Int.toNat a1) 1 1 = some [.int .i64 x9.Turn]) (getCells_map hx9 rfl) <| P2 (List.length (r7 ++ [(G53.mk a1 (IntKind.wrap .i64 (x9.Turn + 1)) a2)]) = List.length r7 + List.length [(G53.mk a1 (IntKind.wrap .i64 (x9.Turn + 1)) a2)]) (by simp <;> omega) <| P2 ((List.length r7 + List.length [(G53.mk a1 (IntKind.wrap .i64 (x9.Turn + 1)) a2)]) * 24 ≤ 70368744177664) (by have := h10; simp at this ⊢ <;> omega) <| P2 (List.map g53 r7 ++ List.map g53 [(G53.mk a1 (IntKind.wrap .i64 (x9.Turn + 1)) a2)] = List.map g53 (r7 ++ [(G53.mk a1 (IntKind.wrap .i64 (x9.Turn + 1)) a2)])) (by simp) <| PR g53 (r7 ++ [(G53.mk a1 (IntKind.wrap .i64 (x9.Turn + 1)) a2)]) <| PI (((List.length a0 : Nat) : Int) : Int) <| PI true <| P0))))
/-! loop example/g00886/impl ChildOf -/
noncomputable def b26 : Code := match Go.Proofs.Try.f26.body with | some c => c | none => .skip
theorem F26 : X.P.funcs[26]? = some Go.Proofs.Try.f26 := by kernel_rfl
def R26 (r : (List G53) × Int × Bool) : List D := [ow 3 g53 r.1, .int .i64 r.2.1, .bool r.2.2]
def N26 (r : (List G53) × Int × Bool) : List Root := []
theorem c26 {a0 : (List G53)} {a1 : Int} {a2 : Int} {r : (List G53) × Int × Bool} (H : D26 a0 a1 a2 = some r) : Ct X.P X.gl 26 [sl 3 g53 a0, .int .i64 a1, .int .i64 a2] [] (R26 r) (N26 r) :=
  Ct.of F26 (c := b26) (by kernel_rfl) (by kernel_rfl) <|
  eBind H fun r1 hr1 H =>
  eIf H (fun h2 H =>
    eBind H fun r3 hr3 H =>
    eIf H (fun h4 H =>
      eBind H fun r5 hr5 H =>
      eIf H (fun h6 H =>
        eBind H fun r7 hr7 H =>
        eRet (P := fun r => Wc X 26 0 _ _ (R26 r) (N26 r)) H <| runFin_ok T_ok mixed F26 (cmds := [.reg [],
    .reg [{ i := 1, call := some { cl := true, ins := [], args := [sl 3 g53 a0], res := R17 r1, G' := N17 r1 }, dec := some true }, { i := 7, call := some { cl := true, ins := [], args := [.int .i64 a1, .int .i64 ((List.length a0 : Nat) : Int)], res := R39 r3, G' := N39 r3 }, dec := some true }, { i := 12, call := some { cl := true, ins := [], args := [.int .i64 a2], res := R33 r5, G' := N33 r5 }, dec := some true }],
    .reg [{ i := 3, call := some { cl := true, ins := [], args := [sl 3 g53 a0, .int .i64 a1, .int .i64 a2], res := R50 r7, G' := N50 r7 } }]]) (by kernel_rfl) (PL g53 a0 <| P1 (c17 hr1) <| P2 (r1 = true) (h2) <| PI (a1 : Int) <| PI (((List.length a0 : Nat) : Int) : Int) <| P1 (c39 hr3) <| P2 (r3 = true) (h4) <| PI (a2 : Int) <| P1 (c33 hr5) <| P2 (r5 = true) (h6) <| PL g53 a0 <| PI (a1 : Int) <| PI (a2 : Int) <| P1 (c50 hr7) <| PR g53 r7.1 <| PI (r7.2.1 : Int) <| PI r7.2.2 <| P0))
      (fun h6 H =>
        eRet (P := fun r => Wc X 26 0 _ _ (R26 r) (N26 r)) H <| runFin_ok T_ok mixed F26 (cmds := [.reg [],
    .reg [{ i := 1, call := some { cl := true, ins := [], args := [sl 3 g53 a0], res := R17 r1, G' := N17 r1 }, dec := some true }, { i := 7, call := some { cl := true, ins := [], args := [.int .i64 a1, .int .i64 ((List.length a0 : Nat) : Int)], res := R39 r3, G' := N39 r3 }, dec := some true }, { i := 12, call := some { cl := true, ins := [], args := [.int .i64 a2], res := R33 r5, G' := N33 r5 }, dec := some false }],
    .reg []]) (by kernel_rfl) (PL g53 a0 <| P1 (c17 hr1) <| P2 (r1 = true) (h2) <| PI (a1 : Int) <| PI (((List.length a0 : Nat) : Int) : Int) <| P1 (c39 hr3) <| P2 (r3 = true) (h4) <| PI (a2 : Int) <| P1 (c33 hr5) <| P2 (r5 = false) (eqF h6) <| PI (0 : Nat) <| PI ([] : List D) <| PI (0 : Int) <| PI false <| P0)))
    (fun h4 H =>
      eRet (P := fun r => Wc X 26 0 _ _ (R26 r) (N26 r)) H <| runFin_ok T_ok mixed F26 (cmds := [.reg [],
    .reg [{ i := 1, call := some { cl := true, ins := [], args := [sl 3 g53 a0], res := R17 r1, G' := N17 r1 }, dec := some true }, { i := 7, call := some { cl := true, ins := [], args := [.int .i64 a1, .int .i64 ((List.length a0 : Nat) : Int)], res := R39 r3, G' := N39 r3 }, dec := some false }],
    .reg []]) (by kernel_rfl) (PL g53 a0 <| P1 (c17 hr1) <| P2 (r1 = true) (h2) <| PI (a1 : Int) <| PI (((List.length a0 : Nat) : Int) : Int) <| P1 (c39 hr3) <| P2 (r3 = false) (eqF h4) <| PI (0 : Nat) <| PI ([] : List D) <| PI (0 : Int) <| PI false <| P0)))
  (fun h2 H =>
    eRet (P := fun r => Wc X 26 0 _ _ (R26 r) (N26 r)) H <| runFin_ok T_ok mixed F26 (cmds := [.reg [],
    .reg [{ i := 1, call := some { cl := true, ins := [], args := [sl 3 g53 a0], res := R17 r1, G' := N17 r1 }, dec := some false }],
    .reg []]) (by kernel_rfl) (PL g53 a0 <| P1 (c17 hr1) <| P2 (r1 = false) (eqF h2) <| PI (0 : Nat) <| PI ([] : List D) <| PI (0 : Int) <| PI false <| P0))
/-! loop example/g00886/laws markNodeS -/
noncomputable def b27 : Code := match Go.Proofs.Try.f27.body with | some c => c | none => .skip
theorem F27 : X.P.funcs[27]? = some Go.Proofs.Try.f27 := by kernel_rfl
def R27 (r : Int × (List G53)) : List D := [.int .i64 r.1]
def N27 (r : Int × (List G53)) : List Root := [⟨false, false, 3, List.length r.2, List.map g53 r.2⟩]
noncomputable def K27 : S27 → List Item
  | .h1 .. => nav 300 2 [] [.code b27]
def Z27 : S27 → St
  | .h1 k0 i1 l2 => ⟨sts 34 [(0, .ref 0 3 none), (1, .int .i64 k0), (5, .int .i64 i1)], [some ⟨false, false, 3, List.length l2, List.map g53 l2⟩]⟩
theorem n27 : ∀ s o, B27 s = some o → Nx X 27 1 K27 Z27 R27 N27 (K27 s) (Z27 s) o
  | .h1 k0 i1 l2, o, H =>
    eIf H (fun h1 H =>
      eCk H fun h2 H =>
      eBind H fun x3 hx3 H =>
      eCk H fun h4 H =>
      eBind H fun x5 hx5 H =>
      eCk H fun h6 H =>
      eBind H fun x7 hx7 H =>
      eRet (P := Nx X 27 1 K27 Z27 R27 N27 (K27 (.h1 k0 i1 l2)) (Z27 (.h1 k0 i1 l2))) H fun r hn => run_ok T_ok mixed (cmds := [.reg [{ i := 3, dec := some true }],
    .reg [{ i := 5, xs := List.map g53 (List.set l2 (Int.toNat i1) (G53.mk k0 x3.Turn x3.Hash)), n := List.length (List.set l2 (Int.toNat i1) (G53.mk k0 x3.Turn x3.Hash)) }],
    .reg [],
    .reg [{ i := 5, xs := List.map g53 (List.set (List.set l2 (Int.toNat i1) (G53.mk k0 x3.Turn x3.Hash)) (Int.toNat i1) (G53.mk x5.Parent (IntKind.wrap .i64 (k0 + 1)) x5.Hash)), n := List.length (List.set (List.set l2 (Int.toNat i1) (G53.mk k0 x3.Turn x3.Hash)) (Int.toNat i1) (G53.mk x5.Parent (IntKind.wrap .i64 (k0 + 1)) x5.Hash)) }],
    .reg [],
    .reg [{ i := 5, xs := List.map g53 (List.set (List.set (List.set l2 (Int.toNat i1) (G53.mk k0 x3.Turn x3.Hash)) (Int.toNat i1) (G53.mk x5.Parent (IntKind.wrap .i64 (k0 + 1)) x5.Hash)) (Int.toNat i1) (G53.mk x7.Parent x7.Turn (IntKind.wrap .i64 ((IntKind.wrap .i64 (k0 + 1)) + 1)))), n := List.length (List.set (List.set (List.set l2 (Int.toNat i1) (G53.mk k0 x3.Turn x3.Hash)) (Int.toNat i1) (G53.mk x5.Parent (IntKind.wrap .i64 (k0 + 1)) x5.Hash)) (Int.toNat i1) (G53.mk x7.Parent x7.Turn (IntKind.wrap .i64 ((IntKind.wrap .i64 (k0 + 1)) + 1)))) }],
    .reg [],
    .reg [],
    .canon [0] [0, 1, 5]]) (by kernel_rfl) (P2 ((decide (i1 < ((List.length l2 : Nat) : Int))) = true) (decide_eq_true h1) <| P2 ((0 : Int) ≤ i1) h2 <| P2 (i1 < (List.length l2 : Int)) (int_lt_of_at (h2) hx3) <| P1 (lt_of_at hx3) <| P2 (setCells (List.map g53 l2) (Int.toNat i1) 0 [.int .i64 k0] = List.map g53 (List.set l2 (Int.toNat i1) (G53.mk k0 x3.Turn x3.Hash))) (setCells_map hx3 rfl) <| P2 (List.length l2 = List.length (List.set l2 (Int.toNat i1) (G53.mk k0 x3.Turn x3.Hash))) (by simp) <| P2 ((0 : Int) ≤ i1) h4 <| P2 (i1 < (List.length (List.set l2 (Int.toNat i1) (G53.mk k0 x3.Turn x3.Hash)) : Int)) (int_lt_of_at (h4) hx5) <| P1 (lt_of_at hx5) <| P2 (setCells (List.map g53 (List.set l2 (Int.toNat i1) (G53.mk k0 x3.Turn x3.Hash))) (Int.toNat i1) 1 [.int .i64 (IntKind.wrap .i64 (k0 + 1))] = List.map g53 (List.set (List.set l2 (Int.toNat i1) (G53.mk k0 x3.Turn x3.Hash)) (Int.toNat i1) (G53.mk x5.Parent (IntKind.wrap .i64 (k0 + 1)) x5.Hash))) (setCells_map hx5 rfl) <| P2 (List.length (List.set l2 (Int.toNat i1) (G53.mk k0 x3.Turn x3.Hash)) = List.length (List.set (List.set l2 (Int.toNat i1) (G53.mk k0 x3.Turn x3.Hash)) (Int.toNat i1) (G53.mk x5.Parent (IntKind.wrap .i64 (k0 + 1)) x5.Hash))) (by simp) <| P2 ((0 : Int) ≤ i1) h6 <| P2 (i1 < (List.length (List.set (List.set l2 (Int.toNat i1) (G53.mk k0 x3.Turn x3.Hash)) (Int.toNat i1) (G53.mk x5.Parent (IntKind.wrap .i64 (k0 + 1)) x5.Hash)) : Int)) (int_lt_of_at (h6) hx7) <| P1 (lt_of_at hx7) <| P2 (setCells (List.map g53 (List.set (List.set l2 (Int.toNat i1) (G53.mk k0 x3.Turn x3.Hash)) (Int.toNat i1) (G53.mk x5.Parent (IntKind.wrap .i64 (k0 + 1)) x5.Hash))) (Int.toNat i1) 2 [.int .i64 (IntKind.wrap .i64 ((IntKind.wrap .i64 (k0 + 1)) + 1))] = List.map g53 (List.set (List.set (List.set l2 (Int.toNat i1) (G53.mk k0 x3.Turn x3.Hash)) (Int.toNat i1) (G53.mk x5.Parent (IntKind.wrap .i64 (k0 + 1)) x5.Hash)) (Int.toNat i1) (G53.mk x7.Parent x7.Turn (IntKind.wrap .i64 ((IntKind.wrap .i64 (k0 + 1)) + 1))))) (setCells_map hx7 rfl) <| P2 (List.length (List.set (List.set l2 (Int.toNat i1) (G53.mk k0 x3.Turn x3.Hash)) (Int.toNat i1) (G53.mk x5.Parent (IntKind.wrap .i64 (k0 + 1)) x5.Hash)) = List.length (List.set (List.set (List.set l2 (Int.toNat i1) (G53.mk k0 x3.Turn x3.Hash)) (Int.toNat i1) (G53.mk x5.Parent (IntKind.wrap .i64 (k0 + 1)) x5.Hash)) (Int.toNat i1) (G53.mk x7.Parent x7.Turn (IntKind.wrap .i64 ((IntKind.wrap .i64 (k0 + 1)) + 1))))) (by simp) <| P0) hn)
    (fun h1 H =>
      eRet (P := Nx X 27 1 K27 Z27 R27 N27 (K27 (.h1 k0 i1 l2)) (Z27 (.h1 k0 i1 l2))) H <| runFin_ok T_ok mixed F27 (cmds := [.reg [{ i := 3, dec := some false }],
    .reg []]) (by kernel_rfl) (P2 ((decide (i1 < ((List.length l2 : Nat) : Int))) = false) (decide_eq_false h1) <| PI (k0 : Int) <| PI (⟨false, false, 3, List.length l2, List.map g53 l2⟩ : Root) <| P0))
theorem w27 : ∀ s r, loop B27 s = some r → Wc X 27 1 (K27 s) (Z27 s) (R27 r) (N27 r) := Nx.all n27
theorem c27 {a0 : (List G53)} {a1 : Int} {r : Int × (List G53)} (H : D27 a0 a1 = some r) : Ct X.P X.gl 27 [.ref 0 3 none, .int .i64 a1] [⟨false, false, 3, List.length a0, List.map g53 a0⟩] (R27 r) (N27 r) :=
  Ct.of F27 (c := b27) (by kernel_rfl) (by kernel_rfl) <|
  run_ok T_ok mixed (cmds := [.reg [],
    .reg [],
    .canon [0] [0, 1, 5]]) (by kernel_rfl) (P0) (w27 _ _ H)
/-! loop example/g00886/laws heldNodeS -/
noncomputable def b28 : Code := match Go.Proofs.Try.f28.body with | some c => c | none => .skip
theorem F28 : X.P.funcs[28]? = some Go.Proofs.Try.f28 := by kernel_rfl
def R28 (r : Int) : List D := [.int .i64 r]
def N28 (r : Int) : List Root := []
noncomputable def K28 : S28 → List Item
  | .h1 .. => nav 300 2 [] [.code b28]
def Z28 : S28 → St
  | .h1 va0 k1 i2 => ⟨sts 40 [(0, sl 3 g53 va0), (1, .int .i64 k1), (5, .int .i64 i2)], []⟩
theorem n28 : ∀ s o, B28 s = some o → Nx X 28 0 K28 Z28 R28 N28 (K28 s) (Z28 s) o
  | .h1 va0 k1 i2, o, H =>
    eIf H (fun h1 H =>
      eCk H fun h2 H =>
      eBind H fun x3 hx3 H =>
      eIf H (fun h4 H =>
        eCk H fun h5 H =>
        eBind H fun x6 hx6 H =>
        eIf H (fun h7 H =>
          eCk H fun h8 H =>
          eBind H fun x9 hx9 H =>
          eIf H (fun h10 H =>
            eRet (P := Nx X 28 0 K28 Z28 R28 N28 (K28 (.h1 va0 k1 i2)) (Z28 (.h1 va0 k1 i2))) H fun r hn => run_ok T_ok mixed (cmds := [.reg [{ i := 3, dec := some true }],
    .reg [{ i := 4, xs := [.int .i64 x3.Parent] }, { i := 6, dec := some false }],
    .reg [],
    .reg [{ i := 4, xs := [.int .i64 x6.Turn] }, { i := 6, dec := some false }],
    .reg [],
    .reg [{ i := 4, xs := [.int .i64 x9.Hash] }, { i := 6, dec := some false }],
    .reg [],
    .reg [],
    .canon [] [0, 1, 5]]) (by kernel_rfl) (P2 ((decide (i2 < ((List.length va0 : Nat) : Int))) = true) (decide_eq_true h1) <| P2 ((0 : Int) ≤ i2) h2 <| P2 (i2 < (List.length va0 : Int)) (int_lt_of_at (h2) hx3) <| P2 (getCells (List.map g53 va0) (Int.toNat i2) 0 1 = some [.int .i64 x3.Parent]) (getCells_map hx3 rfl) <| P2 (((x3.Parent : Int) != k1) = false) (bneF h4) <| P2 ((0 : Int) ≤ i2) h5 <| P2 (i2 < (List.length va0 : Int)) (int_lt_of_at (h5) hx6) <| P2 (getCells (List.map g53 va0) (Int.toNat i2) 1 1 = some [.int .i64 x6.Turn]) (getCells_map hx6 rfl) <| P2 (((x6.Turn : Int) != (IntKind.wrap .i64 (k1 + 1))) = false) (bneF h7) <| P2 ((0 : Int) ≤ i2) h8 <| P2 (i2 < (List.length va0 : Int)) (int_lt_of_at (h8) hx9) <| P2 (getCells (List.map g53 va0) (Int.toNat i2) 2 1 = some [.int .i64 x9.Hash]) (getCells_map hx9 rfl) <| P2 (((x9.Hash : Int) != (IntKind.wrap .i64 ((IntKind.wrap .i64 (k1 + 1)) + 1))) = false) (bneF h10) <| P0) hn)
          (fun h10 H =>
            eRet (P := Nx X 28 0 K28 Z28 R28 N28 (K28 (.h1 va0 k1 i2)) (Z28 (.h1 va0 k1 i2))) H <| runFin_ok T_ok mixed F28 (cmds := [.reg [{ i := 3, dec := some true }],
    .reg [{ i := 4, xs := [.int .i64 x3.Parent] }, { i := 6, dec := some false }],
    .reg [],
    .reg [{ i := 4, xs := [.int .i64 x6.Turn] }, { i := 6, dec := some false }],
    .reg [],
    .reg [{ i := 4, xs := [.int .i64 x9.Hash] }, { i := 6, dec := some true }],
    .reg []]) (by kernel_rfl) (P2 ((decide (i2 < ((List.length va0 : Nat) : Int))) = true) (decide_eq_true h1) <| P2 ((0 : Int) ≤ i2) h2 <| P2 (i2 < (List.length va0 : Int)) (int_lt_of_at (h2) hx3) <| P2 (getCells (List.map g53 va0) (Int.toNat i2) 0 1 = some [.int .i64 x3.Parent]) (getCells_map hx3 rfl) <| P2 (((x3.Parent : Int) != k1) = false) (bneF h4) <| P2 ((0 : Int) ≤ i2) h5 <| P2 (i2 < (List.length va0 : Int)) (int_lt_of_at (h5) hx6) <| P2 (getCells (List.map g53 va0) (Int.toNat i2) 1 1 = some [.int .i64 x6.Turn]) (getCells_map hx6 rfl) <| P2 (((x6.Turn : Int) != (IntKind.wrap .i64 (k1 + 1))) = false) (bneF h7) <| P2 ((0 : Int) ≤ i2) h8 <| P2 (i2 < (List.length va0 : Int)) (int_lt_of_at (h8) hx9) <| P2 (getCells (List.map g53 va0) (Int.toNat i2) 2 1 = some [.int .i64 x9.Hash]) (getCells_map hx9 rfl) <| P2 (((x9.Hash : Int) != (IntKind.wrap .i64 ((IntKind.wrap .i64 (k1 + 1)) + 1))) = true) (bneT h10) <| PI ((-1) : Int) <| P0)))
        (fun h7 H =>
          eRet (P := Nx X 28 0 K28 Z28 R28 N28 (K28 (.h1 va0 k1 i2)) (Z28 (.h1 va0 k1 i2))) H <| runFin_ok T_ok mixed F28 (cmds := [.reg [{ i := 3, dec := some true }],
    .reg [{ i := 4, xs := [.int .i64 x3.Parent] }, { i := 6, dec := some false }],
    .reg [],
    .reg [{ i := 4, xs := [.int .i64 x6.Turn] }, { i := 6, dec := some true }],
    .reg []]) (by kernel_rfl) (P2 ((decide (i2 < ((List.length va0 : Nat) : Int))) = true) (decide_eq_true h1) <| P2 ((0 : Int) ≤ i2) h2 <| P2 (i2 < (List.length va0 : Int)) (int_lt_of_at (h2) hx3) <| P2 (getCells (List.map g53 va0) (Int.toNat i2) 0 1 = some [.int .i64 x3.Parent]) (getCells_map hx3 rfl) <| P2 (((x3.Parent : Int) != k1) = false) (bneF h4) <| P2 ((0 : Int) ≤ i2) h5 <| P2 (i2 < (List.length va0 : Int)) (int_lt_of_at (h5) hx6) <| P2 (getCells (List.map g53 va0) (Int.toNat i2) 1 1 = some [.int .i64 x6.Turn]) (getCells_map hx6 rfl) <| P2 (((x6.Turn : Int) != (IntKind.wrap .i64 (k1 + 1))) = true) (bneT h7) <| PI ((-1) : Int) <| P0)))
      (fun h4 H =>
        eRet (P := Nx X 28 0 K28 Z28 R28 N28 (K28 (.h1 va0 k1 i2)) (Z28 (.h1 va0 k1 i2))) H <| runFin_ok T_ok mixed F28 (cmds := [.reg [{ i := 3, dec := some true }],
    .reg [{ i := 4, xs := [.int .i64 x3.Parent] }, { i := 6, dec := some true }],
    .reg []]) (by kernel_rfl) (P2 ((decide (i2 < ((List.length va0 : Nat) : Int))) = true) (decide_eq_true h1) <| P2 ((0 : Int) ≤ i2) h2 <| P2 (i2 < (List.length va0 : Int)) (int_lt_of_at (h2) hx3) <| P2 (getCells (List.map g53 va0) (Int.toNat i2) 0 1 = some [.int .i64 x3.Parent]) (getCells_map hx3 rfl) <| P2 (((x3.Parent : Int) != k1) = true) (bneT h4) <| PI ((-1) : Int) <| P0)))
    (fun h1 H =>
      eRet (P := Nx X 28 0 K28 Z28 R28 N28 (K28 (.h1 va0 k1 i2)) (Z28 (.h1 va0 k1 i2))) H <| runFin_ok T_ok mixed F28 (cmds := [.reg [{ i := 3, dec := some false }],
    .reg []]) (by kernel_rfl) (P2 ((decide (i2 < ((List.length va0 : Nat) : Int))) = false) (decide_eq_false h1) <| PI (k1 : Int) <| P0))
theorem w28 : ∀ s r, loop B28 s = some r → Wc X 28 0 (K28 s) (Z28 s) (R28 r) (N28 r) := Nx.all n28
theorem c28 {a0 : (List G53)} {a1 : Int} {r : Int} (H : D28 a0 a1 = some r) : Ct X.P X.gl 28 [sl 3 g53 a0, .int .i64 a1] [] (R28 r) (N28 r) :=
  Ct.of F28 (c := b28) (by kernel_rfl) (by kernel_rfl) <|
  run_ok T_ok mixed (cmds := [.reg [],
    .reg [],
    .canon [] [0, 1, 5]]) (by kernel_rfl) (P0) (w28 _ _ H)
/-! loop example/g00886/laws FnExactChildOf -/
noncomputable def b8 : Code := match Go.Proofs.Try.f8.body with | some c => c | none => .skip
theorem F8 : X.P.funcs[8]? = some Go.Proofs.Try.f8 := by kernel_rfl
def R8 (r : Bool) : List D := [.bool r]
def N8 (r : Bool) : List Root := []
theorem c8 {a0 : (List G55)} {a1 : Int} {a2 : Int} {r : Bool} (H : D8 a0 a1 a2 = some r) : Ct X.P X.gl 8 [sl 3 g55 a0, .int .i64 a1, .int .i64 a2] [] (R8 r) (N8 r) :=
  Ct.of F8 (c := b8) (by kernel_rfl) (by kernel_rfl) <|
  eBind H fun r1 hr1 H =>
  eIf H (fun h2 H =>
    eRet (P := fun r => Wc X 8 0 _ _ (R8 r) (N8 r)) H <| runFin_ok T_ok mixed F8 (cmds := [.reg [],
    .reg [],
    .reg [{ i := 2, call := some { cl := true, ins := [], args := [sl 3 g55 a0, .int .i64 1048576], res := R14 r1, G' := N14 r1 } }],
    .reg [{ i := 1, dec := some true }],
    .reg []]) (by kernel_rfl) (PL g55 a0 <| PI (1048576 : Int) <| P1 (c14 hr1) <| P2 ((decide (r1 < 0)) = true) (decide_eq_true h2) <| PI true <| P0))
  (fun h2 H =>
    eBind H fun r3 hr3 H =>
    eBind H fun r4 hr4 H =>
    eBind H fun r5 hr5 H =>
    eBind H fun r6 hr6 H =>
    eBind H fun r7 hr7 H =>
    eIf H (fun h8 H =>
      eIf H (fun h9 H =>
        eIf H (fun h10 H =>
          eRet (P := fun r => Wc X 8 0 _ _ (R8 r) (N8 r)) H <| runFin_ok T_ok mixed F8 (cmds := [.reg [],
    .reg [],
    .reg [{ i := 2, call := some { cl := true, ins := [], args := [sl 3 g55 a0, .int .i64 1048576], res := R14 r1, G' := N14 r1 } }],
    .reg [{ i := 1, dec := some false }],
    .reg [{ i := 1, call := some { cl := true, ins := [], args := [sl 3 g55 a0], res := R16 r3, G' := N16 r3 } }, { i := 4, call := some { cl := false, ins := [], args := [sl 3 g53 r3, .int .i64 a1, .int .i64 a2], res := R25 r4, G' := N25 r4 } }],
    .reg [{ i := 1, call := some { cl := true, ins := [], args := [sl 3 g55 a0], res := R16 r5, G' := N16 r5 } }],
    .reg [{ i := 3, call := some { cl := false, ins := [], args := [sl 3 g53 r5, .int .i64 a1, .int .i64 a2], res := R26 r6, G' := N26 r6 } }],
    .reg [{ i := 2, call := some { cl := false, ins := [], args := [sl 3 g53 r6.1, sl 3 g53 r4.1], res := R18 r7, G' := N18 r7 }, dec := some true }, { i := 7, dec := some false }, { i := 12, dec := some true }],
    .reg []]) (by kernel_rfl) (PL g55 a0 <| PI (1048576 : Int) <| P1 (c14 hr1) <| P2 ((decide (r1 < 0)) = false) (decide_eq_false h2) <| PL g55 a0 <| P1 (c16 hr3) <| PL g53 r3 <| PI (a1 : Int) <| PI (a2 : Int) <| P2 (nfL (List.flatMap D.cells (R25 r4))) ⟨nfL_map nf_53 _, trivial, trivial, trivial⟩ <| P2 (nfG (N25 r4)) trivial <| P1 (c25 hr4) <| PL g55 a0 <| P1 (c16 hr5) <| PL g53 r5 <| PI (a1 : Int) <| PI (a2 : Int) <| P2 (nfL (List.flatMap D.cells (R26 r6))) ⟨nfL_map nf_53 _, trivial, trivial, trivial⟩ <| P2 (nfG (N26 r6)) trivial <| P1 (c26 hr6) <| PL g53 r6.1 <| PL g53 r4.1 <| P1 (c18 hr7) <| P2 (r7 = true) (h8) <| P2 (((r6.2.1 : Int) != r4.2.1) = false) (bneF h9) <| P2 ((!(r6.2.2 == r4.2.2)) = true) (h10) <| PI false <| P0))
        (fun h10 H =>
          eBind H fun r11 hr11 H =>
          eBind H fun r12 hr12 H =>
          eIf H (fun h13 H =>
            eBind H fun r14 hr14 H =>
            eCk H fun h15 H =>
            eIf H (fun h16 H =>
              eRet (P := fun r => Wc X 8 0 _ _ (R8 r) (N8 r)) H <| runFin_ok T_ok mixed F8 (cmds := [.reg [],
    .reg [],
    .reg [{ i := 2, call := some { cl := true, ins := [], args := [sl 3 g55 a0, .int .i64 1048576], res := R14 r1, G' := N14 r1 } }],
    .reg [{ i := 1, dec := some false }],
    .reg [{ i := 1, call := some { cl := true, ins := [], args := [sl 3 g55 a0], res := R16 r3, G' := N16 r3 } }, { i := 4, call := some { cl := false, ins := [], args := [sl 3 g53 r3, .int .i64 a1, .int .i64 a2], res := R25 r4, G' := N25 r4 } }],
    .reg [{ i := 1, call := some { cl := true, ins := [], args := [sl 3 g55 a0], res := R16 r5, G' := N16 r5 } }],
    .reg [{ i := 3, call := some { cl := false, ins := [], args := [sl 3 g53 r5, .int .i64 a1, .int .i64 a2], res := R26 r6, G' := N26 r6 } }],
    .reg [{ i := 2, call := some { cl := false, ins := [], args := [sl 3 g53 r6.1, sl 3 g53 r4.1], res := R18 r7, G' := N18 r7 }, dec := some true }, { i := 7, dec := some false }, { i := 12, dec := some false }],
    .reg [{ i := 2, call := some { cl := true, ins := [], args := [sl 3 g55 a0], res := R16 r11, G' := N16 r11 } }, { i := 3, call := some { cl := false, ins := [], args := [sl 3 g53 r5, sl 3 g53 r11], res := R18 r12, G' := N18 r12 }, dec := some true }],
    .reg [],
    .reg [{ i := 2, call := some { cl := true, ins := [2], args := [.ref 0 3 none, .int .i64 1], res := R27 r14, G' := N27 r14 } }],
    .reg [{ i := 1, dec := some true }],
    .reg []]) (by kernel_rfl) (PL g55 a0 <| PI (1048576 : Int) <| P1 (c14 hr1) <| P2 ((decide (r1 < 0)) = false) (decide_eq_false h2) <| PL g55 a0 <| P1 (c16 hr3) <| PL g53 r3 <| PI (a1 : Int) <| PI (a2 : Int) <| P2 (nfL (List.flatMap D.cells (R25 r4))) ⟨nfL_map nf_53 _, trivial, trivial, trivial⟩ <| P2 (nfG (N25 r4)) trivial <| P1 (c25 hr4) <| PL g55 a0 <| P1 (c16 hr5) <| PL g53 r5 <| PI (a1 : Int) <| PI (a2 : Int) <| P2 (nfL (List.flatMap D.cells (R26 r6))) ⟨nfL_map nf_53 _, trivial, trivial, trivial⟩ <| P2 (nfG (N26 r6)) trivial <| P1 (c26 hr6) <| PL g53 r6.1 <| PL g53 r4.1 <| P1 (c18 hr7) <| P2 (r7 = true) (h8) <| P2 (((r6.2.1 : Int) != r4.2.1) = false) (bneF h9) <| P2 ((!(r6.2.2 == r4.2.2)) = false) (eqF h10) <| PL g55 a0 <| P1 (c16 hr11) <| PL g53 r5 <| PL g53 r11 <| P1 (c18 hr12) <| P2 (r12 = true) (h13) <| PI (none : Option (Nat × Nat)) <| PI (1 : Int) <| P1 h15 <| P1 (c27 hr14) <| P2 ((decide (r14.1 < 0)) = true) (decide_eq_true h16) <| PI false <| P0))
            (fun h16 H =>
              eBind H fun r17 hr17 H =>
              eIf H (fun h18 H =>
                eIf H (fun h19 H =>
                  eIf H (fun h20 H =>
                    eRet (P := fun r => Wc X 8 0 _ _ (R8 r) (N8 r)) H <| runFin_ok T_ok mixed F8 (cmds := [.reg [],
    .reg [],
    .reg [{ i := 2, call := some { cl := true, ins := [], args := [sl 3 g55 a0, .int .i64 1048576], res := R14 r1, G' := N14 r1 } }],
    .reg [{ i := 1, dec := some false }],
    .reg [{ i := 1, call := some { cl := true, ins := [], args := [sl 3 g55 a0], res := R16 r3, G' := N16 r3 } }, { i := 4, call := some { cl := false, ins := [], args := [sl 3 g53 r3, .int .i64 a1, .int .i64 a2], res := R25 r4, G' := N25 r4 } }],
    .reg [{ i := 1, call := some { cl := true, ins := [], args := [sl 3 g55 a0], res := R16 r5, G' := N16 r5 } }],
    .reg [{ i := 3, call := some { cl := false, ins := [], args := [sl 3 g53 r5, .int .i64 a1, .int .i64 a2], res := R26 r6, G' := N26 r6 } }],
    .reg [{ i := 2, call := some { cl := false, ins := [], args := [sl 3 g53 r6.1, sl 3 g53 r4.1], res := R18 r7, G' := N18 r7 }, dec := some true }, { i := 7, dec := some false }, { i := 12, dec := some false }],
    .reg [{ i := 2, call := some { cl := true, ins := [], args := [sl 3 g55 a0], res := R16 r11, G' := N16 r11 } }, { i := 3, call := some { cl := false, ins := [], args := [sl 3 g53 r5, sl 3 g53 r11], res := R18 r12, G' := N18 r12 }, dec := some true }],
    .reg [],
    .reg [{ i := 2, call := some { cl := true, ins := [2], args := [.ref 0 3 none, .int .i64 1], res := R27 r14, G' := N27 r14 } }],
    .reg [{ i := 1, dec := some false }, { i := 5, call := some { cl := false, ins := [], args := [sl 3 g53 r6.1, sl 3 g53 r4.1], res := R18 r17, G' := N18 r17 }, dec := some true }, { i := 11, dec := some false }, { i := 16, dec := some true }],
    .reg []]) (by kernel_rfl) (PL g55 a0 <| PI (1048576 : Int) <| P1 (c14 hr1) <| P2 ((decide (r1 < 0)) = false) (decide_eq_false h2) <| PL g55 a0 <| P1 (c16 hr3) <| PL g53 r3 <| PI (a1 : Int) <| PI (a2 : Int) <| P2 (nfL (List.flatMap D.cells (R25 r4))) ⟨nfL_map nf_53 _, trivial, trivial, trivial⟩ <| P2 (nfG (N25 r4)) trivial <| P1 (c25 hr4) <| PL g55 a0 <| P1 (c16 hr5) <| PL g53 r5 <| PI (a1 : Int) <| PI (a2 : Int) <| P2 (nfL (List.flatMap D.cells (R26 r6))) ⟨nfL_map nf_53 _, trivial, trivial, trivial⟩ <| P2 (nfG (N26 r6)) trivial <| P1 (c26 hr6) <| PL g53 r6.1 <| PL g53 r4.1 <| P1 (c18 hr7) <| P2 (r7 = true) (h8) <| P2 (((r6.2.1 : Int) != r4.2.1) = false) (bneF h9) <| P2 ((!(r6.2.2 == r4.2.2)) = false) (eqF h10) <| PL g55 a0 <| P1 (c16 hr11) <| PL g53 r5 <| PL g53 r11 <| P1 (c18 hr12) <| P2 (r12 = true) (h13) <| PI (none : Option (Nat × Nat)) <| PI (1 : Int) <| P1 h15 <| P1 (c27 hr14) <| P2 ((decide (r14.1 < 0)) = false) (decide_eq_false h16) <| PL g53 r6.1 <| PL g53 r4.1 <| P1 (c18 hr17) <| P2 (r17 = true) (h18) <| P2 (((r6.2.1 : Int) != r4.2.1) = false) (bneF h19) <| P2 ((!(r6.2.2 == r4.2.2)) = true) (h20) <| PI false <| P0))
                  (fun h20 H =>
                    eBind H fun r21 hr21 H =>
                    eCk H fun h22 H =>
                    eBind H fun r23 hr23 H =>
                    eIf H (fun h24 H =>
                      eRet (P := fun r => Wc X 8 0 _ _ (R8 r) (N8 r)) H <| runFin_ok T_ok mixed F8 (cmds := [.reg [],
    .reg [],
    .reg [{ i := 2, call := some { cl := true, ins := [], args := [sl 3 g55 a0, .int .i64 1048576], res := R14 r1, G' := N14 r1 } }],
    .reg [{ i := 1, dec := some false }],
    .reg [{ i := 1, call := some { cl := true, ins := [], args := [sl 3 g55 a0], res := R16 r3, G' := N16 r3 } }, { i := 4, call := some { cl := false, ins := [], args := [sl 3 g53 r3, .int .i64 a1, .int .i64 a2], res := R25 r4, G' := N25 r4 } }],
    .reg [{ i := 1, call := some { cl := true, ins := [], args := [sl 3 g55 a0], res := R16 r5, G' := N16 r5 } }],
    .reg [{ i := 3, call := some { cl := false, ins := [], args := [sl 3 g53 r5, .int .i64 a1, .int .i64 a2], res := R26 r6, G' := N26 r6 } }],
    .reg [{ i := 2, call := some { cl := false, ins := [], args := [sl 3 g53 r6.1, sl 3 g53 r4.1], res := R18 r7, G' := N18 r7 }, dec := some true }, { i := 7, dec := some false }, { i := 12, dec := some false }],
    .reg [{ i := 2, call := some { cl := true, ins := [], args := [sl 3 g55 a0], res := R16 r11, G' := N16 r11 } }, { i := 3, call := some { cl := false, ins := [], args := [sl 3 g53 r5, sl 3 g53 r11], res := R18 r12, G' := N18 r12 }, dec := some true }],
    .reg [],
    .reg [{ i := 2, call := some { cl := true, ins := [2], args := [.ref 0 3 none, .int .i64 1], res := R27 r14, G' := N27 r14 } }],
    .reg [{ i := 1, dec := some false }, { i := 5, call := some { cl := false, ins := [], args := [sl 3 g53 r6.1, sl 3 g53 r4.1], res := R18 r17, G' := N18 r17 }, dec := some true }, { i := 11, dec := some false }, { i := 16, dec := some false }],
    .reg [],
    .reg [{ i := 2, call := some { cl := true, ins := [3], args := [.ref 0 3 none, .int .i64 1], res := R27 r21, G' := N27 r21 } }],
    .reg [],
    .reg [{ i := 2, call := some { cl := false, ins := [], args := [sl 3 g53 r21.2, .int .i64 1], res := R28 r23, G' := N28 r23 } }],
    .reg [{ i := 1, dec := some true }],
    .reg []]) (by kernel_rfl) (PL g55 a0 <| PI (1048576 : Int) <| P1 (c14 hr1) <| P2 ((decide (r1 < 0)) = false) (decide_eq_false h2) <| PL g55 a0 <| P1 (c16 hr3) <| PL g53 r3 <| PI (a1 : Int) <| PI (a2 : Int) <| P2 (nfL (List.flatMap D.cells (R25 r4))) ⟨nfL_map nf_53 _, trivial, trivial, trivial⟩ <| P2 (nfG (N25 r4)) trivial <| P1 (c25 hr4) <| PL g55 a0 <| P1 (c16 hr5) <| PL g53 r5 <| PI (a1 : Int) <| PI (a2 : Int) <| P2 (nfL (List.flatMap D.cells (R26 r6))) ⟨nfL_map nf_53 _, trivial, trivial, trivial⟩ <| P2 (nfG (N26 r6)) trivial <| P1 (c26 hr6) <| PL g53 r6.1 <| PL g53 r4.1 <| P1 (c18 hr7) <| P2 (r7 = true) (h8) <| P2 (((r6.2.1 : Int) != r4.2.1) = false) (bneF h9) <| P2 ((!(r6.2.2 == r4.2.2)) = false) (eqF h10) <| PL g55 a0 <| P1 (c16 hr11) <| PL g53 r5 <| PL g53 r11 <| P1 (c18 hr12) <| P2 (r12 = true) (h13) <| PI (none : Option (Nat × Nat)) <| PI (1 : Int) <| P1 h15 <| P1 (c27 hr14) <| P2 ((decide (r14.1 < 0)) = false) (decide_eq_false h16) <| PL g53 r6.1 <| PL g53 r4.1 <| P1 (c18 hr17) <| P2 (r17 = true) (h18) <| P2 (((r6.2.1 : Int) != r4.2.1) = false) (bneF h19) <| P2 ((!(r6.2.2 == r4.2.2)) = false) (eqF h20) <| PI (none : Option (Nat × Nat)) <| PI (1 : Int) <| P1 h22 <| P1 (c27 hr21) <| PL g53 r21.2 <| PI (1 : Int) <| P1 (c28 hr23) <| P2 ((decide (r23 < 0)) = true) (decide_eq_true h24) <| PI false <| P0))
                    (fun h24 H =>
                      eIf H (fun h25 H =>
                        eBind H fun r26 hr26 H =>
                        eBind H fun r27 hr27 H =>
                        eBind H fun r28 hr28 H =>
                        eIf H (fun h29 H =>
                          eIf H (fun h30 H =>
                            eIf H (fun h31 H =>
                              eRet (P := fun r => Wc X 8 0 _ _ (R8 r) (N8 r)) H <| runFin_ok T_ok mixed F8 (cmds := [.reg [],
    .reg [],
    .reg [{ i := 2, call := some { cl := true, ins := [], args := [sl 3 g55 a0, .int .i64 1048576], res := R14 r1, G' := N14 r1 } }],
    .reg [{ i := 1, dec := some false }],
    .reg [{ i := 1, call := some { cl := true, ins := [], args := [sl 3 g55 a0], res := R16 r3, G' := N16 r3 } }, { i := 4, call := some { cl := false, ins := [], args := [sl 3 g53 r3, .int .i64 a1, .int .i64 a2], res := R25 r4, G' := N25 r4 } }],
    .reg [{ i := 1, call := some { cl := true, ins := [], args := [sl 3 g55 a0], res := R16 r5, G' := N16 r5 } }],
    .reg [{ i := 3, call := some { cl := false, ins := [], args := [sl 3 g53 r5, .int .i64 a1, .int .i64 a2], res := R26 r6, G' := N26 r6 } }],
    .reg [{ i := 2, call := some { cl := false, ins := [], args := [sl 3 g53 r6.1, sl 3 g53 r4.1], res := R18 r7, G' := N18 r7 }, dec := some true }, { i := 7, dec := some false }, { i := 12, dec := some false }],
    .reg [{ i := 2, call := some { cl := true, ins := [], args := [sl 3 g55 a0], res := R16 r11, G' := N16 r11 } }, { i := 3, call := some { cl := false, ins := [], args := [sl 3 g53 r5, sl 3 g53 r11], res := R18 r12, G' := N18 r12 }, dec := some true }],
    .reg [],
    .reg [{ i := 2, call := some { cl := true, ins := [2], args := [.ref 0 3 none, .int .i64 1], res := R27 r14, G' := N27 r14 } }],
    .reg [{ i := 1, dec := some false }, { i := 5, call := some { cl := false, ins := [], args := [sl 3 g53 r6.1, sl 3 g53 r4.1], res := R18 r17, G' := N18 r17 }, dec := some true }, { i := 11, dec := some false }, { i := 16, dec := some false }],
    .reg [],
    .reg [{ i := 2, call := some { cl := true, ins := [3], args := [.ref 0 3 none, .int .i64 1], res := R27 r21, G' := N27 r21 } }],
    .reg [],
    .reg [{ i := 2, call := some { cl := false, ins := [], args := [sl 3 g53 r21.2, .int .i64 1], res := R28 r23, G' := N28 r23 } }],
    .reg [{ i := 1, dec := some false }],
    .reg [{ i := 2, dec := some false }],
    .reg [{ i := 1, call := some { cl := true, ins := [], args := [sl 3 g55 a0], res := R16 r26, G' := N16 r26 } }, { i := 4, call := some { cl := false, ins := [], args := [sl 3 g53 r26, .int .i64 a1, .int .i64 a2], res := R26 r27, G' := N26 r27 } }],
    .reg [{ i := 2, call := some { cl := false, ins := [], args := [sl 3 g53 r27.1, sl 3 g53 r4.1], res := R18 r28, G' := N18 r28 }, dec := some true }, { i := 7, dec := some false }, { i := 12, dec := some true }],
    .reg []]) (by kernel_rfl) (PL g55 a0 <| PI (1048576 : Int) <| P1 (c14 hr1) <| P2 ((decide (r1 < 0)) = false) (decide_eq_false h2) <| PL g55 a0 <| P1 (c16 hr3) <| PL g53 r3 <| PI (a1 : Int) <| PI (a2 : Int) <| P2 (nfL (List.flatMap D.cells (R25 r4))) ⟨nfL_map nf_53 _, trivial, trivial, trivial⟩ <| P2 (nfG (N25 r4)) trivial <| P1 (c25 hr4) <| PL g55 a0 <| P1 (c16 hr5) <| PL g53 r5 <| PI (a1 : Int) <| PI (a2 : Int) <| P2 (nfL (List.flatMap D.cells (R26 r6))) ⟨nfL_map nf_53 _, trivial, trivial, trivial⟩ <| P2 (nfG (N26 r6)) trivial <| P1 (c26 hr6) <| PL g53 r6.1 <| PL g53 r4.1 <| P1 (c18 hr7) <| P2 (r7 = true) (h8) <| P2 (((r6.2.1 : Int) != r4.2.1) = false) (bneF h9) <| P2 ((!(r6.2.2 == r4.2.2)) = false) (eqF h10) <| PL g55 a0 <| P1 (c16 hr11) <| PL g53 r5 <| PL g53 r11 <| P1 (c18 hr12) <| P2 (r12 = true) (h13) <| PI (none : Option (Nat × Nat)) <| PI (1 : Int) <| P1 h15 <| P1 (c27 hr14) <| P2 ((decide (r14.1 < 0)) = false) (decide_eq_false h16) <| PL g53 r6.1 <| PL g53 r4.1 <| P1 (c18 hr17) <| P2 (r17 = true) (h18) <| P2 (((r6.2.1 : Int) != r4.2.1) = false) (bneF h19) <| P2 ((!(r6.2.2 == r4.2.2)) = false) (eqF h20) <| PI (none : Option (Nat × Nat)) <| PI (1 : Int) <| P1 h22 <| P1 (c27 hr21) <| PL g53 r21.2 <| PI (1 : Int) <| P1 (c28 hr23) <| P2 ((decide (r23 < 0)) = false) (decide_eq_false h24) <| P2 (((r23 : Int) != r21.1) = false) (bneF h25) <| PL g55 a0 <| P1 (c16 hr26) <| PL g53 r26 <| PI (a1 : Int) <| PI (a2 : Int) <| P2 (nfL (List.flatMap D.cells (R26 r27))) ⟨nfL_map nf_53 _, trivial, trivial, trivial⟩ <| P2 (nfG (N26 r27)) trivial <| P1 (c26 hr27) <| PL g53 r27.1 <| PL g53 r4.1 <| P1 (c18 hr28) <| P2 (r28 = true) (h29) <| P2 (((r27.2.1 : Int) != r4.2.1) = false) (bneF h30) <| P2 ((!(r27.2.2 == r4.2.2)) = true) (h31) <| PI false <| P0))
                            (fun h31 H =>
                              eBind H fun r32 hr32 H =>
                              eIf H (fun h33 H =>
                                eRet (P := fun r => Wc X 8 0 _ _ (R8 r) (N8 r)) H <| runFin_ok T_ok mixed F8 (cmds := [.reg [],
    .reg [],
    .reg [{ i := 2, call := some { cl := true, ins := [], args := [sl 3 g55 a0, .int .i64 1048576], res := R14 r1, G' := N14 r1 } }],
    .reg [{ i := 1, dec := some false }],
    .reg [{ i := 1, call := some { cl := true, ins := [], args := [sl 3 g55 a0], res := R16 r3, G' := N16 r3 } }, { i := 4, call := some { cl := false, ins := [], args := [sl 3 g53 r3, .int .i64 a1, .int .i64 a2], res := R25 r4, G' := N25 r4 } }],
    .reg [{ i := 1, call := some { cl := true, ins := [], args := [sl 3 g55 a0], res := R16 r5, G' := N16 r5 } }],
    .reg [{ i := 3, call := some { cl := false, ins := [], args := [sl 3 g53 r5, .int .i64 a1, .int .i64 a2], res := R26 r6, G' := N26 r6 } }],
    .reg [{ i := 2, call := some { cl := false, ins := [], args := [sl 3 g53 r6.1, sl 3 g53 r4.1], res := R18 r7, G' := N18 r7 }, dec := some true }, { i := 7, dec := some false }, { i := 12, dec := some false }],
    .reg [{ i := 2, call := some { cl := true, ins := [], args := [sl 3 g55 a0], res := R16 r11, G' := N16 r11 } }, { i := 3, call := some { cl := false, ins := [], args := [sl 3 g53 r5, sl 3 g53 r11], res := R18 r12, G' := N18 r12 }, dec := some true }],
    .reg [],
    .reg [{ i := 2, call := some { cl := true, ins := [2], args := [.ref 0 3 none, .int .i64 1], res := R27 r14, G' := N27 r14 } }],
    .reg [{ i := 1, dec := some false }, { i := 5, call := some { cl := false, ins := [], args := [sl 3 g53 r6.1, sl 3 g53 r4.1], res := R18 r17, G' := N18 r17 }, dec := some true }, { i := 11, dec := some false }, { i := 16, dec := some false }],
    .reg [],
    .reg [{ i := 2, call := some { cl := true, ins := [3], args := [.ref 0 3 none, .int .i64 1], res := R27 r21, G' := N27 r21 } }],
    .reg [],
    .reg [{ i := 2, call := some { cl := false, ins := [], args := [sl 3 g53 r21.2, .int .i64 1], res := R28 r23, G' := N28 r23 } }],
    .reg [{ i := 1, dec := some false }],
    .reg [{ i := 2, dec := some false }],
    .reg [{ i := 1, call := some { cl := true, ins := [], args := [sl 3 g55 a0], res := R16 r26, G' := N16 r26 } }, { i := 4, call := some { cl := false, ins := [], args := [sl 3 g53 r26, .int .i64 a1, .int .i64 a2], res := R26 r27, G' := N26 r27 } }],
    .reg [{ i := 2, call := some { cl := false, ins := [], args := [sl 3 g53 r27.1, sl 3 g53 r4.1], res := R18 r28, G' := N18 r28 }, dec := some true }, { i := 7, dec := some false }, { i := 12, dec := some false }],
    .reg [],
    .reg [{ i := 2, call := some { cl := false, ins := [], args := [sl 3 g53 r21.2, .int .i64 1], res := R28 r32, G' := N28 r32 } }],
    .reg [{ i := 1, dec := some true }],
    .reg []]) (by kernel_rfl) (PL g55 a0 <| PI (1048576 : Int) <| P1 (c14 hr1) <| P2 ((decide (r1 < 0)) = false) (decide_eq_false h2) <| PL g55 a0 <| P1 (c16 hr3) <| PL g53 r3 <| PI (a1 : Int) <| PI (a2 : Int) <| P2 (nfL (List.flatMap D.cells (R25 r4))) ⟨nfL_map nf_53 _, trivial, trivial, trivial⟩ <| P2 (nfG (N25 r4)) trivial <| P1 (c25 hr4) <| PL g55 a0 <| P1 (c16 hr5) <| PL g53 r5 <| PI (a1 : Int) <| PI (a2 : Int) <| P2 (nfL (List.flatMap D.cells (R26 r6))) ⟨nfL_map nf_53 _, trivial, trivial, trivial⟩ <| P2 (nfG (N26 r6)) trivial <| P1 (c26 hr6) <| PL g53 r6.1 <| PL g53 r4.1 <| P1 (c18 hr7) <| P2 (r7 = true) (h8) <| P2 (((r6.2.1 : Int) != r4.2.1) = false) (bneF h9) <| P2 ((!(r6.2.2 == r4.2.2)) = false) (eqF h10) <| PL g55 a0 <| P1 (c16 hr11) <| PL g53 r5 <| PL g53 r11 <| P1 (c18 hr12) <| P2 (r12 = true) (h13) <| PI (none : Option (Nat × Nat)) <| PI (1 : Int) <| P1 h15 <| P1 (c27 hr14) <| P2 ((decide (r14.1 < 0)) = false) (decide_eq_false h16) <| PL g53 r6.1 <| PL g53 r4.1 <| P1 (c18 hr17) <| P2 (r17 = true) (h18) <| P2 (((r6.2.1 : Int) != r4.2.1) = false) (bneF h19) <| P2 ((!(r6.2.2 == r4.2.2)) = false) (eqF h20) <| PI (none : Option (Nat × Nat)) <| PI (1 : Int) <| P1 h22 <| P1 (c27 hr21) <| PL g53 r21.2 <| PI (1 : Int) <| P1 (c28 hr23) <| P2 ((decide (r23 < 0)) = false) (decide_eq_false h24) <| P2 (((r23 : Int) != r21.1) = false) (bneF h25) <| PL g55 a0 <| P1 (c16 hr26) <| PL g53 r26 <| PI (a1 : Int) <| PI (a2 : Int) <| P2 (nfL (List.flatMap D.cells (R26 r27))) ⟨nfL_map nf_53 _, trivial, trivial, trivial⟩ <| P2 (nfG (N26 r27)) trivial <| P1 (c26 hr27) <| PL g53 r27.1 <| PL g53 r4.1 <| P1 (c18 hr28) <| P2 (r28 = true) (h29) <| P2 (((r27.2.1 : Int) != r4.2.1) = false) (bneF h30) <| P2 ((!(r27.2.2 == r4.2.2)) = false) (eqF h31) <| PL g53 r21.2 <| PI (1 : Int) <| P1 (c28 hr32) <| P2 ((decide (r32 < 0)) = true) (decide_eq_true h33) <| PI false <| P0))
                              (fun h33 H =>
                                eIf H (fun h34 H =>
                                  eRet (P := fun r => Wc X 8 0 _ _ (R8 r) (N8 r)) H <| runFin_ok T_ok mixed F8 (cmds := [.reg [],
    .reg [],
    .reg [{ i := 2, call := some { cl := true, ins := [], args := [sl 3 g55 a0, .int .i64 1048576], res := R14 r1, G' := N14 r1 } }],
    .reg [{ i := 1, dec := some false }],
    .reg [{ i := 1, call := some { cl := true, ins := [], args := [sl 3 g55 a0], res := R16 r3, G' := N16 r3 } }, { i := 4, call := some { cl := false, ins := [], args := [sl 3 g53 r3, .int .i64 a1, .int .i64 a2], res := R25 r4, G' := N25 r4 } }],
    .reg [{ i := 1, call := some { cl := true, ins := [], args := [sl 3 g55 a0], res := R16 r5, G' := N16 r5 } }],
    .reg [{ i := 3, call := some { cl := false, ins := [], args := [sl 3 g53 r5, .int .i64 a1, .int .i64 a2], res := R26 r6, G' := N26 r6 } }],
    .reg [{ i := 2, call := some { cl := false, ins := [], args := [sl 3 g53 r6.1, sl 3 g53 r4.1], res := R18 r7, G' := N18 r7 }, dec := some true }, { i := 7, dec := some false }, { i := 12, dec := some false }],
    .reg [{ i := 2, call := some { cl := true, ins := [], args := [sl 3 g55 a0], res := R16 r11, G' := N16 r11 } }, { i := 3, call := some { cl := false, ins := [], args := [sl 3 g53 r5, sl 3 g53 r11], res := R18 r12, G' := N18 r12 }, dec := some true }],
    .reg [],
    .reg [{ i := 2, call := some { cl := true, ins := [2], args := [.ref 0 3 none, .int .i64 1], res := R27 r14, G' := N27 r14 } }],
    .reg [{ i := 1, dec := some false }, { i := 5, call := some { cl := false, ins := [], args := [sl 3 g53 r6.1, sl 3 g53 r4.1], res := R18 r17, G' := N18 r17 }, dec := some true }, { i := 11, dec := some false }, { i := 16, dec := some false }],
    .reg [],
    .reg [{ i := 2, call := some { cl := true, ins := [3], args := [.ref 0 3 none, .int .i64 1], res := R27 r21, G' := N27 r21 } }],
    .reg [],
    .reg [{ i := 2, call := some { cl := false, ins := [], args := [sl 3 g53 r21.2, .int .i64 1], res := R28 r23, G' := N28 r23 } }],
    .reg [{ i := 1, dec := some false }],
    .reg [{ i := 2, dec := some false }],
    .reg [{ i := 1, call := some { cl := true, ins := [], args := [sl 3 g55 a0], res := R16 r26, G' := N16 r26 } }, { i := 4, call := some { cl := false, ins := [], args := [sl 3 g53 r26, .int .i64 a1, .int .i64 a2], res := R26 r27, G' := N26 r27 } }],
    .reg [{ i := 2, call := some { cl := false, ins := [], args := [sl 3 g53 r27.1, sl 3 g53 r4.1], res := R18 r28, G' := N18 r28 }, dec := some true }, { i := 7, dec := some false }, { i := 12, dec := some false }],
    .reg [],
    .reg [{ i := 2, call := some { cl := false, ins := [], args := [sl 3 g53 r21.2, .int .i64 1], res := R28 r32, G' := N28 r32 } }],
    .reg [{ i := 1, dec := some false }],
    .reg [{ i := 2, dec := some false }],
    .reg []]) (by kernel_rfl) (PL g55 a0 <| PI (1048576 : Int) <| P1 (c14 hr1) <| P2 ((decide (r1 < 0)) = false) (decide_eq_false h2) <| PL g55 a0 <| P1 (c16 hr3) <| PL g53 r3 <| PI (a1 : Int) <| PI (a2 : Int) <| P2 (nfL (List.flatMap D.cells (R25 r4))) ⟨nfL_map nf_53 _, trivial, trivial, trivial⟩ <| P2 (nfG (N25 r4)) trivial <| P1 (c25 hr4) <| PL g55 a0 <| P1 (c16 hr5) <| PL g53 r5 <| PI (a1 : Int) <| PI (a2 : Int) <| P2 (nfL (List.flatMap D.cells (R26 r6))) ⟨nfL_map nf_53 _, trivial, trivial, trivial⟩ <| P2 (nfG (N26 r6)) trivial <| P1 (c26 hr6) <| PL g53 r6.1 <| PL g53 r4.1 <| P1 (c18 hr7) <| P2 (r7 = true) (h8) <| P2 (((r6.2.1 : Int) != r4.2.1) = false) (bneF h9) <| P2 ((!(r6.2.2 == r4.2.2)) = false) (eqF h10) <| PL g55 a0 <| P1 (c16 hr11) <| PL g53 r5 <| PL g53 r11 <| P1 (c18 hr12) <| P2 (r12 = true) (h13) <| PI (none : Option (Nat × Nat)) <| PI (1 : Int) <| P1 h15 <| P1 (c27 hr14) <| P2 ((decide (r14.1 < 0)) = false) (decide_eq_false h16) <| PL g53 r6.1 <| PL g53 r4.1 <| P1 (c18 hr17) <| P2 (r17 = true) (h18) <| P2 (((r6.2.1 : Int) != r4.2.1) = false) (bneF h19) <| P2 ((!(r6.2.2 == r4.2.2)) = false) (eqF h20) <| PI (none : Option (Nat × Nat)) <| PI (1 : Int) <| P1 h22 <| P1 (c27 hr21) <| PL g53 r21.2 <| PI (1 : Int) <| P1 (c28 hr23) <| P2 ((decide (r23 < 0)) = false) (decide_eq_false h24) <| P2 (((r23 : Int) != r21.1) = false) (bneF h25) <| PL g55 a0 <| P1 (c16 hr26) <| PL g53 r26 <| PI (a1 : Int) <| PI (a2 : Int) <| P2 (nfL (List.flatMap D.cells (R26 r27))) ⟨nfL_map nf_53 _, trivial, trivial, trivial⟩ <| P2 (nfG (N26 r27)) trivial <| P1 (c26 hr27) <| PL g53 r27.1 <| PL g53 r4.1 <| P1 (c18 hr28) <| P2 (r28 = true) (h29) <| P2 (((r27.2.1 : Int) != r4.2.1) = false) (bneF h30) <| P2 ((!(r27.2.2 == r4.2.2)) = false) (eqF h31) <| PL g53 r21.2 <| PI (1 : Int) <| P1 (c28 hr32) <| P2 ((decide (r32 < 0)) = false) (decide_eq_false h33) <| P2 (((r32 : Int) != r21.1) = false) (bneF h34) <| PI true <| P0))
                                (fun h34 H =>
                                  eRet (P := fun r => Wc X 8 0 _ _ (R8 r) (N8 r)) H <| runFin_ok T_ok mixed F8 (cmds := [.reg [],
    .reg [],
    .reg [{ i := 2, call := some { cl := true, ins := [], args := [sl 3 g55 a0, .int .i64 1048576], res := R14 r1, G' := N14 r1 } }],
    .reg [{ i := 1, dec := some false }],
    .reg [{ i := 1, call := some { cl := true, ins := [], args := [sl 3 g55 a0], res := R16 r3, G' := N16 r3 } }, { i := 4, call := some { cl := false, ins := [], args := [sl 3 g53 r3, .int .i64 a1, .int .i64 a2], res := R25 r4, G' := N25 r4 } }],
    .reg [{ i := 1, call := some { cl := true, ins := [], args := [sl 3 g55 a0], res := R16 r5, G' := N16 r5 } }],
    .reg [{ i := 3, call := some { cl := false, ins := [], args := [sl 3 g53 r5, .int .i64 a1, .int .i64 a2], res := R26 r6, G' := N26 r6 } }],
    .reg [{ i := 2, call := some { cl := false, ins := [], args := [sl 3 g53 r6.1, sl 3 g53 r4.1], res := R18 r7, G' := N18 r7 }, dec := some true }, { i := 7, dec := some false }, { i := 12, dec := some false }],
    .reg [{ i := 2, call := some { cl := true, ins := [], args := [sl 3 g55 a0], res := R16 r11, G' := N16 r11 } }, { i := 3, call := some { cl := false, ins := [], args := [sl 3 g53 r5, sl 3 g53 r11], res := R18 r12, G' := N18 r12 }, dec := some true }],
    .reg [],
    .reg [{ i := 2, call := some { cl := true, ins := [2], args := [.ref 0 3 none, .int .i64 1], res := R27 r14, G' := N27 r14 } }],
    .reg [{ i := 1, dec := some false }, { i := 5, call := some { cl := false, ins := [], args := [sl 3 g53 r6.1, sl 3 g53 r4.1], res := R18 r17, G' := N18 r17 }, dec := some true }, { i := 11, dec := some false }, { i := 16, dec := some false }],
    .reg [],
    .reg [{ i := 2, call := some { cl := true, ins := [3], args := [.ref 0 3 none, .int .i64 1], res := R27 r21, G' := N27 r21 } }],
    .reg [],
    .reg [{ i := 2, call := some { cl := false, ins := [], args := [sl 3 g53 r21.2, .int .i64 1], res := R28 r23, G' := N28 r23 } }],
    .reg [{ i := 1, dec := some false }],
    .reg [{ i := 2, dec := some false }],
    .reg [{ i := 1, call := some { cl := true, ins := [], args := [sl 3 g55 a0], res := R16 r26, G' := N16 r26 } }, { i := 4, call := some { cl := false, ins := [], args := [sl 3 g53 r26, .int .i64 a1, .int .i64 a2], res := R26 r27, G' := N26 r27 } }],
    .reg [{ i := 2, call := some { cl := false, ins := [], args := [sl 3 g53 r27.1, sl 3 g53 r4.1], res := R18 r28, G' := N18 r28 }, dec := some true }, { i := 7, dec := some false }, { i := 12, dec := some false }],
    .reg [],
    .reg [{ i := 2, call := some { cl := false, ins := [], args := [sl 3 g53 r21.2, .int .i64 1], res := R28 r32, G' := N28 r32 } }],
    .reg [{ i := 1, dec := some false }],
    .reg [{ i := 2, dec := some true }],
    .reg []]) (by kernel_rfl) (PL g55 a0 <| PI (1048576 : Int) <| P1 (c14 hr1) <| P2 ((decide (r1 < 0)) = false) (decide_eq_false h2) <| PL g55 a0 <| P1 (c16 hr3) <| PL g53 r3 <| PI (a1 : Int) <| PI (a2 : Int) <| P2 (nfL (List.flatMap D.cells (R25 r4))) ⟨nfL_map nf_53 _, trivial, trivial, trivial⟩ <| P2 (nfG (N25 r4)) trivial <| P1 (c25 hr4) <| PL g55 a0 <| P1 (c16 hr5) <| PL g53 r5 <| PI (a1 : Int) <| PI (a2 : Int) <| P2 (nfL (List.flatMap D.cells (R26 r6))) ⟨nfL_map nf_53 _, trivial, trivial, trivial⟩ <| P2 (nfG (N26 r6)) trivial <| P1 (c26 hr6) <| PL g53 r6.1 <| PL g53 r4.1 <| P1 (c18 hr7) <| P2 (r7 = true) (h8) <| P2 (((r6.2.1 : Int) != r4.2.1) = false) (bneF h9) <| P2 ((!(r6.2.2 == r4.2.2)) = false) (eqF h10) <| PL g55 a0 <| P1 (c16 hr11) <| PL g53 r5 <| PL g53 r11 <| P1 (c18 hr12) <| P2 (r12 = true) (h13) <| PI (none : Option (Nat × Nat)) <| PI (1 : Int) <| P1 h15 <| P1 (c27 hr14) <| P2 ((decide (r14.1 < 0)) = false) (decide_eq_false h16) <| PL g53 r6.1 <| PL g53 r4.1 <| P1 (c18 hr17) <| P2 (r17 = true) (h18) <| P2 (((r6.2.1 : Int) != r4.2.1) = false) (bneF h19) <| P2 ((!(r6.2.2 == r4.2.2)) = false) (eqF h20) <| PI (none : Option (Nat × Nat)) <| PI (1 : Int) <| P1 h22 <| P1 (c27 hr21) <| PL g53 r21.2 <| PI (1 : Int) <| P1 (c28 hr23) <| P2 ((decide (r23 < 0)) = false) (decide_eq_false h24) <| P2 (((r23 : Int) != r21.1) = false) (bneF h25) <| PL g55 a0 <| P1 (c16 hr26) <| PL g53 r26 <| PI (a1 : Int) <| PI (a2 : Int) <| P2 (nfL (List.flatMap D.cells (R26 r27))) ⟨nfL_map nf_53 _, trivial, trivial, trivial⟩ <| P2 (nfG (N26 r27)) trivial <| P1 (c26 hr27) <| PL g53 r27.1 <| PL g53 r4.1 <| P1 (c18 hr28) <| P2 (r28 = true) (h29) <| P2 (((r27.2.1 : Int) != r4.2.1) = false) (bneF h30) <| P2 ((!(r27.2.2 == r4.2.2)) = false) (eqF h31) <| PL g53 r21.2 <| PI (1 : Int) <| P1 (c28 hr32) <| P2 ((decide (r32 < 0)) = false) (decide_eq_false h33) <| P2 (((r32 : Int) != r21.1) = true) (bneT h34) <| PI false <| P0)))))
                          (fun h30 H =>
                            eRet (P := fun r => Wc X 8 0 _ _ (R8 r) (N8 r)) H <| runFin_ok T_ok mixed F8 (cmds := [.reg [],
    .reg [],
    .reg [{ i := 2, call := some { cl := true, ins := [], args := [sl 3 g55 a0, .int .i64 1048576], res := R14 r1, G' := N14 r1 } }],
    .reg [{ i := 1, dec := some false }],
    .reg [{ i := 1, call := some { cl := true, ins := [], args := [sl 3 g55 a0], res := R16 r3, G' := N16 r3 } }, { i := 4, call := some { cl := false, ins := [], args := [sl 3 g53 r3, .int .i64 a1, .int .i64 a2], res := R25 r4, G' := N25 r4 } }],
    .reg [{ i := 1, call := some { cl := true, ins := [], args := [sl 3 g55 a0], res := R16 r5, G' := N16 r5 } }],
    .reg [{ i := 3, call := some { cl := false, ins := [], args := [sl 3 g53 r5, .int .i64 a1, .int .i64 a2], res := R26 r6, G' := N26 r6 } }],
    .reg [{ i := 2, call := some { cl := false, ins := [], args := [sl 3 g53 r6.1, sl 3 g53 r4.1], res := R18 r7, G' := N18 r7 }, dec := some true }, { i := 7, dec := some false }, { i := 12, dec := some false }],
    .reg [{ i := 2, call := some { cl := true, ins := [], args := [sl 3 g55 a0], res := R16 r11, G' := N16 r11 } }, { i := 3, call := some { cl := false, ins := [], args := [sl 3 g53 r5, sl 3 g53 r11], res := R18 r12, G' := N18 r12 }, dec := some true }],
    .reg [],
    .reg [{ i := 2, call := some { cl := true, ins := [2], args := [.ref 0 3 none, .int .i64 1], res := R27 r14, G' := N27 r14 } }],
    .reg [{ i := 1, dec := some false }, { i := 5, call := some { cl := false, ins := [], args := [sl 3 g53 r6.1, sl 3 g53 r4.1], res := R18 r17, G' := N18 r17 }, dec := some true }, { i := 11, dec := some false }, { i := 16, dec := some false }],
    .reg [],
    .reg [{ i := 2, call := some { cl := true, ins := [3], args := [.ref 0 3 none, .int .i64 1], res := R27 r21, G' := N27 r21 } }],
    .reg [],
    .reg [{ i := 2, call := some { cl := false, ins := [], args := [sl 3 g53 r21.2, .int .i64 1], res := R28 r23, G' := N28 r23 } }],
    .reg [{ i := 1, dec := some false }],
    .reg [{ i := 2, dec := some false }],
    .reg [{ i := 1, call := some { cl := true, ins := [], args := [sl 3 g55 a0], res := R16 r26, G' := N16 r26 } }, { i := 4, call := some { cl := false, ins := [], args := [sl 3 g53 r26, .int .i64 a1, .int .i64 a2], res := R26 r27, G' := N26 r27 } }],
    .reg [{ i := 2, call := some { cl := false, ins := [], args := [sl 3 g53 r27.1, sl 3 g53 r4.1], res := R18 r28, G' := N18 r28 }, dec := some true }, { i := 7, dec := some true }],
    .reg []]) (by kernel_rfl) (PL g55 a0 <| PI (1048576 : Int) <| P1 (c14 hr1) <| P2 ((decide (r1 < 0)) = false) (decide_eq_false h2) <| PL g55 a0 <| P1 (c16 hr3) <| PL g53 r3 <| PI (a1 : Int) <| PI (a2 : Int) <| P2 (nfL (List.flatMap D.cells (R25 r4))) ⟨nfL_map nf_53 _, trivial, trivial, trivial⟩ <| P2 (nfG (N25 r4)) trivial <| P1 (c25 hr4) <| PL g55 a0 <| P1 (c16 hr5) <| PL g53 r5 <| PI (a1 : Int) <| PI (a2 : Int) <| P2 (nfL (List.flatMap D.cells (R26 r6))) ⟨nfL_map nf_53 _, trivial, trivial, trivial⟩ <| P2 (nfG (N26 r6)) trivial <| P1 (c26 hr6) <| PL g53 r6.1 <| PL g53 r4.1 <| P1 (c18 hr7) <| P2 (r7 = true) (h8) <| P2 (((r6.2.1 : Int) != r4.2.1) = false) (bneF h9) <| P2 ((!(r6.2.2 == r4.2.2)) = false) (eqF h10) <| PL g55 a0 <| P1 (c16 hr11) <| PL g53 r5 <| PL g53 r11 <| P1 (c18 hr12) <| P2 (r12 = true) (h13) <| PI (none : Option (Nat × Nat)) <| PI (1 : Int) <| P1 h15 <| P1 (c27 hr14) <| P2 ((decide (r14.1 < 0)) = false) (decide_eq_false h16) <| PL g53 r6.1 <| PL g53 r4.1 <| P1 (c18 hr17) <| P2 (r17 = true) (h18) <| P2 (((r6.2.1 : Int) != r4.2.1) = false) (bneF h19) <| P2 ((!(r6.2.2 == r4.2.2)) = false) (eqF h20) <| PI (none : Option (Nat × Nat)) <| PI (1 : Int) <| P1 h22 <| P1 (c27 hr21) <| PL g53 r21.2 <| PI (1 : Int) <| P1 (c28 hr23) <| P2 ((decide (r23 < 0)) = false) (decide_eq_false h24) <| P2 (((r23 : Int) != r21.1) = false) (bneF h25) <| PL g55 a0 <| P1 (c16 hr26) <| PL g53 r26 <| PI (a1 : Int) <| PI (a2 : Int) <| P2 (nfL (List.flatMap D.cells (R26 r27))) ⟨nfL_map nf_53 _, trivial, trivial, trivial⟩ <| P2 (nfG (N26 r27)) trivial <| P1 (c26 hr27) <| PL g53 r27.1 <| PL g53 r4.1 <| P1 (c18 hr28) <| P2 (r28 = true) (h29) <| P2 (((r27.2.1 : Int) != r4.2.1) = true) (bneT h30) <| PI false <| P0)))
                        (fun h29 H =>
                          eRet (P := fun r => Wc X 8 0 _ _ (R8 r) (N8 r)) H <| runFin_ok T_ok mixed F8 (cmds := [.reg [],
    .reg [],
    .reg [{ i := 2, call := some { cl := true, ins := [], args := [sl 3 g55 a0, .int .i64 1048576], res := R14 r1, G' := N14 r1 } }],
    .reg [{ i := 1, dec := some false }],
    .reg [{ i := 1, call := some { cl := true, ins := [], args := [sl 3 g55 a0], res := R16 r3, G' := N16 r3 } }, { i := 4, call := some { cl := false, ins := [], args := [sl 3 g53 r3, .int .i64 a1, .int .i64 a2], res := R25 r4, G' := N25 r4 } }],
    .reg [{ i := 1, call := some { cl := true, ins := [], args := [sl 3 g55 a0], res := R16 r5, G' := N16 r5 } }],
    .reg [{ i := 3, call := some { cl := false, ins := [], args := [sl 3 g53 r5, .int .i64 a1, .int .i64 a2], res := R26 r6, G' := N26 r6 } }],
    .reg [{ i := 2, call := some { cl := false, ins := [], args := [sl 3 g53 r6.1, sl 3 g53 r4.1], res := R18 r7, G' := N18 r7 }, dec := some true }, { i := 7, dec := some false }, { i := 12, dec := some false }],
    .reg [{ i := 2, call := some { cl := true, ins := [], args := [sl 3 g55 a0], res := R16 r11, G' := N16 r11 } }, { i := 3, call := some { cl := false, ins := [], args := [sl 3 g53 r5, sl 3 g53 r11], res := R18 r12, G' := N18 r12 }, dec := some true }],
    .reg [],
    .reg [{ i := 2, call := some { cl := true, ins := [2], args := [.ref 0 3 none, .int .i64 1], res := R27 r14, G' := N27 r14 } }],
    .reg [{ i := 1, dec := some false }, { i := 5, call := some { cl := false, ins := [], args := [sl 3 g53 r6.1, sl 3 g53 r4.1], res := R18 r17, G' := N18 r17 }, dec := some true }, { i := 11, dec := some false }, { i := 16, dec := some false }],
    .reg [],
    .reg [{ i := 2, call := some { cl := true, ins := [3], args := [.ref 0 3 none, .int .i64 1], res := R27 r21, G' := N27 r21 } }],
    .reg [],
    .reg [{ i := 2, call := some { cl := false, ins := [], args := [sl 3 g53 r21.2, .int .i64 1], res := R28 r23, G' := N28 r23 } }],
    .reg [{ i := 1, dec := some false }],
    .reg [{ i := 2, dec := some false }],
    .reg [{ i := 1, call := some { cl := true, ins := [], args := [sl 3 g55 a0], res := R16 r26, G' := N16 r26 } }, { i := 4, call := some { cl := false, ins := [], args := [sl 3 g53 r26, .int .i64 a1, .int .i64 a2], res := R26 r27, G' := N26 r27 } }],
    .reg [{ i := 2, call := some { cl := false, ins := [], args := [sl 3 g53 r27.1, sl 3 g53 r4.1], res := R18 r28, G' := N18 r28 }, dec := some false }],
    .reg []]) (by kernel_rfl) (PL g55 a0 <| PI (1048576 : Int) <| P1 (c14 hr1) <| P2 ((decide (r1 < 0)) = false) (decide_eq_false h2) <| PL g55 a0 <| P1 (c16 hr3) <| PL g53 r3 <| PI (a1 : Int) <| PI (a2 : Int) <| P2 (nfL (List.flatMap D.cells (R25 r4))) ⟨nfL_map nf_53 _, trivial, trivial, trivial⟩ <| P2 (nfG (N25 r4)) trivial <| P1 (c25 hr4) <| PL g55 a0 <| P1 (c16 hr5) <| PL g53 r5 <| PI (a1 : Int) <| PI (a2 : Int) <| P2 (nfL (List.flatMap D.cells (R26 r6))) ⟨nfL_map nf_53 _, trivial, trivial, trivial⟩ <| P2 (nfG (N26 r6)) trivial <| P1 (c26 hr6) <| PL g53 r6.1 <| PL g53 r4.1 <| P1 (c18 hr7) <| P2 (r7 = true) (h8) <| P2 (((r6.2.1 : Int) != r4.2.1) = false) (bneF h9) <| P2 ((!(r6.2.2 == r4.2.2)) = false) (eqF h10) <| PL g55 a0 <| P1 (c16 hr11) <| PL g53 r5 <| PL g53 r11 <| P1 (c18 hr12) <| P2 (r12 = true) (h13) <| PI (none : Option (Nat × Nat)) <| PI (1 : Int) <| P1 h15 <| P1 (c27 hr14) <| P2 ((decide (r14.1 < 0)) = false) (decide_eq_false h16) <| PL g53 r6.1 <| PL g53 r4.1 <| P1 (c18 hr17) <| P2 (r17 = true) (h18) <| P2 (((r6.2.1 : Int) != r4.2.1) = false) (bneF h19) <| P2 ((!(r6.2.2 == r4.2.2)) = false) (eqF h20) <| PI (none : Option (Nat × Nat)) <| PI (1 : Int) <| P1 h22 <| P1 (c27 hr21) <| PL g53 r21.2 <| PI (1 : Int) <| P1 (c28 hr23) <| P2 ((decide (r23 < 0)) = false) (decide_eq_false h24) <| P2 (((r23 : Int) != r21.1) = false) (bneF h25) <| PL g55 a0 <| P1 (c16 hr26) <| PL g53 r26 <| PI (a1 : Int) <| PI (a2 : Int) <| P2 (nfL (List.flatMap D.cells (R26 r27))) ⟨nfL_map nf_53 _, trivial, trivial, trivial⟩ <| P2 (nfG (N26 r27)) trivial <| P1 (c26 hr27) <| PL g53 r27.1 <| PL g53 r4.1 <| P1 (c18 hr28) <| P2 (r28 = false) (eqF h29) <| PI false <| P0)))
                      (fun h25 H =>
                        eRet (P := fun r => Wc X 8 0 _ _ (R8 r) (N8 r)) H <| runFin_ok T_ok mixed F8 (cmds := [.reg [],
    .reg [],
    .reg [{ i := 2, call := some { cl := true, ins := [], args := [sl 3 g55 a0, .int .i64 1048576], res := R14 r1, G' := N14 r1 } }],
    .reg [{ i := 1, dec := some false }],
    .reg [{ i := 1, call := some { cl := true, ins := [], args := [sl 3 g55 a0], res := R16 r3, G' := N16 r3 } }, { i := 4, call := some { cl := false, ins := [], args := [sl 3 g53 r3, .int .i64 a1, .int .i64 a2], res := R25 r4, G' := N25 r4 } }],
    .reg [{ i := 1, call := some { cl := true, ins := [], args := [sl 3 g55 a0], res := R16 r5, G' := N16 r5 } }],
    .reg [{ i := 3, call := some { cl := false, ins := [], args := [sl 3 g53 r5, .int .i64 a1, .int .i64 a2], res := R26 r6, G' := N26 r6 } }],
    .reg [{ i := 2, call := some { cl := false, ins := [], args := [sl 3 g53 r6.1, sl 3 g53 r4.1], res := R18 r7, G' := N18 r7 }, dec := some true }, { i := 7, dec := some false }, { i := 12, dec := some false }],
    .reg [{ i := 2, call := some { cl := true, ins := [], args := [sl 3 g55 a0], res := R16 r11, G' := N16 r11 } }, { i := 3, call := some { cl := false, ins := [], args := [sl 3 g53 r5, sl 3 g53 r11], res := R18 r12, G' := N18 r12 }, dec := some true }],
    .reg [],
    .reg [{ i := 2, call := some { cl := true, ins := [2], args := [.ref 0 3 none, .int .i64 1], res := R27 r14, G' := N27 r14 } }],
    .reg [{ i := 1, dec := some false }, { i := 5, call := some { cl := false, ins := [], args := [sl 3 g53 r6.1, sl 3 g53 r4.1], res := R18 r17, G' := N18 r17 }, dec := some true }, { i := 11, dec := some false }, { i := 16, dec := some false }],
    .reg [],
    .reg [{ i := 2, call := some { cl := true, ins := [3], args := [.ref 0 3 none, .int .i64 1], res := R27 r21, G' := N27 r21 } }],
    .reg [],
    .reg [{ i := 2, call := some { cl := false, ins := [], args := [sl 3 g53 r21.2, .int .i64 1], res := R28 r23, G' := N28 r23 } }],
    .reg [{ i := 1, dec := some false }],
    .reg [{ i := 2, dec := some true }],
    .reg []]) (by kernel_rfl) (PL g55 a0 <| PI (1048576 : Int) <| P1 (c14 hr1) <| P2 ((decide (r1 < 0)) = false) (decide_eq_false h2) <| PL g55 a0 <| P1 (c16 hr3) <| PL g53 r3 <| PI (a1 : Int) <| PI (a2 : Int) <| P2 (nfL (List.flatMap D.cells (R25 r4))) ⟨nfL_map nf_53 _, trivial, trivial, trivial⟩ <| P2 (nfG (N25 r4)) trivial <| P1 (c25 hr4) <| PL g55 a0 <| P1 (c16 hr5) <| PL g53 r5 <| PI (a1 : Int) <| PI (a2 : Int) <| P2 (nfL (List.flatMap D.cells (R26 r6))) ⟨nfL_map nf_53 _, trivial, trivial, trivial⟩ <| P2 (nfG (N26 r6)) trivial <| P1 (c26 hr6) <| PL g53 r6.1 <| PL g53 r4.1 <| P1 (c18 hr7) <| P2 (r7 = true) (h8) <| P2 (((r6.2.1 : Int) != r4.2.1) = false) (bneF h9) <| P2 ((!(r6.2.2 == r4.2.2)) = false) (eqF h10) <| PL g55 a0 <| P1 (c16 hr11) <| PL g53 r5 <| PL g53 r11 <| P1 (c18 hr12) <| P2 (r12 = true) (h13) <| PI (none : Option (Nat × Nat)) <| PI (1 : Int) <| P1 h15 <| P1 (c27 hr14) <| P2 ((decide (r14.1 < 0)) = false) (decide_eq_false h16) <| PL g53 r6.1 <| PL g53 r4.1 <| P1 (c18 hr17) <| P2 (r17 = true) (h18) <| P2 (((r6.2.1 : Int) != r4.2.1) = false) (bneF h19) <| P2 ((!(r6.2.2 == r4.2.2)) = false) (eqF h20) <| PI (none : Option (Nat × Nat)) <| PI (1 : Int) <| P1 h22 <| P1 (c27 hr21) <| PL g53 r21.2 <| PI (1 : Int) <| P1 (c28 hr23) <| P2 ((decide (r23 < 0)) = false) (decide_eq_false h24) <| P2 (((r23 : Int) != r21.1) = true) (bneT h25) <| PI false <| P0)))))
                (fun h19 H =>
                  eRet (P := fun r => Wc X 8 0 _ _ (R8 r) (N8 r)) H <| runFin_ok T_ok mixed F8 (cmds := [.reg [],
    .reg [],
    .reg [{ i := 2, call := some { cl := true, ins := [], args := [sl 3 g55 a0, .int .i64 1048576], res := R14 r1, G' := N14 r1 } }],
    .reg [{ i := 1, dec := some false }],
    .reg [{ i := 1, call := some { cl := true, ins := [], args := [sl 3 g55 a0], res := R16 r3, G' := N16 r3 } }, { i := 4, call := some { cl := false, ins := [], args := [sl 3 g53 r3, .int .i64 a1, .int .i64 a2], res := R25 r4, G' := N25 r4 } }],
    .reg [{ i := 1, call := some { cl := true, ins := [], args := [sl 3 g55 a0], res := R16 r5, G' := N16 r5 } }],
    .reg [{ i := 3, call := some { cl := false, ins := [], args := [sl 3 g53 r5, .int .i64 a1, .int .i64 a2], res := R26 r6, G' := N26 r6 } }],
    .reg [{ i := 2, call := some { cl := false, ins := [], args := [sl 3 g53 r6.1, sl 3 g53 r4.1], res := R18 r7, G' := N18 r7 }, dec := some true }, { i := 7, dec := some false }, { i := 12, dec := some false }],
    .reg [{ i := 2, call := some { cl := true, ins := [], args := [sl 3 g55 a0], res := R16 r11, G' := N16 r11 } }, { i := 3, call := some { cl := false, ins := [], args := [sl 3 g53 r5, sl 3 g53 r11], res := R18 r12, G' := N18 r12 }, dec := some true }],
    .reg [],
    .reg [{ i := 2, call := some { cl := true, ins := [2], args := [.ref 0 3 none, .int .i64 1], res := R27 r14, G' := N27 r14 } }],
    .reg [{ i := 1, dec := some false }, { i := 5, call := some { cl := false, ins := [], args := [sl 3 g53 r6.1, sl 3 g53 r4.1], res := R18 r17, G' := N18 r17 }, dec := some true }, { i := 11, dec := some true }],
    .reg []]) (by kernel_rfl) (PL g55 a0 <| PI (1048576 : Int) <| P1 (c14 hr1) <| P2 ((decide (r1 < 0)) = false) (decide_eq_false h2) <| PL g55 a0 <| P1 (c16 hr3) <| PL g53 r3 <| PI (a1 : Int) <| PI (a2 : Int) <| P2 (nfL (List.flatMap D.cells (R25 r4))) ⟨nfL_map nf_53 _, trivial, trivial, trivial⟩ <| P2 (nfG (N25 r4)) trivial <| P1 (c25 hr4) <| PL g55 a0 <| P1 (c16 hr5) <| PL g53 r5 <| PI (a1 : Int) <| PI (a2 : Int) <| P2 (nfL (List.flatMap D.cells (R26 r6))) ⟨nfL_map nf_53 _, trivial, trivial, trivial⟩ <| P2 (nfG (N26 r6)) trivial <| P1 (c26 hr6) <| PL g53 r6.1 <| PL g53 r4.1 <| P1 (c18 hr7) <| P2 (r7 = true) (h8) <| P2 (((r6.2.1 : Int) != r4.2.1) = false) (bneF h9) <| P2 ((!(r6.2.2 == r4.2.2)) = false) (eqF h10) <| PL g55 a0 <| P1 (c16 hr11) <| PL g53 r5 <| PL g53 r11 <| P1 (c18 hr12) <| P2 (r12 = true) (h13) <| PI (none : Option (Nat × Nat)) <| PI (1 : Int) <| P1 h15 <| P1 (c27 hr14) <| P2 ((decide (r14.1 < 0)) = false) (decide_eq_false h16) <| PL g53 r6.1 <| PL g53 r4.1 <| P1 (c18 hr17) <| P2 (r17 = true) (h18) <| P2 (((r6.2.1 : Int) != r4.2.1) = true) (bneT h19) <| PI false <| P0)))
              (fun h18 H =>
                eRet (P := fun r => Wc X 8 0 _ _ (R8 r) (N8 r)) H <| runFin_ok T_ok mixed F8 (cmds := [.reg [],
    .reg [],
    .reg [{ i := 2, call := some { cl := true, ins := [], args := [sl 3 g55 a0, .int .i64 1048576], res := R14 r1, G' := N14 r1 } }],
    .reg [{ i := 1, dec := some false }],
    .reg [{ i := 1, call := some { cl := true, ins := [], args := [sl 3 g55 a0], res := R16 r3, G' := N16 r3 } }, { i := 4, call := some { cl := false, ins := [], args := [sl 3 g53 r3, .int .i64 a1, .int .i64 a2], res := R25 r4, G' := N25 r4 } }],
    .reg [{ i := 1, call := some { cl := true, ins := [], args := [sl 3 g55 a0], res := R16 r5, G' := N16 r5 } }],
    .reg [{ i := 3, call := some { cl := false, ins := [], args := [sl 3 g53 r5, .int .i64 a1, .int .i64 a2], res := R26 r6, G' := N26 r6 } }],
    .reg [{ i := 2, call := some { cl := false, ins := [], args := [sl 3 g53 r6.1, sl 3 g53 r4.1], res := R18 r7, G' := N18 r7 }, dec := some true }, { i := 7, dec := some false }, { i := 12, dec := some false }],
    .reg [{ i := 2, call := some { cl := true, ins := [], args := [sl 3 g55 a0], res := R16 r11, G' := N16 r11 } }, { i := 3, call := some { cl := false, ins := [], args := [sl 3 g53 r5, sl 3 g53 r11], res := R18 r12, G' := N18 r12 }, dec := some true }],
    .reg [],
    .reg [{ i := 2, call := some { cl := true, ins := [2], args := [.ref 0 3 none, .int .i64 1], res := R27 r14, G' := N27 r14 } }],
    .reg [{ i := 1, dec := some false }, { i := 5, call := some { cl := false, ins := [], args := [sl 3 g53 r6.1, sl 3 g53 r4.1], res := R18 r17, G' := N18 r17 }, dec := some false }],
    .reg []]) (by kernel_rfl) (PL g55 a0 <| PI (1048576 : Int) <| P1 (c14 hr1) <| P2 ((decide (r1 < 0)) = false) (decide_eq_false h2) <| PL g55 a0 <| P1 (c16 hr3) <| PL g53 r3 <| PI (a1 : Int) <| PI (a2 : Int) <| P2 (nfL (List.flatMap D.cells (R25 r4))) ⟨nfL_map nf_53 _, trivial, trivial, trivial⟩ <| P2 (nfG (N25 r4)) trivial <| P1 (c25 hr4) <| PL g55 a0 <| P1 (c16 hr5) <| PL g53 r5 <| PI (a1 : Int) <| PI (a2 : Int) <| P2 (nfL (List.flatMap D.cells (R26 r6))) ⟨nfL_map nf_53 _, trivial, trivial, trivial⟩ <| P2 (nfG (N26 r6)) trivial <| P1 (c26 hr6) <| PL g53 r6.1 <| PL g53 r4.1 <| P1 (c18 hr7) <| P2 (r7 = true) (h8) <| P2 (((r6.2.1 : Int) != r4.2.1) = false) (bneF h9) <| P2 ((!(r6.2.2 == r4.2.2)) = false) (eqF h10) <| PL g55 a0 <| P1 (c16 hr11) <| PL g53 r5 <| PL g53 r11 <| P1 (c18 hr12) <| P2 (r12 = true) (h13) <| PI (none : Option (Nat × Nat)) <| PI (1 : Int) <| P1 h15 <| P1 (c27 hr14) <| P2 ((decide (r14.1 < 0)) = false) (decide_eq_false h16) <| PL g53 r6.1 <| PL g53 r4.1 <| P1 (c18 hr17) <| P2 (r17 = false) (eqF h18) <| PI false <| P0))))
          (fun h13 H =>
            eRet (P := fun r => Wc X 8 0 _ _ (R8 r) (N8 r)) H <| runFin_ok T_ok mixed F8 (cmds := [.reg [],
    .reg [],
    .reg [{ i := 2, call := some { cl := true, ins := [], args := [sl 3 g55 a0, .int .i64 1048576], res := R14 r1, G' := N14 r1 } }],
    .reg [{ i := 1, dec := some false }],
    .reg [{ i := 1, call := some { cl := true, ins := [], args := [sl 3 g55 a0], res := R16 r3, G' := N16 r3 } }, { i := 4, call := some { cl := false, ins := [], args := [sl 3 g53 r3, .int .i64 a1, .int .i64 a2], res := R25 r4, G' := N25 r4 } }],
    .reg [{ i := 1, call := some { cl := true, ins := [], args := [sl 3 g55 a0], res := R16 r5, G' := N16 r5 } }],
    .reg [{ i := 3, call := some { cl := false, ins := [], args := [sl 3 g53 r5, .int .i64 a1, .int .i64 a2], res := R26 r6, G' := N26 r6 } }],
    .reg [{ i := 2, call := some { cl := false, ins := [], args := [sl 3 g53 r6.1, sl 3 g53 r4.1], res := R18 r7, G' := N18 r7 }, dec := some true }, { i := 7, dec := some false }, { i := 12, dec := some false }],
    .reg [{ i := 2, call := some { cl := true, ins := [], args := [sl 3 g55 a0], res := R16 r11, G' := N16 r11 } }, { i := 3, call := some { cl := false, ins := [], args := [sl 3 g53 r5, sl 3 g53 r11], res := R18 r12, G' := N18 r12 }, dec := some false }],
    .reg []]) (by kernel_rfl) (PL g55 a0 <| PI (1048576 : Int) <| P1 (c14 hr1) <| P2 ((decide (r1 < 0)) = false) (decide_eq_false h2) <| PL g55 a0 <| P1 (c16 hr3) <| PL g53 r3 <| PI (a1 : Int) <| PI (a2 : Int) <| P2 (nfL (List.flatMap D.cells (R25 r4))) ⟨nfL_map nf_53 _, trivial, trivial, trivial⟩ <| P2 (nfG (N25 r4)) trivial <| P1 (c25 hr4) <| PL g55 a0 <| P1 (c16 hr5) <| PL g53 r5 <| PI (a1 : Int) <| PI (a2 : Int) <| P2 (nfL (List.flatMap D.cells (R26 r6))) ⟨nfL_map nf_53 _, trivial, trivial, trivial⟩ <| P2 (nfG (N26 r6)) trivial <| P1 (c26 hr6) <| PL g53 r6.1 <| PL g53 r4.1 <| P1 (c18 hr7) <| P2 (r7 = true) (h8) <| P2 (((r6.2.1 : Int) != r4.2.1) = false) (bneF h9) <| P2 ((!(r6.2.2 == r4.2.2)) = false) (eqF h10) <| PL g55 a0 <| P1 (c16 hr11) <| PL g53 r5 <| PL g53 r11 <| P1 (c18 hr12) <| P2 (r12 = false) (eqF h13) <| PI false <| P0))))
      (fun h9 H =>
        eRet (P := fun r => Wc X 8 0 _ _ (R8 r) (N8 r)) H <| runFin_ok T_ok mixed F8 (cmds := [.reg [],
    .reg [],
    .reg [{ i := 2, call := some { cl := true, ins := [], args := [sl 3 g55 a0, .int .i64 1048576], res := R14 r1, G' := N14 r1 } }],
    .reg [{ i := 1, dec := some false }],
    .reg [{ i := 1, call := some { cl := true, ins := [], args := [sl 3 g55 a0], res := R16 r3, G' := N16 r3 } }, { i := 4, call := some { cl := false, ins := [], args := [sl 3 g53 r3, .int .i64 a1, .int .i64 a2], res := R25 r4, G' := N25 r4 } }],
    .reg [{ i := 1, call := some { cl := true, ins := [], args := [sl 3 g55 a0], res := R16 r5, G' := N16 r5 } }],
    .reg [{ i := 3, call := some { cl := false, ins := [], args := [sl 3 g53 r5, .int .i64 a1, .int .i64 a2], res := R26 r6, G' := N26 r6 } }],
    .reg [{ i := 2, call := some { cl := false, ins := [], args := [sl 3 g53 r6.1, sl 3 g53 r4.1], res := R18 r7, G' := N18 r7 }, dec := some true }, { i := 7, dec := some true }],
    .reg []]) (by kernel_rfl) (PL g55 a0 <| PI (1048576 : Int) <| P1 (c14 hr1) <| P2 ((decide (r1 < 0)) = false) (decide_eq_false h2) <| PL g55 a0 <| P1 (c16 hr3) <| PL g53 r3 <| PI (a1 : Int) <| PI (a2 : Int) <| P2 (nfL (List.flatMap D.cells (R25 r4))) ⟨nfL_map nf_53 _, trivial, trivial, trivial⟩ <| P2 (nfG (N25 r4)) trivial <| P1 (c25 hr4) <| PL g55 a0 <| P1 (c16 hr5) <| PL g53 r5 <| PI (a1 : Int) <| PI (a2 : Int) <| P2 (nfL (List.flatMap D.cells (R26 r6))) ⟨nfL_map nf_53 _, trivial, trivial, trivial⟩ <| P2 (nfG (N26 r6)) trivial <| P1 (c26 hr6) <| PL g53 r6.1 <| PL g53 r4.1 <| P1 (c18 hr7) <| P2 (r7 = true) (h8) <| P2 (((r6.2.1 : Int) != r4.2.1) = true) (bneT h9) <| PI false <| P0)))
    (fun h8 H =>
      eRet (P := fun r => Wc X 8 0 _ _ (R8 r) (N8 r)) H <| runFin_ok T_ok mixed F8 (cmds := [.reg [],
    .reg [],
    .reg [{ i := 2, call := some { cl := true, ins := [], args := [sl 3 g55 a0, .int .i64 1048576], res := R14 r1, G' := N14 r1 } }],
    .reg [{ i := 1, dec := some false }],
    .reg [{ i := 1, call := some { cl := true, ins := [], args := [sl 3 g55 a0], res := R16 r3, G' := N16 r3 } }, { i := 4, call := some { cl := false, ins := [], args := [sl 3 g53 r3, .int .i64 a1, .int .i64 a2], res := R25 r4, G' := N25 r4 } }],
    .reg [{ i := 1, call := some { cl := true, ins := [], args := [sl 3 g55 a0], res := R16 r5, G' := N16 r5 } }],
    .reg [{ i := 3, call := some { cl := false, ins := [], args := [sl 3 g53 r5, .int .i64 a1, .int .i64 a2], res := R26 r6, G' := N26 r6 } }],
    .reg [{ i := 2, call := some { cl := false, ins := [], args := [sl 3 g53 r6.1, sl 3 g53 r4.1], res := R18 r7, G' := N18 r7 }, dec := some false }],
    .reg []]) (by kernel_rfl) (PL g55 a0 <| PI (1048576 : Int) <| P1 (c14 hr1) <| P2 ((decide (r1 < 0)) = false) (decide_eq_false h2) <| PL g55 a0 <| P1 (c16 hr3) <| PL g53 r3 <| PI (a1 : Int) <| PI (a2 : Int) <| P2 (nfL (List.flatMap D.cells (R25 r4))) ⟨nfL_map nf_53 _, trivial, trivial, trivial⟩ <| P2 (nfG (N25 r4)) trivial <| P1 (c25 hr4) <| PL g55 a0 <| P1 (c16 hr5) <| PL g53 r5 <| PI (a1 : Int) <| PI (a2 : Int) <| P2 (nfL (List.flatMap D.cells (R26 r6))) ⟨nfL_map nf_53 _, trivial, trivial, trivial⟩ <| P2 (nfG (N26 r6)) trivial <| P1 (c26 hr6) <| PL g53 r6.1 <| PL g53 r4.1 <| P1 (c18 hr7) <| P2 (r7 = false) (eqF h8) <| PI false <| P0)))
end Go.Proofs.Ytipolkdlaepcaaa.Ab
