/- Part of the proof of FnExactIsTree: no condition of its own. -/
import Derived.Test.YtipolkdlaepcaaaChecked
import Derived.Test.YtipolkdlaepcaaaA1D
set_option linter.unusedVariables false
set_option linter.unusedSimpArgs false
open Go Go.Proofs
namespace Go.Proofs.Ytipolkdlaepcaaa.Ab
def T : Tab := [(3, ⟨(Ab.TK.int IntKind.i64), 1, 8, (Ab.D.int IntKind.i64 (Int.ofNat 0))⟩),
  (4, ⟨Ab.TK.bool, 1, 1, (Ab.D.bool Bool.false)⟩),
  (22, ⟨(Ab.TK.slice 48), 1, 24, Ab.D.nil⟩),
  (25, ⟨(Ab.TK.slice 46), 1, 24, Ab.D.nil⟩),
  (29, ⟨(Ab.TK.slice 55), 1, 24, Ab.D.nil⟩),
  (32, ⟨(Ab.TK.slice 53), 1, 24, Ab.D.nil⟩),
  (46, ⟨(Ab.TK.strct [(Ab.FI.mk 0 1 Bool.false), (Ab.FI.mk 1 1 Bool.false), (Ab.FI.mk 2 1 Bool.false)] (Option.some [(Ab.LK.int IntKind.i64), (Ab.LK.int IntKind.i64), (Ab.LK.int IntKind.i64)])), 3, 24, (Ab.D.agg [(Ab.D.int IntKind.i64 (Int.ofNat 0)), (Ab.D.int IntKind.i64 (Int.ofNat 0)), (Ab.D.int IntKind.i64 (Int.ofNat 0))])⟩),
  (48, ⟨(Ab.TK.strct [(Ab.FI.mk 0 1 Bool.false), (Ab.FI.mk 1 1 Bool.false), (Ab.FI.mk 2 1 Bool.false)] (Option.some [(Ab.LK.int IntKind.i64), (Ab.LK.int IntKind.i64), (Ab.LK.int IntKind.i64)])), 3, 24, (Ab.D.agg [(Ab.D.int IntKind.i64 (Int.ofNat 0)), (Ab.D.int IntKind.i64 (Int.ofNat 0)), (Ab.D.int IntKind.i64 (Int.ofNat 0))])⟩),
  (53, ⟨(Ab.TK.strct [(Ab.FI.mk 0 1 Bool.false), (Ab.FI.mk 1 1 Bool.false), (Ab.FI.mk 2 1 Bool.false)] (Option.some [(Ab.LK.int IntKind.i64), (Ab.LK.int IntKind.i64), (Ab.LK.int IntKind.i64)])), 3, 24, (Ab.D.agg [(Ab.D.int IntKind.i64 (Int.ofNat 0)), (Ab.D.int IntKind.i64 (Int.ofNat 0)), (Ab.D.int IntKind.i64 (Int.ofNat 0))])⟩),
  (55, ⟨(Ab.TK.strct [(Ab.FI.mk 0 1 Bool.false), (Ab.FI.mk 1 1 Bool.false), (Ab.FI.mk 2 1 Bool.false)] (Option.some [(Ab.LK.int IntKind.i64), (Ab.LK.int IntKind.i64), (Ab.LK.int IntKind.i64)])), 3, 24, (Ab.D.agg [(Ab.D.int IntKind.i64 (Int.ofNat 0)), (Ab.D.int IntKind.i64 (Int.ofNat 0)), (Ab.D.int IntKind.i64 (Int.ofNat 0))])⟩),
  (62, ⟨(Ab.TK.slice 3), 1, 24, Ab.D.nil⟩)]
noncomputable def X : Ctx := ⟨Go.Proofs.Try.prog, T, []⟩
theorem T_ok : TabOK X.P X.T := ⟨by kernel_rfl, by kernel_rfl, by kernel_rfl, by kernel_rfl, by kernel_rfl, by kernel_rfl, by kernel_rfl, by kernel_rfl, by kernel_rfl, by kernel_rfl, by kernel_rfl, trivial⟩
theorem mixed : X.P.follows .mixedOrders = true := Go.Proofs.Try.checked.mixed
theorem nf_53 : ∀ x, (g53 x).nf := fun x => by simp [g53, D.nf, nfL]
theorem allFl_53 (l : List G53) : AllFl (List.map g53 l) := allFl_map (fun x c hc => by simp [g53, D.cells] at hc; rcases hc with rfl | rfl | rfl <;> rfl) l
/-! loop example/g00886/laws szMailS -/
noncomputable def b9 : Code := match Go.Proofs.Try.f9.body with | some c => c | none => .skip
theorem F9 : X.P.funcs[9]? = some Go.Proofs.Try.f9 := by kernel_rfl
def R9 (r : Int) : List D := [.int .i64 r]
def N9 (r : Int) : List Root := []
theorem c9 {a0 : (List G48)} {a1 : Int} {r : Int} (H : D9 a0 a1 = some r) : Ct X.P X.gl 9 [sl 3 g48 a0, .int .i64 a1] [] (R9 r) (N9 r) :=
  Ct.of F9 (c := b9) (by kernel_rfl) (by kernel_rfl) <|
  eIf H (fun h1 H =>
    eRet (P := fun r => Wc X 9 0 _ _ (R9 r) (N9 r)) H <| runFin_ok T_ok mixed F9 (cmds := [.reg [],
    .reg [],
    .reg [{ i := 1, dec := some true }],
    .reg []]) (by kernel_rfl) (P2 ((decide ((IntKind.wrap .i64 (a1 - ((List.length a0 : Nat) : Int))) < 0)) = true) (decide_eq_true h1) <| PI ((-1) : Int) <| P0))
  (fun h1 H =>
    eRet (P := fun r => Wc X 9 0 _ _ (R9 r) (N9 r)) H <| runFin_ok T_ok mixed F9 (cmds := [.reg [],
    .reg [],
    .reg [{ i := 1, dec := some false }],
    .reg []]) (by kernel_rfl) (P2 ((decide ((IntKind.wrap .i64 (a1 - ((List.length a0 : Nat) : Int))) < 0)) = false) (decide_eq_false h1) <| PI (IntKind.wrap .i64 (a1 - ((List.length a0 : Nat) : Int)) : Int) <| P0))
/-! loop example/g00886/laws toMail -/
noncomputable def b30 : Code := match Go.Proofs.Try.f30.body with | some c => c | none => .skip
theorem F30 : X.P.funcs[30]? = some Go.Proofs.Try.f30 := by kernel_rfl
def R30 (r : G46) : List D := [.agg [.int .i64 r.Turn, .int .i64 r.Side, .int .i64 r.Seal]]
def N30 (r : G46) : List Root := []
theorem c30 {a0 : G48} {r : G46} (H : D30 a0 = some r) : Ct X.P X.gl 30 [.agg [.int .i64 a0.Turn, .int .i64 a0.Side, .int .i64 a0.Seal]] [] (R30 r) (N30 r) :=
  Ct.of F30 (c := b30) (by kernel_rfl) (by kernel_rfl) <|
  eRet (P := fun r => Wc X 30 0 _ _ (R30 r) (N30 r)) H <| runFin_ok T_ok mixed F30 (cmds := [.reg [],
    .reg [],
    .reg [{ i := 1, xs := [.int .i64 a0.Turn] }],
    .reg [{ i := 1, xs := [.int .i64 a0.Side] }],
    .reg [{ i := 1, xs := [.int .i64 a0.Seal] }],
    .reg [{ i := 0, xs := [.int .i64 a0.Turn, .int .i64 a0.Side, .int .i64 a0.Seal] }]]) (by kernel_rfl) (PI (some [.int .i64 a0.Turn] : Option (List D)) <| PI (some [.int .i64 a0.Side] : Option (List D)) <| PI (some [.int .i64 a0.Seal] : Option (List D)) <| PI (some [.int .i64 a0.Turn, .int .i64 a0.Side, .int .i64 a0.Seal] : Option (List D)) <| PI (a0.Turn : Int) <| PI (a0.Side : Int) <| PI (a0.Seal : Int) <| P0)
/-! loop example/g00886/laws toMailS -/
noncomputable def b11 : Code := match Go.Proofs.Try.f11.body with | some c => c | none => .skip
theorem F11 : X.P.funcs[11]? = some Go.Proofs.Try.f11 := by kernel_rfl
def R11 (r : (List G46)) : List D := [ow 3 g46 r]
def N11 (r : (List G46)) : List Root := []
noncomputable def K11 : S11 → List Item
  | .h1 .. => nav 300 3 [] [.code b11]
def Z11 : S11 → St
  | .h1 va0 i1 l2 => ⟨sts 23 [(0, sl 3 g48 va0), (3, .ref 0 3 none), (4, .int .i64 i1)], [some ⟨false, false, 3, List.length l2, List.map g46 l2⟩]⟩
theorem n11 : ∀ s o, B11 s = some o → Nx X 11 0 K11 Z11 R11 N11 (K11 s) (Z11 s) o
  | .h1 va0 i1 l2, o, H =>
    eIf H (fun h1 H =>
      eCk H fun h2 H =>
      eBind H fun x3 hx3 H =>
      eBind H fun r4 hr4 H =>
      eCk H fun h5 H =>
      eBind H fun x6 hx6 H =>
      eRet (P := Nx X 11 0 K11 Z11 R11 N11 (K11 (.h1 va0 i1 l2)) (Z11 (.h1 va0 i1 l2))) H fun r hn => run_ok T_ok mixed (cmds := [.reg [{ i := 3, dec := some true }],
    .reg [{ i := 5, xs := [.int .i64 x3.Turn, .int .i64 x3.Side, .int .i64 x3.Seal] }, { i := 6, call := some { cl := true, ins := [], args := [.agg [.int .i64 x3.Turn, .int .i64 x3.Side, .int .i64 x3.Seal]], res := R30 r4, G' := N30 r4 } }, { i := 8, xs := List.map g46 (List.set l2 (Int.toNat i1) r4), n := List.length (List.set l2 (Int.toNat i1) r4) }],
    .reg [],
    .canon [0] [0, 3, 4]]) (by kernel_rfl) (P2 ((decide (i1 < ((List.length va0 : Nat) : Int))) = true) (decide_eq_true h1) <| P2 ((0 : Int) ≤ i1) h2 <| P2 (i1 < (List.length va0 : Int)) (int_lt_of_at (h2) hx3) <| P2 (getCells (List.map g48 va0) (Int.toNat i1) 0 3 = some [.int .i64 x3.Turn, .int .i64 x3.Side, .int .i64 x3.Seal]) (getCells_map hx3 rfl) <| PI (x3.Turn : Int) <| PI (x3.Side : Int) <| PI (x3.Seal : Int) <| P1 (c30 hr4) <| P2 ((0 : Int) ≤ i1) h5 <| P2 (i1 < (List.length l2 : Int)) (int_lt_of_at (h5) hx6) <| P1 (lt_of_at hx6) <| P2 (setCells (List.map g46 l2) (Int.toNat i1) 0 [.int .i64 r4.Turn, .int .i64 r4.Side, .int .i64 r4.Seal] = List.map g46 (List.set l2 (Int.toNat i1) r4)) (setCells_map hx6 rfl) <| P2 (List.length l2 = List.length (List.set l2 (Int.toNat i1) r4)) (by simp) <| P0) hn)
    (fun h1 H =>
      eRet (P := Nx X 11 0 K11 Z11 R11 N11 (K11 (.h1 va0 i1 l2)) (Z11 (.h1 va0 i1 l2))) H <| runFin_ok T_ok mixed F11 (cmds := [.reg [{ i := 3, dec := some false }],
    .reg []]) (by kernel_rfl) (P2 ((decide (i1 < ((List.length va0 : Nat) : Int))) = false) (decide_eq_false h1) <| PR g46 l2 <| P0))
theorem w11 : ∀ s r, loop B11 s = some r → Wc X 11 0 (K11 s) (Z11 s) (R11 r) (N11 r) := Nx.all n11
theorem c11 {a0 : (List G48)} {r : (List G46)} (H : D11 a0 = some r) : Ct X.P X.gl 11 [sl 3 g48 a0] [] (R11 r) (N11 r) :=
  Ct.of F11 (c := b11) (by kernel_rfl) (by kernel_rfl) <|
  eCk H fun h1 H =>
  eCk H fun h2 H =>
  run_ok T_ok mixed (cmds := [.reg [],
    .reg [{ i := 2, n := List.length (List.replicate (Int.toNat ((List.length a0 : Nat) : Int)) (G46.mk 0 0 0)), xs := List.map g46 (List.replicate (Int.toNat ((List.length a0 : Nat) : Int)) (G46.mk 0 0 0)) }],
    .reg [],
    .canon [0] [0, 3, 4]]) (by kernel_rfl) (PI (((List.length a0 : Nat) : Int) : Int) <| P2 ((0 : Int) ≤ ((List.length a0 : Nat) : Int)) h1 <| P2 (Int.toNat ((List.length a0 : Nat) : Int) * 24 ≤ 140737488355328) h2 <| P2 (List.length (List.replicate (Int.toNat ((List.length a0 : Nat) : Int)) (G46.mk 0 0 0)) = Int.toNat ((List.length a0 : Nat) : Int)) (by simp) <| P2 (List.replicate (Int.toNat ((List.length a0 : Nat) : Int)) (.agg [.int .i64 0, .int .i64 0, .int .i64 0]) = List.map g46 (List.replicate (Int.toNat ((List.length a0 : Nat) : Int)) (G46.mk 0 0 0))) (by rw [List.map_replicate]; rfl) <| P0) (w11 _ _ H)
/-! loop example/g00886/spec l1In -/
noncomputable def b51 : Code := match Go.Proofs.Try.f51.body with | some c => c | none => .skip
theorem F51 : X.P.funcs[51]? = some Go.Proofs.Try.f51 := by kernel_rfl
def R51 (r : Bool) : List D := [.bool r]
def N51 (r : Bool) : List Root := []
theorem c51 {a0 : Int} {a1 : Int} {a2 : Int} {r : Bool} (H : D51 a0 a1 a2 = some r) : Ct X.P X.gl 51 [.int .i64 a0, .int .i64 a1, .int .i64 a2] [] (R51 r) (N51 r) :=
  Ct.of F51 (c := b51) (by kernel_rfl) (by kernel_rfl) <|
  eIf H (fun h1 H =>
    eRet (P := fun r => Wc X 51 0 _ _ (R51 r) (N51 r)) H <| runFin_ok T_ok mixed F51 (cmds := [.reg [],
    .reg [{ i := 2, dec := some true }]]) (by kernel_rfl) (P2 ((decide (a0 ≥ a1)) = true) (decide_eq_true h1) <| PI (decide (a0 ≤ a2)) <| P0))
  (fun h1 H =>
    eRet (P := fun r => Wc X 51 0 _ _ (R51 r) (N51 r)) H <| runFin_ok T_ok mixed F51 (cmds := [.reg [],
    .reg [{ i := 2, dec := some false }]]) (by kernel_rfl) (P2 ((decide (a0 ≥ a1)) = false) (decide_eq_false h1) <| PI false <| P0))
/-! loop example/g00886/spec dSeed -/
noncomputable def b48 : Code := match Go.Proofs.Try.f48.body with | some c => c | none => .skip
theorem F48 : X.P.funcs[48]? = some Go.Proofs.Try.f48 := by kernel_rfl
def R48 (r : Bool) : List D := [.bool r]
def N48 (r : Bool) : List Root := []
theorem c48 {a0 : Int} {r : Bool} (H : D48 a0 = some r) : Ct X.P X.gl 48 [.int .i64 a0] [] (R48 r) (N48 r) :=
  Ct.of F48 (c := b48) (by kernel_rfl) (by kernel_rfl) <|
  eBind H fun r1 hr1 H =>
  eRet (P := fun r => Wc X 48 0 _ _ (R48 r) (N48 r)) H <| runFin_ok T_ok mixed F48 (cmds := [.reg [],
    .reg [{ i := 1, call := some { cl := true, ins := [], args := [.int .i64 a0, .int .i64 0, .int .i64 4611686016279904236], res := R51 r1, G' := N51 r1 } }]]) (by kernel_rfl) (PI (a0 : Int) <| PI (0 : Int) <| PI (4611686016279904236 : Int) <| P1 (c51 hr1) <| PI r1 <| P0)
/-! loop example/g00886/spec nKey -/
noncomputable def b52 : Code := match Go.Proofs.Try.f52.body with | some c => c | none => .skip
theorem F52 : X.P.funcs[52]? = some Go.Proofs.Try.f52 := by kernel_rfl
def R52 (r : Int) : List D := [.int .i64 r]
def N52 (r : Int) : List Root := []
theorem c52 {a0 : G46} {r : Int} (H : D52 a0 = some r) : Ct X.P X.gl 52 [.agg [.int .i64 a0.Turn, .int .i64 a0.Side, .int .i64 a0.Seal]] [] (R52 r) (N52 r) :=
  Ct.of F52 (c := b52) (by kernel_rfl) (by kernel_rfl) <|
  eRet (P := fun r => Wc X 52 0 _ _ (R52 r) (N52 r)) H <| runFin_ok T_ok mixed F52 (cmds := [.reg [],
    .reg [{ i := 1, xs := [.int .i64 a0.Turn] }, { i := 4, xs := [.int .i64 a0.Side] }]]) (by kernel_rfl) (PI (some [.int .i64 a0.Turn] : Option (List D)) <| PI (some [.int .i64 a0.Side] : Option (List D)) <| PI (IntKind.wrap .i64 ((IntKind.wrap .i64 (2 * a0.Turn)) + a0.Side) : Int) <| P0)
/-! loop example/g00886/spec nMails -/
noncomputable def b29 : Code := match Go.Proofs.Try.f29.body with | some c => c | none => .skip
theorem F29 : X.P.funcs[29]? = some Go.Proofs.Try.f29 := by kernel_rfl
def R29 (r : Bool) : List D := [.bool r]
def N29 (r : Bool) : List Root := []
noncomputable def K29 : S29 → List Item
  | .h1 .. => nav 300 2 [] [.code b29]
def Z29 : S29 → St
  | .h1 l0 t1 t2 t3 => ⟨sts 47 [(0, sl 3 g46 l0), (5, sl 3 g46 t1), (6, .int .i64 t2), (7, .int .i64 t3)], []⟩
theorem n29 : ∀ s o, B29 s = some o → Nx X 29 0 K29 Z29 R29 N29 (K29 s) (Z29 s) o
  | .h1 l0 t1 t2 t3, o, H =>
    eIf H (fun h1 H =>
      eCk H fun h2 H =>
      eBind H fun x3 hx3 H =>
      eBind H fun r4 hr4 H =>
      eIf H (fun h5 H =>
        eBind H fun r6 hr6 H =>
        eIf H (fun h7 H =>
          eBind H fun r8 hr8 H =>
          eIf H (fun h9 H =>
            eIf H (fun h10 H =>
              eCk H fun h11 H =>
              eBind H fun x12 hx12 H =>
              eBind H fun r13 hr13 H =>
              eBind H fun r14 hr14 H =>
              eIf H (fun h15 H =>
                eRet (P := Nx X 29 0 K29 Z29 R29 N29 (K29 (.h1 l0 t1 t2 t3)) (Z29 (.h1 l0 t1 t2 t3))) H <| runFin_ok T_ok mixed F29 (cmds := [.reg [{ i := 0, dec := some true }],
    .reg [{ i := 2, xs := [.int .i64 x3.Turn, .int .i64 x3.Side, .int .i64 x3.Seal] }],
    .reg [{ i := 1, xs := [.int .i64 x3.Turn] }, { i := 2, call := some { cl := true, ins := [], args := [.int .i64 x3.Turn, .int .i64 0, .int .i64 30], res := R51 r4, G' := N51 r4 }, dec := some true }, { i := 6, xs := [.int .i64 x3.Side] }, { i := 7, call := some { cl := true, ins := [], args := [.int .i64 x3.Side, .int .i64 0, .int .i64 1], res := R51 r6, G' := N51 r6 }, dec := some true }, { i := 12, xs := [.int .i64 x3.Seal] }, { i := 13, call := some { cl := true, ins := [], args := [.int .i64 x3.Seal], res := R48 r8, G' := N48 r8 }, dec := some true }, { i := 18, dec := some true }, { i := 24, xs := [.int .i64 x12.Turn, .int .i64 x12.Side, .int .i64 x12.Seal] }, { i := 25, call := some { cl := true, ins := [], args := [.agg [.int .i64 x12.Turn, .int .i64 x12.Side, .int .i64 x12.Seal]], res := R52 r13, G' := N52 r13 } }, { i := 26, xs := [.int .i64 x3.Turn, .int .i64 x3.Side, .int .i64 x3.Seal] }, { i := 27, call := some { cl := true, ins := [], args := [.agg [.int .i64 x3.Turn, .int .i64 x3.Side, .int .i64 x3.Seal]], res := R52 r14, G' := N52 r14 } }, { i := 28, dec := some true }],
    .reg []]) (by kernel_rfl) (P2 ((decide (t3 < t2)) = true) (decide_eq_true h1) <| P2 ((0 : Int) ≤ t3) h2 <| P2 (t3 < (List.length t1 : Int)) (int_lt_of_at (h2) hx3) <| P2 (getCells (List.map g46 t1) (Int.toNat t3) 0 3 = some [.int .i64 x3.Turn, .int .i64 x3.Side, .int .i64 x3.Seal]) (getCells_map hx3 rfl) <| PI (some [.int .i64 x3.Turn] : Option (List D)) <| PI (x3.Turn : Int) <| PI (0 : Int) <| PI (30 : Int) <| P1 (c51 hr4) <| P2 (r4 = true) (h5) <| PI (some [.int .i64 x3.Side] : Option (List D)) <| PI (x3.Side : Int) <| PI (0 : Int) <| PI (1 : Int) <| P1 (c51 hr6) <| P2 (r6 = true) (h7) <| PI (some [.int .i64 x3.Seal] : Option (List D)) <| PI (x3.Seal : Int) <| P1 (c48 hr8) <| P2 (r8 = true) (h9) <| P2 ((decide (t3 > 0)) = true) (decide_eq_true h10) <| P2 ((0 : Int) ≤ (IntKind.wrap .i64 (t3 - 1))) h11 <| P2 ((IntKind.wrap .i64 (t3 - 1)) < (List.length l0 : Int)) (int_lt_of_at (h11) hx12) <| P2 (getCells (List.map g46 l0) (Int.toNat (IntKind.wrap .i64 (t3 - 1))) 0 3 = some [.int .i64 x12.Turn, .int .i64 x12.Side, .int .i64 x12.Seal]) (getCells_map hx12 rfl) <| PI (x12.Turn : Int) <| PI (x12.Side : Int) <| PI (x12.Seal : Int) <| P1 (c52 hr13) <| PI (some [.int .i64 x3.Turn, .int .i64 x3.Side, .int .i64 x3.Seal] : Option (List D)) <| PI (x3.Turn : Int) <| PI (x3.Side : Int) <| PI (x3.Seal : Int) <| P1 (c52 hr14) <| P2 ((decide (r13 ≥ r14)) = true) (decide_eq_true h15) <| PI false <| P0))
              (fun h15 H =>
                eRet (P := Nx X 29 0 K29 Z29 R29 N29 (K29 (.h1 l0 t1 t2 t3)) (Z29 (.h1 l0 t1 t2 t3))) H fun r hn => run_ok T_ok mixed (cmds := [.reg [{ i := 0, dec := some true }],
    .reg [{ i := 2, xs := [.int .i64 x3.Turn, .int .i64 x3.Side, .int .i64 x3.Seal] }],
    .reg [{ i := 1, xs := [.int .i64 x3.Turn] }, { i := 2, call := some { cl := true, ins := [], args := [.int .i64 x3.Turn, .int .i64 0, .int .i64 30], res := R51 r4, G' := N51 r4 }, dec := some true }, { i := 6, xs := [.int .i64 x3.Side] }, { i := 7, call := some { cl := true, ins := [], args := [.int .i64 x3.Side, .int .i64 0, .int .i64 1], res := R51 r6, G' := N51 r6 }, dec := some true }, { i := 12, xs := [.int .i64 x3.Seal] }, { i := 13, call := some { cl := true, ins := [], args := [.int .i64 x3.Seal], res := R48 r8, G' := N48 r8 }, dec := some true }, { i := 18, dec := some true }, { i := 24, xs := [.int .i64 x12.Turn, .int .i64 x12.Side, .int .i64 x12.Seal] }, { i := 25, call := some { cl := true, ins := [], args := [.agg [.int .i64 x12.Turn, .int .i64 x12.Side, .int .i64 x12.Seal]], res := R52 r13, G' := N52 r13 } }, { i := 26, xs := [.int .i64 x3.Turn, .int .i64 x3.Side, .int .i64 x3.Seal] }, { i := 27, call := some { cl := true, ins := [], args := [.agg [.int .i64 x3.Turn, .int .i64 x3.Side, .int .i64 x3.Seal]], res := R52 r14, G' := N52 r14 } }, { i := 28, dec := some false }],
    .reg [],
    .canon [] [0, 5, 6, 7]]) (by kernel_rfl) (P2 ((decide (t3 < t2)) = true) (decide_eq_true h1) <| P2 ((0 : Int) ≤ t3) h2 <| P2 (t3 < (List.length t1 : Int)) (int_lt_of_at (h2) hx3) <| P2 (getCells (List.map g46 t1) (Int.toNat t3) 0 3 = some [.int .i64 x3.Turn, .int .i64 x3.Side, .int .i64 x3.Seal]) (getCells_map hx3 rfl) <| PI (some [.int .i64 x3.Turn] : Option (List D)) <| PI (x3.Turn : Int) <| PI (0 : Int) <| PI (30 : Int) <| P1 (c51 hr4) <| P2 (r4 = true) (h5) <| PI (some [.int .i64 x3.Side] : Option (List D)) <| PI (x3.Side : Int) <| PI (0 : Int) <| PI (1 : Int) <| P1 (c51 hr6) <| P2 (r6 = true) (h7) <| PI (some [.int .i64 x3.Seal] : Option (List D)) <| PI (x3.Seal : Int) <| P1 (c48 hr8) <| P2 (r8 = true) (h9) <| P2 ((decide (t3 > 0)) = true) (decide_eq_true h10) <| P2 ((0 : Int) ≤ (IntKind.wrap .i64 (t3 - 1))) h11 <| P2 ((IntKind.wrap .i64 (t3 - 1)) < (List.length l0 : Int)) (int_lt_of_at (h11) hx12) <| P2 (getCells (List.map g46 l0) (Int.toNat (IntKind.wrap .i64 (t3 - 1))) 0 3 = some [.int .i64 x12.Turn, .int .i64 x12.Side, .int .i64 x12.Seal]) (getCells_map hx12 rfl) <| PI (x12.Turn : Int) <| PI (x12.Side : Int) <| PI (x12.Seal : Int) <| P1 (c52 hr13) <| PI (some [.int .i64 x3.Turn, .int .i64 x3.Side, .int .i64 x3.Seal] : Option (List D)) <| PI (x3.Turn : Int) <| PI (x3.Side : Int) <| PI (x3.Seal : Int) <| P1 (c52 hr14) <| P2 ((decide (r13 ≥ r14)) = false) (decide_eq_false h15) <| P0) hn))
            (fun h10 H =>
              eRet (P := Nx X 29 0 K29 Z29 R29 N29 (K29 (.h1 l0 t1 t2 t3)) (Z29 (.h1 l0 t1 t2 t3))) H fun r hn => run_ok T_ok mixed (cmds := [.reg [{ i := 0, dec := some true }],
    .reg [{ i := 2, xs := [.int .i64 x3.Turn, .int .i64 x3.Side, .int .i64 x3.Seal] }],
    .reg [{ i := 1, xs := [.int .i64 x3.Turn] }, { i := 2, call := some { cl := true, ins := [], args := [.int .i64 x3.Turn, .int .i64 0, .int .i64 30], res := R51 r4, G' := N51 r4 }, dec := some true }, { i := 6, xs := [.int .i64 x3.Side] }, { i := 7, call := some { cl := true, ins := [], args := [.int .i64 x3.Side, .int .i64 0, .int .i64 1], res := R51 r6, G' := N51 r6 }, dec := some true }, { i := 12, xs := [.int .i64 x3.Seal] }, { i := 13, call := some { cl := true, ins := [], args := [.int .i64 x3.Seal], res := R48 r8, G' := N48 r8 }, dec := some true }, { i := 18, dec := some false }],
    .reg [],
    .canon [] [0, 5, 6, 7]]) (by kernel_rfl) (P2 ((decide (t3 < t2)) = true) (decide_eq_true h1) <| P2 ((0 : Int) ≤ t3) h2 <| P2 (t3 < (List.length t1 : Int)) (int_lt_of_at (h2) hx3) <| P2 (getCells (List.map g46 t1) (Int.toNat t3) 0 3 = some [.int .i64 x3.Turn, .int .i64 x3.Side, .int .i64 x3.Seal]) (getCells_map hx3 rfl) <| PI (some [.int .i64 x3.Turn] : Option (List D)) <| PI (x3.Turn : Int) <| PI (0 : Int) <| PI (30 : Int) <| P1 (c51 hr4) <| P2 (r4 = true) (h5) <| PI (some [.int .i64 x3.Side] : Option (List D)) <| PI (x3.Side : Int) <| PI (0 : Int) <| PI (1 : Int) <| P1 (c51 hr6) <| P2 (r6 = true) (h7) <| PI (some [.int .i64 x3.Seal] : Option (List D)) <| PI (x3.Seal : Int) <| P1 (c48 hr8) <| P2 (r8 = true) (h9) <| P2 ((decide (t3 > 0)) = false) (decide_eq_false h10) <| P0) hn))
          (fun h9 H =>
            eRet (P := Nx X 29 0 K29 Z29 R29 N29 (K29 (.h1 l0 t1 t2 t3)) (Z29 (.h1 l0 t1 t2 t3))) H <| runFin_ok T_ok mixed F29 (cmds := [.reg [{ i := 0, dec := some true }],
    .reg [{ i := 2, xs := [.int .i64 x3.Turn, .int .i64 x3.Side, .int .i64 x3.Seal] }],
    .reg [{ i := 1, xs := [.int .i64 x3.Turn] }, { i := 2, call := some { cl := true, ins := [], args := [.int .i64 x3.Turn, .int .i64 0, .int .i64 30], res := R51 r4, G' := N51 r4 }, dec := some true }, { i := 6, xs := [.int .i64 x3.Side] }, { i := 7, call := some { cl := true, ins := [], args := [.int .i64 x3.Side, .int .i64 0, .int .i64 1], res := R51 r6, G' := N51 r6 }, dec := some true }, { i := 12, xs := [.int .i64 x3.Seal] }, { i := 13, call := some { cl := true, ins := [], args := [.int .i64 x3.Seal], res := R48 r8, G' := N48 r8 }, dec := some false }],
    .reg []]) (by kernel_rfl) (P2 ((decide (t3 < t2)) = true) (decide_eq_true h1) <| P2 ((0 : Int) ≤ t3) h2 <| P2 (t3 < (List.length t1 : Int)) (int_lt_of_at (h2) hx3) <| P2 (getCells (List.map g46 t1) (Int.toNat t3) 0 3 = some [.int .i64 x3.Turn, .int .i64 x3.Side, .int .i64 x3.Seal]) (getCells_map hx3 rfl) <| PI (some [.int .i64 x3.Turn] : Option (List D)) <| PI (x3.Turn : Int) <| PI (0 : Int) <| PI (30 : Int) <| P1 (c51 hr4) <| P2 (r4 = true) (h5) <| PI (some [.int .i64 x3.Side] : Option (List D)) <| PI (x3.Side : Int) <| PI (0 : Int) <| PI (1 : Int) <| P1 (c51 hr6) <| P2 (r6 = true) (h7) <| PI (some [.int .i64 x3.Seal] : Option (List D)) <| PI (x3.Seal : Int) <| P1 (c48 hr8) <| P2 (r8 = false) (eqF h9) <| PI false <| P0)))
        (fun h7 H =>
          eRet (P := Nx X 29 0 K29 Z29 R29 N29 (K29 (.h1 l0 t1 t2 t3)) (Z29 (.h1 l0 t1 t2 t3))) H <| runFin_ok T_ok mixed F29 (cmds := [.reg [{ i := 0, dec := some true }],
    .reg [{ i := 2, xs := [.int .i64 x3.Turn, .int .i64 x3.Side, .int .i64 x3.Seal] }],
    .reg [{ i := 1, xs := [.int .i64 x3.Turn] }, { i := 2, call := some { cl := true, ins := [], args := [.int .i64 x3.Turn, .int .i64 0, .int .i64 30], res := R51 r4, G' := N51 r4 }, dec := some true }, { i := 6, xs := [.int .i64 x3.Side] }, { i := 7, call := some { cl := true, ins := [], args := [.int .i64 x3.Side, .int .i64 0, .int .i64 1], res := R51 r6, G' := N51 r6 }, dec := some false }],
    .reg []]) (by kernel_rfl) (P2 ((decide (t3 < t2)) = true) (decide_eq_true h1) <| P2 ((0 : Int) ≤ t3) h2 <| P2 (t3 < (List.length t1 : Int)) (int_lt_of_at (h2) hx3) <| P2 (getCells (List.map g46 t1) (Int.toNat t3) 0 3 = some [.int .i64 x3.Turn, .int .i64 x3.Side, .int .i64 x3.Seal]) (getCells_map hx3 rfl) <| PI (some [.int .i64 x3.Turn] : Option (List D)) <| PI (x3.Turn : Int) <| PI (0 : Int) <| PI (30 : Int) <| P1 (c51 hr4) <| P2 (r4 = true) (h5) <| PI (some [.int .i64 x3.Side] : Option (List D)) <| PI (x3.Side : Int) <| PI (0 : Int) <| PI (1 : Int) <| P1 (c51 hr6) <| P2 (r6 = false) (eqF h7) <| PI false <| P0)))
      (fun h5 H =>
        eRet (P := Nx X 29 0 K29 Z29 R29 N29 (K29 (.h1 l0 t1 t2 t3)) (Z29 (.h1 l0 t1 t2 t3))) H <| runFin_ok T_ok mixed F29 (cmds := [.reg [{ i := 0, dec := some true }],
    .reg [{ i := 2, xs := [.int .i64 x3.Turn, .int .i64 x3.Side, .int .i64 x3.Seal] }],
    .reg [{ i := 1, xs := [.int .i64 x3.Turn] }, { i := 2, call := some { cl := true, ins := [], args := [.int .i64 x3.Turn, .int .i64 0, .int .i64 30], res := R51 r4, G' := N51 r4 }, dec := some false }],
    .reg []]) (by kernel_rfl) (P2 ((decide (t3 < t2)) = true) (decide_eq_true h1) <| P2 ((0 : Int) ≤ t3) h2 <| P2 (t3 < (List.length t1 : Int)) (int_lt_of_at (h2) hx3) <| P2 (getCells (List.map g46 t1) (Int.toNat t3) 0 3 = some [.int .i64 x3.Turn, .int .i64 x3.Side, .int .i64 x3.Seal]) (getCells_map hx3 rfl) <| PI (some [.int .i64 x3.Turn] : Option (List D)) <| PI (x3.Turn : Int) <| PI (0 : Int) <| PI (30 : Int) <| P1 (c51 hr4) <| P2 (r4 = false) (eqF h5) <| PI false <| P0)))
    (fun h1 H =>
      eRet (P := Nx X 29 0 K29 Z29 R29 N29 (K29 (.h1 l0 t1 t2 t3)) (Z29 (.h1 l0 t1 t2 t3))) H <| runFin_ok T_ok mixed F29 (cmds := [.reg [{ i := 0, dec := some false }],
    .reg []]) (by kernel_rfl) (P2 ((decide (t3 < t2)) = false) (decide_eq_false h1) <| PI (decide (((List.length l0 : Nat) : Int) ≤ 20)) <| P0))
theorem w29 : ∀ s r, loop B29 s = some r → Wc X 29 0 (K29 s) (Z29 s) (R29 r) (N29 r) := Nx.all n29
theorem c29 {a0 : (List G46)} {r : Bool} (H : D29 a0 = some r) : Ct X.P X.gl 29 [sl 3 g46 a0] [] (R29 r) (N29 r) :=
  Ct.of F29 (c := b29) (by kernel_rfl) (by kernel_rfl) <|
  run_ok T_ok mixed (cmds := [.reg [],
    .reg [],
    .canon [] [0, 5, 6, 7]]) (by kernel_rfl) (P0) (w29 _ _ H)
/-! loop example/g00886/spec IsMailbox -/
noncomputable def b10 : Code := match Go.Proofs.Try.f10.body with | some c => c | none => .skip
theorem F10 : X.P.funcs[10]? = some Go.Proofs.Try.f10 := by kernel_rfl
def R10 (r : Bool) : List D := [.bool r]
def N10 (r : Bool) : List Root := []
theorem c10 {a0 : (List G46)} {r : Bool} (H : D10 a0 = some r) : Ct X.P X.gl 10 [sl 3 g46 a0] [] (R10 r) (N10 r) :=
  Ct.of F10 (c := b10) (by kernel_rfl) (by kernel_rfl) <|
  eBind H fun r1 hr1 H =>
  eRet (P := fun r => Wc X 10 0 _ _ (R10 r) (N10 r)) H <| runFin_ok T_ok mixed F10 (cmds := [.reg [],
    .reg [{ i := 1, call := some { cl := true, ins := [], args := [sl 3 g46 a0], res := R29 r1, G' := N29 r1 } }]]) (by kernel_rfl) (PL g46 a0 <| P1 (c29 hr1) <| PI r1 <| P0)
/-! loop example/g00886/impl inRange -/
noncomputable def b38 : Code := match Go.Proofs.Try.f38.body with | some c => c | none => .skip
theorem F38 : X.P.funcs[38]? = some Go.Proofs.Try.f38 := by kernel_rfl
def R38 (r : Bool) : List D := [.bool r]
def N38 (r : Bool) : List Root := []
theorem c38 {a0 : Int} {a1 : Int} {a2 : Int} {r : Bool} (H : D38 a0 a1 a2 = some r) : Ct X.P X.gl 38 [.int .i64 a0, .int .i64 a1, .int .i64 a2] [] (R38 r) (N38 r) :=
  Ct.of F38 (c := b38) (by kernel_rfl) (by kernel_rfl) <|
  eIf H (fun h1 H =>
    eRet (P := fun r => Wc X 38 0 _ _ (R38 r) (N38 r)) H <| runFin_ok T_ok mixed F38 (cmds := [.reg [],
    .reg [{ i := 2, dec := some true }]]) (by kernel_rfl) (P2 ((decide (a1 ≤ a0)) = true) (decide_eq_true h1) <| PI (decide (a0 ≤ a2)) <| P0))
  (fun h1 H =>
    eRet (P := fun r => Wc X 38 0 _ _ (R38 r) (N38 r)) H <| runFin_ok T_ok mixed F38 (cmds := [.reg [],
    .reg [{ i := 2, dec := some false }]]) (by kernel_rfl) (P2 ((decide (a1 ≤ a0)) = false) (decide_eq_false h1) <| PI false <| P0))
/-! loop example/g00886/impl isTurn -/
noncomputable def b31 : Code := match Go.Proofs.Try.f31.body with | some c => c | none => .skip
theorem F31 : X.P.funcs[31]? = some Go.Proofs.Try.f31 := by kernel_rfl
def R31 (r : Bool) : List D := [.bool r]
def N31 (r : Bool) : List Root := []
theorem c31 {a0 : Int} {r : Bool} (H : D31 a0 = some r) : Ct X.P X.gl 31 [.int .i64 a0] [] (R31 r) (N31 r) :=
  Ct.of F31 (c := b31) (by kernel_rfl) (by kernel_rfl) <|
  eBind H fun r1 hr1 H =>
  eRet (P := fun r => Wc X 31 0 _ _ (R31 r) (N31 r)) H <| runFin_ok T_ok mixed F31 (cmds := [.reg [],
    .reg [{ i := 1, call := some { cl := true, ins := [], args := [.int .i64 a0, .int .i64 0, .int .i64 30], res := R38 r1, G' := N38 r1 } }]]) (by kernel_rfl) (PI (a0 : Int) <| PI (0 : Int) <| PI (30 : Int) <| P1 (c38 hr1) <| PI r1 <| P0)
/-! loop example/g00886/impl isSide -/
noncomputable def b32 : Code := match Go.Proofs.Try.f32.body with | some c => c | none => .skip
theorem F32 : X.P.funcs[32]? = some Go.Proofs.Try.f32 := by kernel_rfl
def R32 (r : Bool) : List D := [.bool r]
def N32 (r : Bool) : List Root := []
theorem c32 {a0 : Int} {r : Bool} (H : D32 a0 = some r) : Ct X.P X.gl 32 [.int .i64 a0] [] (R32 r) (N32 r) :=
  Ct.of F32 (c := b32) (by kernel_rfl) (by kernel_rfl) <|
  eBind H fun r1 hr1 H =>
  eRet (P := fun r => Wc X 32 0 _ _ (R32 r) (N32 r)) H <| runFin_ok T_ok mixed F32 (cmds := [.reg [],
    .reg [{ i := 1, call := some { cl := true, ins := [], args := [.int .i64 a0, .int .i64 0, .int .i64 1], res := R38 r1, G' := N38 r1 } }]]) (by kernel_rfl) (PI (a0 : Int) <| PI (0 : Int) <| PI (1 : Int) <| P1 (c38 hr1) <| PI r1 <| P0)
/-! loop example/g00886/impl isSeed -/
noncomputable def b33 : Code := match Go.Proofs.Try.f33.body with | some c => c | none => .skip
theorem F33 : X.P.funcs[33]? = some Go.Proofs.Try.f33 := by kernel_rfl
def R33 (r : Bool) : List D := [.bool r]
def N33 (r : Bool) : List Root := []
theorem c33 {a0 : Int} {r : Bool} (H : D33 a0 = some r) : Ct X.P X.gl 33 [.int .i64 a0] [] (R33 r) (N33 r) :=
  Ct.of F33 (c := b33) (by kernel_rfl) (by kernel_rfl) <|
  eBind H fun r1 hr1 H =>
  eRet (P := fun r => Wc X 33 0 _ _ (R33 r) (N33 r)) H <| runFin_ok T_ok mixed F33 (cmds := [.reg [],
    .reg [{ i := 1, call := some { cl := true, ins := [], args := [.int .i64 a0, .int .i64 0, .int .i64 4611686016279904236], res := R38 r1, G' := N38 r1 } }]]) (by kernel_rfl) (PI (a0 : Int) <| PI (0 : Int) <| PI (4611686016279904236 : Int) <| P1 (c38 hr1) <| PI r1 <| P0)
/-! loop example/g00886/impl compareMails -/
noncomputable def b34 : Code := match Go.Proofs.Try.f34.body with | some c => c | none => .skip
theorem F34 : X.P.funcs[34]? = some Go.Proofs.Try.f34 := by kernel_rfl
def R34 (r : Int) : List D := [.int .i64 r]
def N34 (r : Int) : List Root := []
theorem c34 {a0 : G46} {a1 : G46} {r : Int} (H : D34 a0 a1 = some r) : Ct X.P X.gl 34 [.agg [.int .i64 a0.Turn, .int .i64 a0.Side, .int .i64 a0.Seal], .agg [.int .i64 a1.Turn, .int .i64 a1.Side, .int .i64 a1.Seal]] [] (R34 r) (N34 r) :=
  Ct.of F34 (c := b34) (by kernel_rfl) (by kernel_rfl) <|
  eIf H (fun h1 H =>
    eRet (P := fun r => Wc X 34 0 _ _ (R34 r) (N34 r)) H <| runFin_ok T_ok mixed F34 (cmds := [.reg [],
    .reg [{ i := 1, xs := [.int .i64 a0.Turn] }, { i := 3, xs := [.int .i64 a1.Turn] }, { i := 4, dec := some false }],
    .reg [{ i := 1, xs := [.int .i64 a0.Side] }, { i := 3, xs := [.int .i64 a1.Side] }]]) (by kernel_rfl) (PI (some [.int .i64 a0.Turn] : Option (List D)) <| PI (some [.int .i64 a1.Turn] : Option (List D)) <| P2 (((a0.Turn : Int) != a1.Turn) = false) (bneF h1) <| PI (some [.int .i64 a0.Side] : Option (List D)) <| PI (some [.int .i64 a1.Side] : Option (List D)) <| PI (IntKind.wrap .i64 (a0.Side - a1.Side) : Int) <| P0))
  (fun h1 H =>
    eRet (P := fun r => Wc X 34 0 _ _ (R34 r) (N34 r)) H <| runFin_ok T_ok mixed F34 (cmds := [.reg [],
    .reg [{ i := 1, xs := [.int .i64 a0.Turn] }, { i := 3, xs := [.int .i64 a1.Turn] }, { i := 4, dec := some true }],
    .reg [{ i := 1, xs := [.int .i64 a0.Turn] }, { i := 3, xs := [.int .i64 a1.Turn] }]]) (by kernel_rfl) (PI (some [.int .i64 a0.Turn] : Option (List D)) <| PI (some [.int .i64 a1.Turn] : Option (List D)) <| P2 (((a0.Turn : Int) != a1.Turn) = true) (bneT h1) <| PI (some [.int .i64 a0.Turn] : Option (List D)) <| PI (some [.int .i64 a1.Turn] : Option (List D)) <| PI (IntKind.wrap .i64 (a0.Turn - a1.Turn) : Int) <| P0))
/-! loop example/g00886/impl IsMailbox -/
noncomputable def b12 : Code := match Go.Proofs.Try.f12.body with | some c => c | none => .skip
theorem F12 : X.P.funcs[12]? = some Go.Proofs.Try.f12 := by kernel_rfl
def R12 (r : Bool) : List D := [.bool r]
def N12 (r : Bool) : List Root := []
noncomputable def K12 : S12 → List Item
  | .h1 .. => nav 300 3 [false] [.code b12]
def Z12 : S12 → St
  | .h1 l0 t1 t2 t3 => ⟨sts 46 [(0, sl 3 g46 l0), (8, sl 3 g46 t1), (9, .int .i64 t2), (10, .int .i64 t3)], []⟩
theorem n12 : ∀ s o, B12 s = some o → Nx X 12 0 K12 Z12 R12 N12 (K12 s) (Z12 s) o
  | .h1 l0 t1 t2 t3, o, H =>
    eIf H (fun h1 H =>
      eCk H fun h2 H =>
      eBind H fun x3 hx3 H =>
      eBind H fun r4 hr4 H =>
      eIf H (fun h5 H =>
        eBind H fun r6 hr6 H =>
        eIf H (fun h7 H =>
          eBind H fun r8 hr8 H =>
          eIf H (fun h9 H =>
            eIf H (fun h10 H =>
              eCk H fun h11 H =>
              eBind H fun x12 hx12 H =>
              eBind H fun r13 hr13 H =>
              eIf H (fun h14 H =>
                eRet (P := Nx X 12 0 K12 Z12 R12 N12 (K12 (.h1 l0 t1 t2 t3)) (Z12 (.h1 l0 t1 t2 t3))) H <| runFin_ok T_ok mixed F12 (cmds := [.reg [{ i := 0, dec := some true }],
    .reg [{ i := 2, xs := [.int .i64 x3.Turn, .int .i64 x3.Side, .int .i64 x3.Seal] }],
    .reg [{ i := 1, xs := [.int .i64 x3.Turn] }, { i := 2, call := some { cl := true, ins := [], args := [.int .i64 x3.Turn], res := R31 r4, G' := N31 r4 }, dec := some true }, { i := 6, xs := [.int .i64 x3.Side] }, { i := 7, call := some { cl := true, ins := [], args := [.int .i64 x3.Side], res := R32 r6, G' := N32 r6 }, dec := some true }, { i := 12, xs := [.int .i64 x3.Seal] }, { i := 13, call := some { cl := true, ins := [], args := [.int .i64 x3.Seal], res := R33 r8, G' := N33 r8 }, dec := some true }, { i := 18, dec := some true }, { i := 24, xs := [.int .i64 x12.Turn, .int .i64 x12.Side, .int .i64 x12.Seal] }, { i := 25, xs := [.int .i64 x3.Turn, .int .i64 x3.Side, .int .i64 x3.Seal] }, { i := 26, call := some { cl := true, ins := [], args := [.agg [.int .i64 x12.Turn, .int .i64 x12.Side, .int .i64 x12.Seal], .agg [.int .i64 x3.Turn, .int .i64 x3.Side, .int .i64 x3.Seal]], res := R34 r13, G' := N34 r13 } }, { i := 27, dec := some true }],
    .reg []]) (by kernel_rfl) (P2 ((decide (t3 < t2)) = true) (decide_eq_true h1) <| P2 ((0 : Int) ≤ t3) h2 <| P2 (t3 < (List.length t1 : Int)) (int_lt_of_at (h2) hx3) <| P2 (getCells (List.map g46 t1) (Int.toNat t3) 0 3 = some [.int .i64 x3.Turn, .int .i64 x3.Side, .int .i64 x3.Seal]) (getCells_map hx3 rfl) <| PI (some [.int .i64 x3.Turn] : Option (List D)) <| PI (x3.Turn : Int) <| P1 (c31 hr4) <| P2 (r4 = true) (h5) <| PI (some [.int .i64 x3.Side] : Option (List D)) <| PI (x3.Side : Int) <| P1 (c32 hr6) <| P2 (r6 = true) (h7) <| PI (some [.int .i64 x3.Seal] : Option (List D)) <| PI (x3.Seal : Int) <| P1 (c33 hr8) <| P2 (r8 = true) (h9) <| P2 ((decide (t3 > 0)) = true) (decide_eq_true h10) <| P2 ((0 : Int) ≤ (IntKind.wrap .i64 (t3 - 1))) h11 <| P2 ((IntKind.wrap .i64 (t3 - 1)) < (List.length l0 : Int)) (int_lt_of_at (h11) hx12) <| P2 (getCells (List.map g46 l0) (Int.toNat (IntKind.wrap .i64 (t3 - 1))) 0 3 = some [.int .i64 x12.Turn, .int .i64 x12.Side, .int .i64 x12.Seal]) (getCells_map hx12 rfl) <| PI (some [.int .i64 x3.Turn, .int .i64 x3.Side, .int .i64 x3.Seal] : Option (List D)) <| PI (x12.Turn : Int) <| PI (x12.Side : Int) <| PI (x12.Seal : Int) <| PI (x3.Turn : Int) <| PI (x3.Side : Int) <| PI (x3.Seal : Int) <| P1 (c34 hr13) <| P2 ((decide (r13 ≥ 0)) = true) (decide_eq_true h14) <| PI false <| P0))
              (fun h14 H =>
                eRet (P := Nx X 12 0 K12 Z12 R12 N12 (K12 (.h1 l0 t1 t2 t3)) (Z12 (.h1 l0 t1 t2 t3))) H fun r hn => run_ok T_ok mixed (cmds := [.reg [{ i := 0, dec := some true }],
    .reg [{ i := 2, xs := [.int .i64 x3.Turn, .int .i64 x3.Side, .int .i64 x3.Seal] }],
    .reg [{ i := 1, xs := [.int .i64 x3.Turn] }, { i := 2, call := some { cl := true, ins := [], args := [.int .i64 x3.Turn], res := R31 r4, G' := N31 r4 }, dec := some true }, { i := 6, xs := [.int .i64 x3.Side] }, { i := 7, call := some { cl := true, ins := [], args := [.int .i64 x3.Side], res := R32 r6, G' := N32 r6 }, dec := some true }, { i := 12, xs := [.int .i64 x3.Seal] }, { i := 13, call := some { cl := true, ins := [], args := [.int .i64 x3.Seal], res := R33 r8, G' := N33 r8 }, dec := some true }, { i := 18, dec := some true }, { i := 24, xs := [.int .i64 x12.Turn, .int .i64 x12.Side, .int .i64 x12.Seal] }, { i := 25, xs := [.int .i64 x3.Turn, .int .i64 x3.Side, .int .i64 x3.Seal] }, { i := 26, call := some { cl := true, ins := [], args := [.agg [.int .i64 x12.Turn, .int .i64 x12.Side, .int .i64 x12.Seal], .agg [.int .i64 x3.Turn, .int .i64 x3.Side, .int .i64 x3.Seal]], res := R34 r13, G' := N34 r13 } }, { i := 27, dec := some false }],
    .reg [],
    .canon [] [0, 8, 9, 10]]) (by kernel_rfl) (P2 ((decide (t3 < t2)) = true) (decide_eq_true h1) <| P2 ((0 : Int) ≤ t3) h2 <| P2 (t3 < (List.length t1 : Int)) (int_lt_of_at (h2) hx3) <| P2 (getCells (List.map g46 t1) (Int.toNat t3) 0 3 = some [.int .i64 x3.Turn, .int .i64 x3.Side, .int .i64 x3.Seal]) (getCells_map hx3 rfl) <| PI (some [.int .i64 x3.Turn] : Option (List D)) <| PI (x3.Turn : Int) <| P1 (c31 hr4) <| P2 (r4 = true) (h5) <| PI (some [.int .i64 x3.Side] : Option (List D)) <| PI (x3.Side : Int) <| P1 (c32 hr6) <| P2 (r6 = true) (h7) <| PI (some [.int .i64 x3.Seal] : Option (List D)) <| PI (x3.Seal : Int) <| P1 (c33 hr8) <| P2 (r8 = true) (h9) <| P2 ((decide (t3 > 0)) = true) (decide_eq_true h10) <| P2 ((0 : Int) ≤ (IntKind.wrap .i64 (t3 - 1))) h11 <| P2 ((IntKind.wrap .i64 (t3 - 1)) < (List.length l0 : Int)) (int_lt_of_at (h11) hx12) <| P2 (getCells (List.map g46 l0) (Int.toNat (IntKind.wrap .i64 (t3 - 1))) 0 3 = some [.int .i64 x12.Turn, .int .i64 x12.Side, .int .i64 x12.Seal]) (getCells_map hx12 rfl) <| PI (some [.int .i64 x3.Turn, .int .i64 x3.Side, .int .i64 x3.Seal] : Option (List D)) <| PI (x12.Turn : Int) <| PI (x12.Side : Int) <| PI (x12.Seal : Int) <| PI (x3.Turn : Int) <| PI (x3.Side : Int) <| PI (x3.Seal : Int) <| P1 (c34 hr13) <| P2 ((decide (r13 ≥ 0)) = false) (decide_eq_false h14) <| P0) hn))
            (fun h10 H =>
              eRet (P := Nx X 12 0 K12 Z12 R12 N12 (K12 (.h1 l0 t1 t2 t3)) (Z12 (.h1 l0 t1 t2 t3))) H fun r hn => run_ok T_ok mixed (cmds := [.reg [{ i := 0, dec := some true }],
    .reg [{ i := 2, xs := [.int .i64 x3.Turn, .int .i64 x3.Side, .int .i64 x3.Seal] }],
    .reg [{ i := 1, xs := [.int .i64 x3.Turn] }, { i := 2, call := some { cl := true, ins := [], args := [.int .i64 x3.Turn], res := R31 r4, G' := N31 r4 }, dec := some true }, { i := 6, xs := [.int .i64 x3.Side] }, { i := 7, call := some { cl := true, ins := [], args := [.int .i64 x3.Side], res := R32 r6, G' := N32 r6 }, dec := some true }, { i := 12, xs := [.int .i64 x3.Seal] }, { i := 13, call := some { cl := true, ins := [], args := [.int .i64 x3.Seal], res := R33 r8, G' := N33 r8 }, dec := some true }, { i := 18, dec := some false }],
    .reg [],
    .canon [] [0, 8, 9, 10]]) (by kernel_rfl) (P2 ((decide (t3 < t2)) = true) (decide_eq_true h1) <| P2 ((0 : Int) ≤ t3) h2 <| P2 (t3 < (List.length t1 : Int)) (int_lt_of_at (h2) hx3) <| P2 (getCells (List.map g46 t1) (Int.toNat t3) 0 3 = some [.int .i64 x3.Turn, .int .i64 x3.Side, .int .i64 x3.Seal]) (getCells_map hx3 rfl) <| PI (some [.int .i64 x3.Turn] : Option (List D)) <| PI (x3.Turn : Int) <| P1 (c31 hr4) <| P2 (r4 = true) (h5) <| PI (some [.int .i64 x3.Side] : Option (List D)) <| PI (x3.Side : Int) <| P1 (c32 hr6) <| P2 (r6 = true) (h7) <| PI (some [.int .i64 x3.Seal] : Option (List D)) <| PI (x3.Seal : Int) <| P1 (c33 hr8) <| P2 (r8 = true) (h9) <| P2 ((decide (t3 > 0)) = false) (decide_eq_false h10) <| P0) hn))
          (fun h9 H =>
            eRet (P := Nx X 12 0 K12 Z12 R12 N12 (K12 (.h1 l0 t1 t2 t3)) (Z12 (.h1 l0 t1 t2 t3))) H <| runFin_ok T_ok mixed F12 (cmds := [.reg [{ i := 0, dec := some true }],
    .reg [{ i := 2, xs := [.int .i64 x3.Turn, .int .i64 x3.Side, .int .i64 x3.Seal] }],
    .reg [{ i := 1, xs := [.int .i64 x3.Turn] }, { i := 2, call := some { cl := true, ins := [], args := [.int .i64 x3.Turn], res := R31 r4, G' := N31 r4 }, dec := some true }, { i := 6, xs := [.int .i64 x3.Side] }, { i := 7, call := some { cl := true, ins := [], args := [.int .i64 x3.Side], res := R32 r6, G' := N32 r6 }, dec := some true }, { i := 12, xs := [.int .i64 x3.Seal] }, { i := 13, call := some { cl := true, ins := [], args := [.int .i64 x3.Seal], res := R33 r8, G' := N33 r8 }, dec := some false }],
    .reg []]) (by kernel_rfl) (P2 ((decide (t3 < t2)) = true) (decide_eq_true h1) <| P2 ((0 : Int) ≤ t3) h2 <| P2 (t3 < (List.length t1 : Int)) (int_lt_of_at (h2) hx3) <| P2 (getCells (List.map g46 t1) (Int.toNat t3) 0 3 = some [.int .i64 x3.Turn, .int .i64 x3.Side, .int .i64 x3.Seal]) (getCells_map hx3 rfl) <| PI (some [.int .i64 x3.Turn] : Option (List D)) <| PI (x3.Turn : Int) <| P1 (c31 hr4) <| P2 (r4 = true) (h5) <| PI (some [.int .i64 x3.Side] : Option (List D)) <| PI (x3.Side : Int) <| P1 (c32 hr6) <| P2 (r6 = true) (h7) <| PI (some [.int .i64 x3.Seal] : Option (List D)) <| PI (x3.Seal : Int) <| P1 (c33 hr8) <| P2 (r8 = false) (eqF h9) <| PI false <| P0)))
        (fun h7 H =>
          eRet (P := Nx X 12 0 K12 Z12 R12 N12 (K12 (.h1 l0 t1 t2 t3)) (Z12 (.h1 l0 t1 t2 t3))) H <| runFin_ok T_ok mixed F12 (cmds := [.reg [{ i := 0, dec := some true }],
    .reg [{ i := 2, xs := [.int .i64 x3.Turn, .int .i64 x3.Side, .int .i64 x3.Seal] }],
    .reg [{ i := 1, xs := [.int .i64 x3.Turn] }, { i := 2, call := some { cl := true, ins := [], args := [.int .i64 x3.Turn], res := R31 r4, G' := N31 r4 }, dec := some true }, { i := 6, xs := [.int .i64 x3.Side] }, { i := 7, call := some { cl := true, ins := [], args := [.int .i64 x3.Side], res := R32 r6, G' := N32 r6 }, dec := some false }],
    .reg []]) (by kernel_rfl) (P2 ((decide (t3 < t2)) = true) (decide_eq_true h1) <| P2 ((0 : Int) ≤ t3) h2 <| P2 (t3 < (List.length t1 : Int)) (int_lt_of_at (h2) hx3) <| P2 (getCells (List.map g46 t1) (Int.toNat t3) 0 3 = some [.int .i64 x3.Turn, .int .i64 x3.Side, .int .i64 x3.Seal]) (getCells_map hx3 rfl) <| PI (some [.int .i64 x3.Turn] : Option (List D)) <| PI (x3.Turn : Int) <| P1 (c31 hr4) <| P2 (r4 = true) (h5) <| PI (some [.int .i64 x3.Side] : Option (List D)) <| PI (x3.Side : Int) <| P1 (c32 hr6) <| P2 (r6 = false) (eqF h7) <| PI false <| P0)))
      (fun h5 H =>
        eRet (P := Nx X 12 0 K12 Z12 R12 N12 (K12 (.h1 l0 t1 t2 t3)) (Z12 (.h1 l0 t1 t2 t3))) H <| runFin_ok T_ok mixed F12 (cmds := [.reg [{ i := 0, dec := some true }],
    .reg [{ i := 2, xs := [.int .i64 x3.Turn, .int .i64 x3.Side, .int .i64 x3.Seal] }],
    .reg [{ i := 1, xs := [.int .i64 x3.Turn] }, { i := 2, call := some { cl := true, ins := [], args := [.int .i64 x3.Turn], res := R31 r4, G' := N31 r4 }, dec := some false }],
    .reg []]) (by kernel_rfl) (P2 ((decide (t3 < t2)) = true) (decide_eq_true h1) <| P2 ((0 : Int) ≤ t3) h2 <| P2 (t3 < (List.length t1 : Int)) (int_lt_of_at (h2) hx3) <| P2 (getCells (List.map g46 t1) (Int.toNat t3) 0 3 = some [.int .i64 x3.Turn, .int .i64 x3.Side, .int .i64 x3.Seal]) (getCells_map hx3 rfl) <| PI (some [.int .i64 x3.Turn] : Option (List D)) <| PI (x3.Turn : Int) <| P1 (c31 hr4) <| P2 (r4 = false) (eqF h5) <| PI false <| P0)))
    (fun h1 H =>
      eRet (P := Nx X 12 0 K12 Z12 R12 N12 (K12 (.h1 l0 t1 t2 t3)) (Z12 (.h1 l0 t1 t2 t3))) H <| runFin_ok T_ok mixed F12 (cmds := [.reg [{ i := 0, dec := some false }],
    .reg []]) (by kernel_rfl) (P2 ((decide (t3 < t2)) = false) (decide_eq_false h1) <| PI true <| P0))
theorem w12 : ∀ s r, loop B12 s = some r → Wc X 12 0 (K12 s) (Z12 s) (R12 r) (N12 r) := Nx.all n12
theorem c12 {a0 : (List G46)} {r : Bool} (H : D12 a0 = some r) : Ct X.P X.gl 12 [sl 3 g46 a0] [] (R12 r) (N12 r) :=
  Ct.of F12 (c := b12) (by kernel_rfl) (by kernel_rfl) <|
  eIf H (fun h1 H =>
    eRet (P := fun r => Wc X 12 0 _ _ (R12 r) (N12 r)) H <| runFin_ok T_ok mixed F12 (cmds := [.reg [],
    .reg [{ i := 2, dec := some true }],
    .reg []]) (by kernel_rfl) (P2 ((decide (((List.length a0 : Nat) : Int) > 20)) = true) (decide_eq_true h1) <| PI false <| P0))
  (fun h1 H =>
    run_ok T_ok mixed (cmds := [.reg [],
    .reg [{ i := 2, dec := some false }],
    .reg [],
    .canon [] [0, 8, 9, 10]]) (by kernel_rfl) (P2 ((decide (((List.length a0 : Nat) : Int) > 20)) = false) (decide_eq_false h1) <| P0) (w12 _ _ H))
/-! loop example/g00886/laws eqMail -/
noncomputable def b35 : Code := match Go.Proofs.Try.f35.body with | some c => c | none => .skip
theorem F35 : X.P.funcs[35]? = some Go.Proofs.Try.f35 := by kernel_rfl
def R35 (r : Bool) : List D := [.bool r]
def N35 (r : Bool) : List Root := []
theorem c35 {a0 : G46} {a1 : G46} {r : Bool} (H : D35 a0 a1 = some r) : Ct X.P X.gl 35 [.agg [.int .i64 a0.Turn, .int .i64 a0.Side, .int .i64 a0.Seal], .agg [.int .i64 a1.Turn, .int .i64 a1.Side, .int .i64 a1.Seal]] [] (R35 r) (N35 r) :=
  Ct.of F35 (c := b35) (by kernel_rfl) (by kernel_rfl) <|
  eIf H (fun h1 H =>
    eIf H (fun h2 H =>
      eIf H (fun h3 H =>
        eRet (P := fun r => Wc X 35 0 _ _ (R35 r) (N35 r)) H <| runFin_ok T_ok mixed F35 (cmds := [.reg [],
    .reg [{ i := 1, xs := [.int .i64 a0.Turn] }, { i := 3, xs := [.int .i64 a1.Turn] }, { i := 4, dec := some false }],
    .reg [{ i := 1, xs := [.int .i64 a0.Side] }, { i := 3, xs := [.int .i64 a1.Side] }, { i := 4, dec := some false }],
    .reg [{ i := 1, xs := [.int .i64 a0.Seal] }, { i := 3, xs := [.int .i64 a1.Seal] }, { i := 4, dec := some false }],
    .reg []]) (by kernel_rfl) (PI (some [.int .i64 a0.Turn] : Option (List D)) <| PI (some [.int .i64 a1.Turn] : Option (List D)) <| P2 (((a0.Turn : Int) != a1.Turn) = false) (bneF h1) <| PI (some [.int .i64 a0.Side] : Option (List D)) <| PI (some [.int .i64 a1.Side] : Option (List D)) <| P2 (((a0.Side : Int) != a1.Side) = false) (bneF h2) <| PI (some [.int .i64 a0.Seal] : Option (List D)) <| PI (some [.int .i64 a1.Seal] : Option (List D)) <| P2 (((a0.Seal : Int) != a1.Seal) = false) (bneF h3) <| PI true <| P0))
      (fun h3 H =>
        eRet (P := fun r => Wc X 35 0 _ _ (R35 r) (N35 r)) H <| runFin_ok T_ok mixed F35 (cmds := [.reg [],
    .reg [{ i := 1, xs := [.int .i64 a0.Turn] }, { i := 3, xs := [.int .i64 a1.Turn] }, { i := 4, dec := some false }],
    .reg [{ i := 1, xs := [.int .i64 a0.Side] }, { i := 3, xs := [.int .i64 a1.Side] }, { i := 4, dec := some false }],
    .reg [{ i := 1, xs := [.int .i64 a0.Seal] }, { i := 3, xs := [.int .i64 a1.Seal] }, { i := 4, dec := some true }],
    .reg []]) (by kernel_rfl) (PI (some [.int .i64 a0.Turn] : Option (List D)) <| PI (some [.int .i64 a1.Turn] : Option (List D)) <| P2 (((a0.Turn : Int) != a1.Turn) = false) (bneF h1) <| PI (some [.int .i64 a0.Side] : Option (List D)) <| PI (some [.int .i64 a1.Side] : Option (List D)) <| P2 (((a0.Side : Int) != a1.Side) = false) (bneF h2) <| PI (some [.int .i64 a0.Seal] : Option (List D)) <| PI (some [.int .i64 a1.Seal] : Option (List D)) <| P2 (((a0.Seal : Int) != a1.Seal) = true) (bneT h3) <| PI false <| P0)))
    (fun h2 H =>
      eRet (P := fun r => Wc X 35 0 _ _ (R35 r) (N35 r)) H <| runFin_ok T_ok mixed F35 (cmds := [.reg [],
    .reg [{ i := 1, xs := [.int .i64 a0.Turn] }, { i := 3, xs := [.int .i64 a1.Turn] }, { i := 4, dec := some false }],
    .reg [{ i := 1, xs := [.int .i64 a0.Side] }, { i := 3, xs := [.int .i64 a1.Side] }, { i := 4, dec := some true }],
    .reg []]) (by kernel_rfl) (PI (some [.int .i64 a0.Turn] : Option (List D)) <| PI (some [.int .i64 a1.Turn] : Option (List D)) <| P2 (((a0.Turn : Int) != a1.Turn) = false) (bneF h1) <| PI (some [.int .i64 a0.Side] : Option (List D)) <| PI (some [.int .i64 a1.Side] : Option (List D)) <| P2 (((a0.Side : Int) != a1.Side) = true) (bneT h2) <| PI false <| P0)))
  (fun h1 H =>
    eRet (P := fun r => Wc X 35 0 _ _ (R35 r) (N35 r)) H <| runFin_ok T_ok mixed F35 (cmds := [.reg [],
    .reg [{ i := 1, xs := [.int .i64 a0.Turn] }, { i := 3, xs := [.int .i64 a1.Turn] }, { i := 4, dec := some true }],
    .reg []]) (by kernel_rfl) (PI (some [.int .i64 a0.Turn] : Option (List D)) <| PI (some [.int .i64 a1.Turn] : Option (List D)) <| P2 (((a0.Turn : Int) != a1.Turn) = true) (bneT h1) <| PI false <| P0))
/-! loop example/g00886/laws eqMailS -/
noncomputable def b13 : Code := match Go.Proofs.Try.f13.body with | some c => c | none => .skip
theorem F13 : X.P.funcs[13]? = some Go.Proofs.Try.f13 := by kernel_rfl
def R13 (r : Bool) : List D := [.bool r]
def N13 (r : Bool) : List Root := []
noncomputable def K13 : S13 → List Item
  | .h1 .. => nav 300 3 [false] [.code b13]
def Z13 : S13 → St
  | .h1 va0 b1 i2 => ⟨sts 27 [(0, sl 3 g46 va0), (1, sl 3 g46 b1), (5, .int .i64 i2)], []⟩
theorem n13 : ∀ s o, B13 s = some o → Nx X 13 0 K13 Z13 R13 N13 (K13 s) (Z13 s) o
  | .h1 va0 b1 i2, o, H =>
    eIf H (fun h1 H =>
      eCk H fun h2 H =>
      eBind H fun x3 hx3 H =>
      eCk H fun h4 H =>
      eBind H fun x5 hx5 H =>
      eBind H fun r6 hr6 H =>
      eIf H (fun h7 H =>
        eRet (P := Nx X 13 0 K13 Z13 R13 N13 (K13 (.h1 va0 b1 i2)) (Z13 (.h1 va0 b1 i2))) H fun r hn => run_ok T_ok mixed (cmds := [.reg [{ i := 3, dec := some true }],
    .reg [{ i := 3, xs := [.int .i64 x3.Turn, .int .i64 x3.Side, .int .i64 x3.Seal] }, { i := 7, xs := [.int .i64 x5.Turn, .int .i64 x5.Side, .int .i64 x5.Seal] }, { i := 8, call := some { cl := true, ins := [], args := [.agg [.int .i64 x3.Turn, .int .i64 x3.Side, .int .i64 x3.Seal], .agg [.int .i64 x5.Turn, .int .i64 x5.Side, .int .i64 x5.Seal]], res := R35 r6, G' := N35 r6 }, dec := some true }],
    .reg [],
    .canon [] [0, 1, 5]]) (by kernel_rfl) (P2 ((decide (i2 < ((List.length va0 : Nat) : Int))) = true) (decide_eq_true h1) <| P2 ((0 : Int) ≤ i2) h2 <| P2 (i2 < (List.length va0 : Int)) (int_lt_of_at (h2) hx3) <| P2 (getCells (List.map g46 va0) (Int.toNat i2) 0 3 = some [.int .i64 x3.Turn, .int .i64 x3.Side, .int .i64 x3.Seal]) (getCells_map hx3 rfl) <| P2 ((0 : Int) ≤ i2) h4 <| P2 (i2 < (List.length b1 : Int)) (int_lt_of_at (h4) hx5) <| P2 (getCells (List.map g46 b1) (Int.toNat i2) 0 3 = some [.int .i64 x5.Turn, .int .i64 x5.Side, .int .i64 x5.Seal]) (getCells_map hx5 rfl) <| PI (x3.Turn : Int) <| PI (x3.Side : Int) <| PI (x3.Seal : Int) <| PI (x5.Turn : Int) <| PI (x5.Side : Int) <| PI (x5.Seal : Int) <| P1 (c35 hr6) <| P2 (r6 = true) (h7) <| P0) hn)
      (fun h7 H =>
        eRet (P := Nx X 13 0 K13 Z13 R13 N13 (K13 (.h1 va0 b1 i2)) (Z13 (.h1 va0 b1 i2))) H <| runFin_ok T_ok mixed F13 (cmds := [.reg [{ i := 3, dec := some true }],
    .reg [{ i := 3, xs := [.int .i64 x3.Turn, .int .i64 x3.Side, .int .i64 x3.Seal] }, { i := 7, xs := [.int .i64 x5.Turn, .int .i64 x5.Side, .int .i64 x5.Seal] }, { i := 8, call := some { cl := true, ins := [], args := [.agg [.int .i64 x3.Turn, .int .i64 x3.Side, .int .i64 x3.Seal], .agg [.int .i64 x5.Turn, .int .i64 x5.Side, .int .i64 x5.Seal]], res := R35 r6, G' := N35 r6 }, dec := some false }],
    .reg []]) (by kernel_rfl) (P2 ((decide (i2 < ((List.length va0 : Nat) : Int))) = true) (decide_eq_true h1) <| P2 ((0 : Int) ≤ i2) h2 <| P2 (i2 < (List.length va0 : Int)) (int_lt_of_at (h2) hx3) <| P2 (getCells (List.map g46 va0) (Int.toNat i2) 0 3 = some [.int .i64 x3.Turn, .int .i64 x3.Side, .int .i64 x3.Seal]) (getCells_map hx3 rfl) <| P2 ((0 : Int) ≤ i2) h4 <| P2 (i2 < (List.length b1 : Int)) (int_lt_of_at (h4) hx5) <| P2 (getCells (List.map g46 b1) (Int.toNat i2) 0 3 = some [.int .i64 x5.Turn, .int .i64 x5.Side, .int .i64 x5.Seal]) (getCells_map hx5 rfl) <| PI (x3.Turn : Int) <| PI (x3.Side : Int) <| PI (x3.Seal : Int) <| PI (x5.Turn : Int) <| PI (x5.Side : Int) <| PI (x5.Seal : Int) <| P1 (c35 hr6) <| P2 (r6 = false) (eqF h7) <| PI false <| P0)))
    (fun h1 H =>
      eRet (P := Nx X 13 0 K13 Z13 R13 N13 (K13 (.h1 va0 b1 i2)) (Z13 (.h1 va0 b1 i2))) H <| runFin_ok T_ok mixed F13 (cmds := [.reg [{ i := 3, dec := some false }],
    .reg []]) (by kernel_rfl) (P2 ((decide (i2 < ((List.length va0 : Nat) : Int))) = false) (decide_eq_false h1) <| PI true <| P0))
theorem w13 : ∀ s r, loop B13 s = some r → Wc X 13 0 (K13 s) (Z13 s) (R13 r) (N13 r) := Nx.all n13
theorem c13 {a0 : (List G46)} {a1 : (List G46)} {r : Bool} (H : D13 a0 a1 = some r) : Ct X.P X.gl 13 [sl 3 g46 a0, sl 3 g46 a1] [] (R13 r) (N13 r) :=
  Ct.of F13 (c := b13) (by kernel_rfl) (by kernel_rfl) <|
  eIf H (fun h1 H =>
    run_ok T_ok mixed (cmds := [.reg [],
    .reg [{ i := 4, dec := some false }],
    .reg [],
    .canon [] [0, 1, 5]]) (by kernel_rfl) (P2 (((((List.length a0 : Nat) : Int) : Int) != ((List.length a1 : Nat) : Int)) = false) (bneF h1) <| P0) (w13 _ _ H))
  (fun h1 H =>
    eRet (P := fun r => Wc X 13 0 _ _ (R13 r) (N13 r)) H <| runFin_ok T_ok mixed F13 (cmds := [.reg [],
    .reg [{ i := 4, dec := some true }],
    .reg []]) (by kernel_rfl) (P2 (((((List.length a0 : Nat) : Int) : Int) != ((List.length a1 : Nat) : Int)) = true) (bneT h1) <| PI false <| P0))
/-! loop example/g00886/laws FnExactIsMailbox -/
noncomputable def b3 : Code := match Go.Proofs.Try.f3.body with | some c => c | none => .skip
theorem F3 : X.P.funcs[3]? = some Go.Proofs.Try.f3 := by kernel_rfl
def R3 (r : Bool) : List D := [.bool r]
def N3 (r : Bool) : List Root := []
theorem c3 {a0 : (List G48)} {r : Bool} (H : D3 a0 = some r) : Ct X.P X.gl 3 [sl 3 g48 a0] [] (R3 r) (N3 r) :=
  Ct.of F3 (c := b3) (by kernel_rfl) (by kernel_rfl) <|
  eBind H fun r1 hr1 H =>
  eIf H (fun h2 H =>
    eRet (P := fun r => Wc X 3 0 _ _ (R3 r) (N3 r)) H <| runFin_ok T_ok mixed F3 (cmds := [.reg [],
    .reg [],
    .reg [{ i := 2, call := some { cl := true, ins := [], args := [sl 3 g48 a0, .int .i64 1048576], res := R9 r1, G' := N9 r1 } }],
    .reg [{ i := 1, dec := some true }],
    .reg []]) (by kernel_rfl) (PL g48 a0 <| PI (1048576 : Int) <| P1 (c9 hr1) <| P2 ((decide (r1 < 0)) = true) (decide_eq_true h2) <| PI true <| P0))
  (fun h2 H =>
    eBind H fun r3 hr3 H =>
    eBind H fun r4 hr4 H =>
    eBind H fun r5 hr5 H =>
    eBind H fun r6 hr6 H =>
    eIf H (fun h7 H =>
      eRet (P := fun r => Wc X 3 0 _ _ (R3 r) (N3 r)) H <| runFin_ok T_ok mixed F3 (cmds := [.reg [],
    .reg [],
    .reg [{ i := 2, call := some { cl := true, ins := [], args := [sl 3 g48 a0, .int .i64 1048576], res := R9 r1, G' := N9 r1 } }],
    .reg [{ i := 1, dec := some false }],
    .reg [{ i := 1, call := some { cl := true, ins := [], args := [sl 3 g48 a0], res := R11 r3, G' := N11 r3 } }, { i := 2, call := some { cl := false, ins := [], args := [sl 3 g46 r3], res := R10 r4, G' := N10 r4 } }],
    .reg [{ i := 1, call := some { cl := true, ins := [], args := [sl 3 g48 a0], res := R11 r5, G' := N11 r5 } }],
    .reg [{ i := 1, call := some { cl := false, ins := [], args := [sl 3 g46 r5], res := R12 r6, G' := N12 r6 } }],
    .reg [{ i := 2, dec := some true }],
    .reg []]) (by kernel_rfl) (PL g48 a0 <| PI (1048576 : Int) <| P1 (c9 hr1) <| P2 ((decide (r1 < 0)) = false) (decide_eq_false h2) <| PL g48 a0 <| P1 (c11 hr3) <| PL g46 r3 <| P1 (c10 hr4) <| PL g48 a0 <| P1 (c11 hr5) <| PL g46 r5 <| P1 (c12 hr6) <| P2 ((!(r6 == r4)) = true) (h7) <| PI false <| P0))
    (fun h7 H =>
      eBind H fun r8 hr8 H =>
      eBind H fun r9 hr9 H =>
      eIf H (fun h10 H =>
        eRet (P := fun r => Wc X 3 0 _ _ (R3 r) (N3 r)) H <| runFin_ok T_ok mixed F3 (cmds := [.reg [],
    .reg [],
    .reg [{ i := 2, call := some { cl := true, ins := [], args := [sl 3 g48 a0, .int .i64 1048576], res := R9 r1, G' := N9 r1 } }],
    .reg [{ i := 1, dec := some false }],
    .reg [{ i := 1, call := some { cl := true, ins := [], args := [sl 3 g48 a0], res := R11 r3, G' := N11 r3 } }, { i := 2, call := some { cl := false, ins := [], args := [sl 3 g46 r3], res := R10 r4, G' := N10 r4 } }],
    .reg [{ i := 1, call := some { cl := true, ins := [], args := [sl 3 g48 a0], res := R11 r5, G' := N11 r5 } }],
    .reg [{ i := 1, call := some { cl := false, ins := [], args := [sl 3 g46 r5], res := R12 r6, G' := N12 r6 } }],
    .reg [{ i := 2, dec := some false }],
    .reg [{ i := 2, call := some { cl := true, ins := [], args := [sl 3 g48 a0], res := R11 r8, G' := N11 r8 } }, { i := 3, call := some { cl := false, ins := [], args := [sl 3 g46 r5, sl 3 g46 r8], res := R13 r9, G' := N13 r9 }, dec := some true }],
    .reg []]) (by kernel_rfl) (PL g48 a0 <| PI (1048576 : Int) <| P1 (c9 hr1) <| P2 ((decide (r1 < 0)) = false) (decide_eq_false h2) <| PL g48 a0 <| P1 (c11 hr3) <| PL g46 r3 <| P1 (c10 hr4) <| PL g48 a0 <| P1 (c11 hr5) <| PL g46 r5 <| P1 (c12 hr6) <| P2 ((!(r6 == r4)) = false) (eqF h7) <| PL g48 a0 <| P1 (c11 hr8) <| PL g46 r5 <| PL g46 r8 <| P1 (c13 hr9) <| P2 (r9 = true) (h10) <| PI true <| P0))
      (fun h10 H =>
        eRet (P := fun r => Wc X 3 0 _ _ (R3 r) (N3 r)) H <| runFin_ok T_ok mixed F3 (cmds := [.reg [],
    .reg [],
    .reg [{ i := 2, call := some { cl := true, ins := [], args := [sl 3 g48 a0, .int .i64 1048576], res := R9 r1, G' := N9 r1 } }],
    .reg [{ i := 1, dec := some false }],
    .reg [{ i := 1, call := some { cl := true, ins := [], args := [sl 3 g48 a0], res := R11 r3, G' := N11 r3 } }, { i := 2, call := some { cl := false, ins := [], args := [sl 3 g46 r3], res := R10 r4, G' := N10 r4 } }],
    .reg [{ i := 1, call := some { cl := true, ins := [], args := [sl 3 g48 a0], res := R11 r5, G' := N11 r5 } }],
    .reg [{ i := 1, call := some { cl := false, ins := [], args := [sl 3 g46 r5], res := R12 r6, G' := N12 r6 } }],
    .reg [{ i := 2, dec := some false }],
    .reg [{ i := 2, call := some { cl := true, ins := [], args := [sl 3 g48 a0], res := R11 r8, G' := N11 r8 } }, { i := 3, call := some { cl := false, ins := [], args := [sl 3 g46 r5, sl 3 g46 r8], res := R13 r9, G' := N13 r9 }, dec := some false }],
    .reg []]) (by kernel_rfl) (PL g48 a0 <| PI (1048576 : Int) <| P1 (c9 hr1) <| P2 ((decide (r1 < 0)) = false) (decide_eq_false h2) <| PL g48 a0 <| P1 (c11 hr3) <| PL g46 r3 <| P1 (c10 hr4) <| PL g48 a0 <| P1 (c11 hr5) <| PL g46 r5 <| P1 (c12 hr6) <| P2 ((!(r6 == r4)) = false) (eqF h7) <| PL g48 a0 <| P1 (c11 hr8) <| PL g46 r5 <| PL g46 r8 <| P1 (c13 hr9) <| P2 (r9 = false) (eqF h10) <| PI false <| P0))))
/-! loop example/g00886/laws szNodeS -/
noncomputable def b14 : Code := match Go.Proofs.Try.f14.body with | some c => c | none => .skip
theorem F14 : X.P.funcs[14]? = some Go.Proofs.Try.f14 := by kernel_rfl
def R14 (r : Int) : List D := [.int .i64 r]
def N14 (r : Int) : List Root := []
theorem c14 {a0 : (List G55)} {a1 : Int} {r : Int} (H : D14 a0 a1 = some r) : Ct X.P X.gl 14 [sl 3 g55 a0, .int .i64 a1] [] (R14 r) (N14 r) :=
  Ct.of F14 (c := b14) (by kernel_rfl) (by kernel_rfl) <|
  eIf H (fun h1 H =>
    eRet (P := fun r => Wc X 14 0 _ _ (R14 r) (N14 r)) H <| runFin_ok T_ok mixed F14 (cmds := [.reg [],
    .reg [],
    .reg [{ i := 1, dec := some true }],
    .reg []]) (by kernel_rfl) (P2 ((decide ((IntKind.wrap .i64 (a1 - ((List.length a0 : Nat) : Int))) < 0)) = true) (decide_eq_true h1) <| PI ((-1) : Int) <| P0))
  (fun h1 H =>
    eRet (P := fun r => Wc X 14 0 _ _ (R14 r) (N14 r)) H <| runFin_ok T_ok mixed F14 (cmds := [.reg [],
    .reg [],
    .reg [{ i := 1, dec := some false }],
    .reg []]) (by kernel_rfl) (P2 ((decide ((IntKind.wrap .i64 (a1 - ((List.length a0 : Nat) : Int))) < 0)) = false) (decide_eq_false h1) <| PI (IntKind.wrap .i64 (a1 - ((List.length a0 : Nat) : Int)) : Int) <| P0))
/-! loop example/g00886/laws toNode -/
noncomputable def b37 : Code := match Go.Proofs.Try.f37.body with | some c => c | none => .skip
theorem F37 : X.P.funcs[37]? = some Go.Proofs.Try.f37 := by kernel_rfl
def R37 (r : G53) : List D := [.agg [.int .i64 r.Parent, .int .i64 r.Turn, .int .i64 r.Hash]]
def N37 (r : G53) : List Root := []
theorem c37 {a0 : G55} {r : G53} (H : D37 a0 = some r) : Ct X.P X.gl 37 [.agg [.int .i64 a0.Parent, .int .i64 a0.Turn, .int .i64 a0.Hash]] [] (R37 r) (N37 r) :=
  Ct.of F37 (c := b37) (by kernel_rfl) (by kernel_rfl) <|
  eRet (P := fun r => Wc X 37 0 _ _ (R37 r) (N37 r)) H <| runFin_ok T_ok mixed F37 (cmds := [.reg [],
    .reg [],
    .reg [{ i := 1, xs := [.int .i64 a0.Parent] }],
    .reg [{ i := 1, xs := [.int .i64 a0.Turn] }],
    .reg [{ i := 1, xs := [.int .i64 a0.Hash] }],
    .reg [{ i := 0, xs := [.int .i64 a0.Parent, .int .i64 a0.Turn, .int .i64 a0.Hash] }]]) (by kernel_rfl) (PI (some [.int .i64 a0.Parent] : Option (List D)) <| PI (some [.int .i64 a0.Turn] : Option (List D)) <| PI (some [.int .i64 a0.Hash] : Option (List D)) <| PI (some [.int .i64 a0.Parent, .int .i64 a0.Turn, .int .i64 a0.Hash] : Option (List D)) <| PI (a0.Parent : Int) <| PI (a0.Turn : Int) <| PI (a0.Hash : Int) <| P0)
/-! loop example/g00886/laws toNodeS -/
noncomputable def b16 : Code := match Go.Proofs.Try.f16.body with | some c => c | none => .skip
theorem F16 : X.P.funcs[16]? = some Go.Proofs.Try.f16 := by kernel_rfl
def R16 (r : (List G53)) : List D := [ow 3 g53 r]
def N16 (r : (List G53)) : List Root := []
noncomputable def K16 : S16 → List Item
  | .h1 .. => nav 300 3 [] [.code b16]
def Z16 : S16 → St
  | .h1 va0 i1 l2 => ⟨sts 23 [(0, sl 3 g55 va0), (3, .ref 0 3 none), (4, .int .i64 i1)], [some ⟨false, false, 3, List.length l2, List.map g53 l2⟩]⟩
theorem n16 : ∀ s o, B16 s = some o → Nx X 16 0 K16 Z16 R16 N16 (K16 s) (Z16 s) o
  | .h1 va0 i1 l2, o, H =>
    eIf H (fun h1 H =>
      eCk H fun h2 H =>
      eBind H fun x3 hx3 H =>
      eBind H fun r4 hr4 H =>
      eCk H fun h5 H =>
      eBind H fun x6 hx6 H =>
      eRet (P := Nx X 16 0 K16 Z16 R16 N16 (K16 (.h1 va0 i1 l2)) (Z16 (.h1 va0 i1 l2))) H fun r hn => run_ok T_ok mixed (cmds := [.reg [{ i := 3, dec := some true }],
    .reg [{ i := 5, xs := [.int .i64 x3.Parent, .int .i64 x3.Turn, .int .i64 x3.Hash] }, { i := 6, call := some { cl := true, ins := [], args := [.agg [.int .i64 x3.Parent, .int .i64 x3.Turn, .int .i64 x3.Hash]], res := R37 r4, G' := N37 r4 } }, { i := 8, xs := List.map g53 (List.set l2 (Int.toNat i1) r4), n := List.length (List.set l2 (Int.toNat i1) r4) }],
    .reg [],
    .canon [0] [0, 3, 4]]) (by kernel_rfl) (P2 ((decide (i1 < ((List.length va0 : Nat) : Int))) = true) (decide_eq_true h1) <| P2 ((0 : Int) ≤ i1) h2 <| P2 (i1 < (List.length va0 : Int)) (int_lt_of_at (h2) hx3) <| P2 (getCells (List.map g55 va0) (Int.toNat i1) 0 3 = some [.int .i64 x3.Parent, .int .i64 x3.Turn, .int .i64 x3.Hash]) (getCells_map hx3 rfl) <| PI (x3.Parent : Int) <| PI (x3.Turn : Int) <| PI (x3.Hash : Int) <| P1 (c37 hr4) <| P2 ((0 : Int) ≤ i1) h5 <| P2 (i1 < (List.length l2 : Int)) (int_lt_of_at (h5) hx6) <| P1 (lt_of_at hx6) <| P2 (setCells (List.map g53 l2) (Int.toNat i1) 0 [.int .i64 r4.Parent, .int .i64 r4.Turn, .int .i64 r4.Hash] = List.map g53 (List.set l2 (Int.toNat i1) r4)) (setCells_map hx6 rfl) <| P2 (List.length l2 = List.length (List.set l2 (Int.toNat i1) r4)) (by simp) <| P0) hn)
    (fun h1 H =>
      eRet (P := Nx X 16 0 K16 Z16 R16 N16 (K16 (.h1 va0 i1 l2)) (Z16 (.h1 va0 i1 l2))) H <| runFin_ok T_ok mixed F16 (cmds := [.reg [{ i := 3, dec := some false }],
    .reg []]) (by kernel_rfl) (P2 ((decide (i1 < ((List.length va0 : Nat) : Int))) = false) (decide_eq_false h1) <| PR g53 l2 <| P0))
theorem w16 : ∀ s r, loop B16 s = some r → Wc X 16 0 (K16 s) (Z16 s) (R16 r) (N16 r) := Nx.all n16
theorem c16 {a0 : (List G55)} {r : (List G53)} (H : D16 a0 = some r) : Ct X.P X.gl 16 [sl 3 g55 a0] [] (R16 r) (N16 r) :=
  Ct.of F16 (c := b16) (by kernel_rfl) (by kernel_rfl) <|
  eCk H fun h1 H =>
  eCk H fun h2 H =>
  run_ok T_ok mixed (cmds := [.reg [],
    .reg [{ i := 2, n := List.length (List.replicate (Int.toNat ((List.length a0 : Nat) : Int)) (G53.mk 0 0 0)), xs := List.map g53 (List.replicate (Int.toNat ((List.length a0 : Nat) : Int)) (G53.mk 0 0 0)) }],
    .reg [],
    .canon [0] [0, 3, 4]]) (by kernel_rfl) (PI (((List.length a0 : Nat) : Int) : Int) <| P2 ((0 : Int) ≤ ((List.length a0 : Nat) : Int)) h1 <| P2 (Int.toNat ((List.length a0 : Nat) : Int) * 24 ≤ 140737488355328) h2 <| P2 (List.length (List.replicate (Int.toNat ((List.length a0 : Nat) : Int)) (G53.mk 0 0 0)) = Int.toNat ((List.length a0 : Nat) : Int)) (by simp) <| P2 (List.replicate (Int.toNat ((List.length a0 : Nat) : Int)) (.agg [.int .i64 0, .int .i64 0, .int .i64 0]) = List.map g53 (List.replicate (Int.toNat ((List.length a0 : Nat) : Int)) (G53.mk 0 0 0))) (by rw [List.map_replicate]; rfl) <| P0) (w16 _ _ H)
/-! loop example/g00886/spec nChild -/
noncomputable def b53 : Code := match Go.Proofs.Try.f53.body with | some c => c | none => .skip
theorem F53 : X.P.funcs[53]? = some Go.Proofs.Try.f53 := by kernel_rfl
def R53 (r : Int) : List D := [.int .i64 r]
def N53 (r : Int) : List Root := []
noncomputable def K53 : S53 → List Item
  | .h1 .. => nav 300 2 [] [.code b53]
def Z53 : S53 → St
  | .h1 parent0 vhash1 t2 t3 t4 => ⟨sts 28 [(1, .int .i64 parent0), (2, .int .i64 vhash1), (9, sl 3 g53 t2), (10, .int .i64 t3), (11, .int .i64 t4)], []⟩
theorem n53 : ∀ s o, B53 s = some o → Nx X 53 0 K53 Z53 R53 N53 (K53 s) (Z53 s) o
  | .h1 parent0 vhash1 t2 t3 t4, o, H =>
    eIf H (fun h1 H =>
      eCk H fun h2 H =>
      eBind H fun x3 hx3 H =>
      eIf H (fun h4 H =>
        eIf H (fun h5 H =>
          eRet (P := Nx X 53 0 K53 Z53 R53 N53 (K53 (.h1 parent0 vhash1 t2 t3 t4)) (Z53 (.h1 parent0 vhash1 t2 t3 t4))) H <| runFin_ok T_ok mixed F53 (cmds := [.reg [{ i := 0, dec := some true }],
    .reg [{ i := 2, xs := [.int .i64 x3.Parent, .int .i64 x3.Turn, .int .i64 x3.Hash] }],
    .reg [{ i := 1, xs := [.int .i64 x3.Parent] }, { i := 3, dec := some true }, { i := 6, xs := [.int .i64 x3.Hash] }, { i := 8, dec := some true }],
    .reg []]) (by kernel_rfl) (P2 ((decide (t4 < t3)) = true) (decide_eq_true h1) <| P2 ((0 : Int) ≤ t4) h2 <| P2 (t4 < (List.length t2 : Int)) (int_lt_of_at (h2) hx3) <| P2 (getCells (List.map g53 t2) (Int.toNat t4) 0 3 = some [.int .i64 x3.Parent, .int .i64 x3.Turn, .int .i64 x3.Hash]) (getCells_map hx3 rfl) <| PI (some [.int .i64 x3.Parent] : Option (List D)) <| P2 (((x3.Parent : Int) == parent0) = true) (beqT h4) <| PI (some [.int .i64 x3.Hash] : Option (List D)) <| P2 (((x3.Hash : Int) == vhash1) = true) (beqT h5) <| PI (t4 : Int) <| P0))
        (fun h5 H =>
          eRet (P := Nx X 53 0 K53 Z53 R53 N53 (K53 (.h1 parent0 vhash1 t2 t3 t4)) (Z53 (.h1 parent0 vhash1 t2 t3 t4))) H fun r hn => run_ok T_ok mixed (cmds := [.reg [{ i := 0, dec := some true }],
    .reg [{ i := 2, xs := [.int .i64 x3.Parent, .int .i64 x3.Turn, .int .i64 x3.Hash] }],
    .reg [{ i := 1, xs := [.int .i64 x3.Parent] }, { i := 3, dec := some true }, { i := 6, xs := [.int .i64 x3.Hash] }, { i := 8, dec := some false }],
    .reg [],
    .canon [] [1, 2, 9, 10, 11]]) (by kernel_rfl) (P2 ((decide (t4 < t3)) = true) (decide_eq_true h1) <| P2 ((0 : Int) ≤ t4) h2 <| P2 (t4 < (List.length t2 : Int)) (int_lt_of_at (h2) hx3) <| P2 (getCells (List.map g53 t2) (Int.toNat t4) 0 3 = some [.int .i64 x3.Parent, .int .i64 x3.Turn, .int .i64 x3.Hash]) (getCells_map hx3 rfl) <| PI (some [.int .i64 x3.Parent] : Option (List D)) <| P2 (((x3.Parent : Int) == parent0) = true) (beqT h4) <| PI (some [.int .i64 x3.Hash] : Option (List D)) <| P2 (((x3.Hash : Int) == vhash1) = false) (beqF h5) <| P0) hn))
      (fun h4 H =>
        eRet (P := Nx X 53 0 K53 Z53 R53 N53 (K53 (.h1 parent0 vhash1 t2 t3 t4)) (Z53 (.h1 parent0 vhash1 t2 t3 t4))) H fun r hn => run_ok T_ok mixed (cmds := [.reg [{ i := 0, dec := some true }],
    .reg [{ i := 2, xs := [.int .i64 x3.Parent, .int .i64 x3.Turn, .int .i64 x3.Hash] }],
    .reg [{ i := 1, xs := [.int .i64 x3.Parent] }, { i := 3, dec := some false }],
    .reg [],
    .canon [] [1, 2, 9, 10, 11]]) (by kernel_rfl) (P2 ((decide (t4 < t3)) = true) (decide_eq_true h1) <| P2 ((0 : Int) ≤ t4) h2 <| P2 (t4 < (List.length t2 : Int)) (int_lt_of_at (h2) hx3) <| P2 (getCells (List.map g53 t2) (Int.toNat t4) 0 3 = some [.int .i64 x3.Parent, .int .i64 x3.Turn, .int .i64 x3.Hash]) (getCells_map hx3 rfl) <| PI (some [.int .i64 x3.Parent] : Option (List D)) <| P2 (((x3.Parent : Int) == parent0) = false) (beqF h4) <| P0) hn))
    (fun h1 H =>
      eRet (P := Nx X 53 0 K53 Z53 R53 N53 (K53 (.h1 parent0 vhash1 t2 t3 t4)) (Z53 (.h1 parent0 vhash1 t2 t3 t4))) H <| runFin_ok T_ok mixed F53 (cmds := [.reg [{ i := 0, dec := some false }],
    .reg []]) (by kernel_rfl) (P2 ((decide (t4 < t3)) = false) (decide_eq_false h1) <| PI ((-1) : Int) <| P0))
theorem w53 : ∀ s r, loop B53 s = some r → Wc X 53 0 (K53 s) (Z53 s) (R53 r) (N53 r) := Nx.all n53
theorem c53 {a0 : (List G53)} {a1 : Int} {a2 : Int} {r : Int} (H : D53 a0 a1 a2 = some r) : Ct X.P X.gl 53 [sl 3 g53 a0, .int .i64 a1, .int .i64 a2] [] (R53 r) (N53 r) :=
  Ct.of F53 (c := b53) (by kernel_rfl) (by kernel_rfl) <|
  run_ok T_ok mixed (cmds := [.reg [],
    .reg [],
    .canon [] [1, 2, 9, 10, 11]]) (by kernel_rfl) (P0) (w53 _ _ H)
/-! loop example/g00886/spec nGood -/
noncomputable def b36 : Code := match Go.Proofs.Try.f36.body with | some c => c | none => .skip
theorem F36 : X.P.funcs[36]? = some Go.Proofs.Try.f36 := by kernel_rfl
def R36 (r : Bool) : List D := [.bool r]
def N36 (r : Bool) : List Root := []
noncomputable def K36 : S36 → List Item
  | .h1 .. => nav 300 3 [false] [.code b36]
def Z36 : S36 → St
  | .h1 i0 t1 t2 t3 => ⟨sts 65 [(0, sl 3 g53 i0), (9, sl 3 g53 t1), (10, .int .i64 t2), (11, .int .i64 t3)], []⟩
theorem n36 : ∀ s o, B36 s = some o → Nx X 36 0 K36 Z36 R36 N36 (K36 s) (Z36 s) o
  | .h1 i0 t1 t2 t3, o, H =>
    eIf H (fun h1 H =>
      eCk H fun h2 H =>
      eBind H fun x3 hx3 H =>
      eBind H fun r4 hr4 H =>
      eIf H (fun h5 H =>
        eIf H (fun h6 H =>
          eIf H (fun h7 H =>
            eIf H (fun h8 H =>
              eRet (P := Nx X 36 0 K36 Z36 R36 N36 (K36 (.h1 i0 t1 t2 t3)) (Z36 (.h1 i0 t1 t2 t3))) H fun r hn => run_ok T_ok mixed (cmds := [.reg [{ i := 0, dec := some true }],
    .reg [{ i := 2, xs := [.int .i64 x3.Parent, .int .i64 x3.Turn, .int .i64 x3.Hash] }],
    .reg [{ i := 1, xs := [.int .i64 x3.Hash] }, { i := 2, call := some { cl := true, ins := [], args := [.int .i64 x3.Hash], res := R48 r4, G' := N48 r4 }, dec := some true }],
    .reg [{ i := 1, dec := some true }],
    .reg [{ i := 1, xs := [.int .i64 x3.Parent] }, { i := 2, dec := some false }, { i := 5, xs := [.int .i64 x3.Turn] }, { i := 6, dec := some false }],
    .reg [],
    .canon [] [0, 9, 10, 11]]) (by kernel_rfl) (P2 ((decide (t3 < t2)) = true) (decide_eq_true h1) <| P2 ((0 : Int) ≤ t3) h2 <| P2 (t3 < (List.length t1 : Int)) (int_lt_of_at (h2) hx3) <| P2 (getCells (List.map g53 t1) (Int.toNat t3) 0 3 = some [.int .i64 x3.Parent, .int .i64 x3.Turn, .int .i64 x3.Hash]) (getCells_map hx3 rfl) <| PI (some [.int .i64 x3.Hash] : Option (List D)) <| PI (x3.Hash : Int) <| P1 (c48 hr4) <| P2 (r4 = true) (h5) <| P2 (((t3 : Int) == 0) = true) (beqT h6) <| PI (some [.int .i64 x3.Parent] : Option (List D)) <| P2 (((x3.Parent : Int) != (-1)) = false) (bneF h7) <| PI (some [.int .i64 x3.Turn] : Option (List D)) <| P2 (((x3.Turn : Int) != 0) = false) (bneF h8) <| P0) hn)
            (fun h8 H =>
              eRet (P := Nx X 36 0 K36 Z36 R36 N36 (K36 (.h1 i0 t1 t2 t3)) (Z36 (.h1 i0 t1 t2 t3))) H <| runFin_ok T_ok mixed F36 (cmds := [.reg [{ i := 0, dec := some true }],
    .reg [{ i := 2, xs := [.int .i64 x3.Parent, .int .i64 x3.Turn, .int .i64 x3.Hash] }],
    .reg [{ i := 1, xs := [.int .i64 x3.Hash] }, { i := 2, call := some { cl := true, ins := [], args := [.int .i64 x3.Hash], res := R48 r4, G' := N48 r4 }, dec := some true }],
    .reg [{ i := 1, dec := some true }],
    .reg [{ i := 1, xs := [.int .i64 x3.Parent] }, { i := 2, dec := some false }, { i := 5, xs := [.int .i64 x3.Turn] }, { i := 6, dec := some true }],
    .reg []]) (by kernel_rfl) (P2 ((decide (t3 < t2)) = true) (decide_eq_true h1) <| P2 ((0 : Int) ≤ t3) h2 <| P2 (t3 < (List.length t1 : Int)) (int_lt_of_at (h2) hx3) <| P2 (getCells (List.map g53 t1) (Int.toNat t3) 0 3 = some [.int .i64 x3.Parent, .int .i64 x3.Turn, .int .i64 x3.Hash]) (getCells_map hx3 rfl) <| PI (some [.int .i64 x3.Hash] : Option (List D)) <| PI (x3.Hash : Int) <| P1 (c48 hr4) <| P2 (r4 = true) (h5) <| P2 (((t3 : Int) == 0) = true) (beqT h6) <| PI (some [.int .i64 x3.Parent] : Option (List D)) <| P2 (((x3.Parent : Int) != (-1)) = false) (bneF h7) <| PI (some [.int .i64 x3.Turn] : Option (List D)) <| P2 (((x3.Turn : Int) != 0) = true) (bneT h8) <| PI false <| P0)))
          (fun h7 H =>
            eRet (P := Nx X 36 0 K36 Z36 R36 N36 (K36 (.h1 i0 t1 t2 t3)) (Z36 (.h1 i0 t1 t2 t3))) H <| runFin_ok T_ok mixed F36 (cmds := [.reg [{ i := 0, dec := some true }],
    .reg [{ i := 2, xs := [.int .i64 x3.Parent, .int .i64 x3.Turn, .int .i64 x3.Hash] }],
    .reg [{ i := 1, xs := [.int .i64 x3.Hash] }, { i := 2, call := some { cl := true, ins := [], args := [.int .i64 x3.Hash], res := R48 r4, G' := N48 r4 }, dec := some true }],
    .reg [{ i := 1, dec := some true }],
    .reg [{ i := 1, xs := [.int .i64 x3.Parent] }, { i := 2, dec := some true }],
    .reg []]) (by kernel_rfl) (P2 ((decide (t3 < t2)) = true) (decide_eq_true h1) <| P2 ((0 : Int) ≤ t3) h2 <| P2 (t3 < (List.length t1 : Int)) (int_lt_of_at (h2) hx3) <| P2 (getCells (List.map g53 t1) (Int.toNat t3) 0 3 = some [.int .i64 x3.Parent, .int .i64 x3.Turn, .int .i64 x3.Hash]) (getCells_map hx3 rfl) <| PI (some [.int .i64 x3.Hash] : Option (List D)) <| PI (x3.Hash : Int) <| P1 (c48 hr4) <| P2 (r4 = true) (h5) <| P2 (((t3 : Int) == 0) = true) (beqT h6) <| PI (some [.int .i64 x3.Parent] : Option (List D)) <| P2 (((x3.Parent : Int) != (-1)) = true) (bneT h7) <| PI false <| P0)))
        (fun h6 H =>
          eBind H fun r7 hr7 H =>
          eIf H (fun h8 H =>
            eCk H fun h9 H =>
            eBind H fun x10 hx10 H =>
            eIf H (fun h11 H =>
              eIf H (fun h12 H =>
                eRet (P := Nx X 36 0 K36 Z36 R36 N36 (K36 (.h1 i0 t1 t2 t3)) (Z36 (.h1 i0 t1 t2 t3))) H <| runFin_ok T_ok mixed F36 (cmds := [.reg [{ i := 0, dec := some true }],
    .reg [{ i := 2, xs := [.int .i64 x3.Parent, .int .i64 x3.Turn, .int .i64 x3.Hash] }],
    .reg [{ i := 1, xs := [.int .i64 x3.Hash] }, { i := 2, call := some { cl := true, ins := [], args := [.int .i64 x3.Hash], res := R48 r4, G' := N48 r4 }, dec := some true }],
    .reg [{ i := 1, dec := some false }],
    .reg [{ i := 1, xs := [.int .i64 x3.Parent] }, { i := 4, call := some { cl := true, ins := [], args := [.int .i64 x3.Parent, .int .i64 0, .int .i64 (IntKind.wrap .i64 (t3 - 1))], res := R51 r7, G' := N51 r7 }, dec := some true }, { i := 8, xs := [.int .i64 x3.Turn] }, { i := 11, xs := [.int .i64 x3.Parent] }, { i := 14, xs := [.int .i64 x10.Turn] }, { i := 16, dec := some false }, { i := 20, xs := [.int .i64 x3.Turn] }, { i := 21, dec := some true }],
    .reg []]) (by kernel_rfl) (P2 ((decide (t3 < t2)) = true) (decide_eq_true h1) <| P2 ((0 : Int) ≤ t3) h2 <| P2 (t3 < (List.length t1 : Int)) (int_lt_of_at (h2) hx3) <| P2 (getCells (List.map g53 t1) (Int.toNat t3) 0 3 = some [.int .i64 x3.Parent, .int .i64 x3.Turn, .int .i64 x3.Hash]) (getCells_map hx3 rfl) <| PI (some [.int .i64 x3.Hash] : Option (List D)) <| PI (x3.Hash : Int) <| P1 (c48 hr4) <| P2 (r4 = true) (h5) <| P2 (((t3 : Int) == 0) = false) (beqF h6) <| PI (some [.int .i64 x3.Parent] : Option (List D)) <| PI (x3.Parent : Int) <| PI (0 : Int) <| PI (IntKind.wrap .i64 (t3 - 1) : Int) <| P1 (c51 hr7) <| P2 (r7 = true) (h8) <| PI (some [.int .i64 x3.Turn] : Option (List D)) <| PI (some [.int .i64 x3.Parent] : Option (List D)) <| P2 ((0 : Int) ≤ x3.Parent) h9 <| P2 (x3.Parent < (List.length i0 : Int)) (int_lt_of_at (h9) hx10) <| P2 (getCells (List.map g53 i0) (Int.toNat x3.Parent) 1 1 = some [.int .i64 x10.Turn]) (getCells_map hx10 rfl) <| P2 (((x3.Turn : Int) != (IntKind.wrap .i64 (x10.Turn + 1))) = false) (bneF h11) <| PI (some [.int .i64 x3.Turn] : Option (List D)) <| P2 ((decide (x3.Turn > 30)) = true) (decide_eq_true h12) <| PI false <| P0))
              (fun h12 H =>
                eCk H fun h13 H =>
                eCk H fun h14 H =>
                eBind H fun r15 hr15 H =>
                eIf H (fun h16 H =>
                  eRet (P := Nx X 36 0 K36 Z36 R36 N36 (K36 (.h1 i0 t1 t2 t3)) (Z36 (.h1 i0 t1 t2 t3))) H <| runFin_ok T_ok mixed F36 (cmds := [.reg [{ i := 0, dec := some true }],
    .reg [{ i := 2, xs := [.int .i64 x3.Parent, .int .i64 x3.Turn, .int .i64 x3.Hash] }],
    .reg [{ i := 1, xs := [.int .i64 x3.Hash] }, { i := 2, call := some { cl := true, ins := [], args := [.int .i64 x3.Hash], res := R48 r4, G' := N48 r4 }, dec := some true }],
    .reg [{ i := 1, dec := some false }],
    .reg [{ i := 1, xs := [.int .i64 x3.Parent] }, { i := 4, call := some { cl := true, ins := [], args := [.int .i64 x3.Parent, .int .i64 0, .int .i64 (IntKind.wrap .i64 (t3 - 1))], res := R51 r7, G' := N51 r7 }, dec := some true }, { i := 8, xs := [.int .i64 x3.Turn] }, { i := 11, xs := [.int .i64 x3.Parent] }, { i := 14, xs := [.int .i64 x10.Turn] }, { i := 16, dec := some false }, { i := 20, xs := [.int .i64 x3.Turn] }, { i := 21, dec := some false }, { i := 26, n := List.length (List.take ((Int.toNat t3) - 0) (List.drop 0 i0)), xs := List.map g53 (List.take ((Int.toNat t3) - 0) (List.drop 0 i0)) }, { i := 28, xs := [.int .i64 x3.Parent] }, { i := 30, xs := [.int .i64 x3.Hash] }, { i := 31, call := some { cl := true, ins := [], args := [sl 3 g53 (List.take ((Int.toNat t3) - 0) (List.drop 0 i0)), .int .i64 x3.Parent, .int .i64 x3.Hash], res := R53 r15, G' := N53 r15 } }, { i := 32, dec := some true }],
    .reg []]) (by kernel_rfl) (P2 ((decide (t3 < t2)) = true) (decide_eq_true h1) <| P2 ((0 : Int) ≤ t3) h2 <| P2 (t3 < (List.length t1 : Int)) (int_lt_of_at (h2) hx3) <| P2 (getCells (List.map g53 t1) (Int.toNat t3) 0 3 = some [.int .i64 x3.Parent, .int .i64 x3.Turn, .int .i64 x3.Hash]) (getCells_map hx3 rfl) <| PI (some [.int .i64 x3.Hash] : Option (List D)) <| PI (x3.Hash : Int) <| P1 (c48 hr4) <| P2 (r4 = true) (h5) <| P2 (((t3 : Int) == 0) = false) (beqF h6) <| PI (some [.int .i64 x3.Parent] : Option (List D)) <| PI (x3.Parent : Int) <| PI (0 : Int) <| PI (IntKind.wrap .i64 (t3 - 1) : Int) <| P1 (c51 hr7) <| P2 (r7 = true) (h8) <| PI (some [.int .i64 x3.Turn] : Option (List D)) <| PI (some [.int .i64 x3.Parent] : Option (List D)) <| P2 ((0 : Int) ≤ x3.Parent) h9 <| P2 (x3.Parent < (List.length i0 : Int)) (int_lt_of_at (h9) hx10) <| P2 (getCells (List.map g53 i0) (Int.toNat x3.Parent) 1 1 = some [.int .i64 x10.Turn]) (getCells_map hx10 rfl) <| P2 (((x3.Turn : Int) != (IntKind.wrap .i64 (x10.Turn + 1))) = false) (bneF h11) <| PI (some [.int .i64 x3.Turn] : Option (List D)) <| P2 ((decide (x3.Turn > 30)) = false) (decide_eq_false h12) <| P2 ((0 : Int) ≤ t3) h13 <| P2 ((t3 : Int) ≤ ((List.length i0 : Nat) : Int)) h14 <| P2 (List.length (List.take ((Int.toNat t3) - 0) (List.drop 0 i0)) = (Int.toNat t3) - 0) (by simp; omega) <| P2 (List.take ((Int.toNat t3) - 0) (List.drop 0 (List.map g53 i0)) = List.map g53 (List.take ((Int.toNat t3) - 0) (List.drop 0 i0))) (by simp [List.map_drop, List.map_take]) <| PI (some [.int .i64 x3.Parent] : Option (List D)) <| PI (some [.int .i64 x3.Hash] : Option (List D)) <| PL g53 (List.take ((Int.toNat t3) - 0) (List.drop 0 i0)) <| PI (x3.Parent : Int) <| PI (x3.Hash : Int) <| P1 (c53 hr15) <| P2 ((decide (r15 ≥ 0)) = true) (decide_eq_true h16) <| PI false <| P0))
                (fun h16 H =>
                  eRet (P := Nx X 36 0 K36 Z36 R36 N36 (K36 (.h1 i0 t1 t2 t3)) (Z36 (.h1 i0 t1 t2 t3))) H fun r hn => run_ok T_ok mixed (cmds := [.reg [{ i := 0, dec := some true }],
    .reg [{ i := 2, xs := [.int .i64 x3.Parent, .int .i64 x3.Turn, .int .i64 x3.Hash] }],
    .reg [{ i := 1, xs := [.int .i64 x3.Hash] }, { i := 2, call := some { cl := true, ins := [], args := [.int .i64 x3.Hash], res := R48 r4, G' := N48 r4 }, dec := some true }],
    .reg [{ i := 1, dec := some false }],
    .reg [{ i := 1, xs := [.int .i64 x3.Parent] }, { i := 4, call := some { cl := true, ins := [], args := [.int .i64 x3.Parent, .int .i64 0, .int .i64 (IntKind.wrap .i64 (t3 - 1))], res := R51 r7, G' := N51 r7 }, dec := some true }, { i := 8, xs := [.int .i64 x3.Turn] }, { i := 11, xs := [.int .i64 x3.Parent] }, { i := 14, xs := [.int .i64 x10.Turn] }, { i := 16, dec := some false }, { i := 20, xs := [.int .i64 x3.Turn] }, { i := 21, dec := some false }, { i := 26, n := List.length (List.take ((Int.toNat t3) - 0) (List.drop 0 i0)), xs := List.map g53 (List.take ((Int.toNat t3) - 0) (List.drop 0 i0)) }, { i := 28, xs := [.int .i64 x3.Parent] }, { i := 30, xs := [.int .i64 x3.Hash] }, { i := 31, call := some { cl := true, ins := [], args := [sl 3 g53 (List.take ((Int.toNat t3) - 0) (List.drop 0 i0)), .int .i64 x3.Parent, .int .i64 x3.Hash], res := R53 r15, G' := N53 r15 } }, { i := 32, dec := some false }],
    .reg [],
    .canon [] [0, 9, 10, 11]]) (by kernel_rfl) (P2 ((decide (t3 < t2)) = true) (decide_eq_true h1) <| P2 ((0 : Int) ≤ t3) h2 <| P2 (t3 < (List.length t1 : Int)) (int_lt_of_at (h2) hx3) <| P2 (getCells (List.map g53 t1) (Int.toNat t3) 0 3 = some [.int .i64 x3.Parent, .int .i64 x3.Turn, .int .i64 x3.Hash]) (getCells_map hx3 rfl) <| PI (some [.int .i64 x3.Hash] : Option (List D)) <| PI (x3.Hash : Int) <| P1 (c48 hr4) <| P2 (r4 = true) (h5) <| P2 (((t3 : Int) == 0) = false) (beqF h6) <| PI (some [.int .i64 x3.Parent] : Option (List D)) <| PI (x3.Parent : Int) <| PI (0 : Int) <| PI (IntKind.wrap .i64 (t3 - 1) : Int) <| P1 (c51 hr7) <| P2 (r7 = true) (h8) <| PI (some [.int .i64 x3.Turn] : Option (List D)) <| PI (some [.int .i64 x3.Parent] : Option (List D)) <| P2 ((0 : Int) ≤ x3.Parent) h9 <| P2 (x3.Parent < (List.length i0 : Int)) (int_lt_of_at (h9) hx10) <| P2 (getCells (List.map g53 i0) (Int.toNat x3.Parent) 1 1 = some [.int .i64 x10.Turn]) (getCells_map hx10 rfl) <| P2 (((x3.Turn : Int) != (IntKind.wrap .i64 (x10.Turn + 1))) = false) (bneF h11) <| PI (some [.int .i64 x3.Turn] : Option (List D)) <| P2 ((decide (x3.Turn > 30)) = false) (decide_eq_false h12) <| P2 ((0 : Int) ≤ t3) h13 <| P2 ((t3 : Int) ≤ ((List.length i0 : Nat) : Int)) h14 <| P2 (List.length (List.take ((Int.toNat t3) - 0) (List.drop 0 i0)) = (Int.toNat t3) - 0) (by simp; omega) <| P2 (List.take ((Int.toNat t3) - 0) (List.drop 0 (List.map g53 i0)) = List.map g53 (List.take ((Int.toNat t3) - 0) (List.drop 0 i0))) (by simp [List.map_drop, List.map_take]) <| PI (some [.int .i64 x3.Parent] : Option (List D)) <| PI (some [.int .i64 x3.Hash] : Option (List D)) <| PL g53 (List.take ((Int.toNat t3) - 0) (List.drop 0 i0)) <| PI (x3.Parent : Int) <| PI (x3.Hash : Int) <| P1 (c53 hr15) <| P2 ((decide (r15 ≥ 0)) = false) (decide_eq_false h16) <| P0) hn)))
            (fun h11 H =>
              eRet (P := Nx X 36 0 K36 Z36 R36 N36 (K36 (.h1 i0 t1 t2 t3)) (Z36 (.h1 i0 t1 t2 t3))) H <| runFin_ok T_ok mixed F36 (cmds := [.reg [{ i := 0, dec := some true }],
    .reg [{ i := 2, xs := [.int .i64 x3.Parent, .int .i64 x3.Turn, .int .i64 x3.Hash] }],
    .reg [{ i := 1, xs := [.int .i64 x3.Hash] }, { i := 2, call := some { cl := true, ins := [], args := [.int .i64 x3.Hash], res := R48 r4, G' := N48 r4 }, dec := some true }],
    .reg [{ i := 1, dec := some false }],
    .reg [{ i := 1, xs := [.int .i64 x3.Parent] }, { i := 4, call := some { cl := true, ins := [], args := [.int .i64 x3.Parent, .int .i64 0, .int .i64 (IntKind.wrap .i64 (t3 - 1))], res := R51 r7, G' := N51 r7 }, dec := some true }, { i := 8, xs := [.int .i64 x3.Turn] }, { i := 11, xs := [.int .i64 x3.Parent] }, { i := 14, xs := [.int .i64 x10.Turn] }, { i := 16, dec := some true }],
    .reg []]) (by kernel_rfl) (P2 ((decide (t3 < t2)) = true) (decide_eq_true h1) <| P2 ((0 : Int) ≤ t3) h2 <| P2 (t3 < (List.length t1 : Int)) (int_lt_of_at (h2) hx3) <| P2 (getCells (List.map g53 t1) (Int.toNat t3) 0 3 = some [.int .i64 x3.Parent, .int .i64 x3.Turn, .int .i64 x3.Hash]) (getCells_map hx3 rfl) <| PI (some [.int .i64 x3.Hash] : Option (List D)) <| PI (x3.Hash : Int) <| P1 (c48 hr4) <| P2 (r4 = true) (h5) <| P2 (((t3 : Int) == 0) = false) (beqF h6) <| PI (some [.int .i64 x3.Parent] : Option (List D)) <| PI (x3.Parent : Int) <| PI (0 : Int) <| PI (IntKind.wrap .i64 (t3 - 1) : Int) <| P1 (c51 hr7) <| P2 (r7 = true) (h8) <| PI (some [.int .i64 x3.Turn] : Option (List D)) <| PI (some [.int .i64 x3.Parent] : Option (List D)) <| P2 ((0 : Int) ≤ x3.Parent) h9 <| P2 (x3.Parent < (List.length i0 : Int)) (int_lt_of_at (h9) hx10) <| P2 (getCells (List.map g53 i0) (Int.toNat x3.Parent) 1 1 = some [.int .i64 x10.Turn]) (getCells_map hx10 rfl) <| P2 (((x3.Turn : Int) != (IntKind.wrap .i64 (x10.Turn + 1))) = true) (bneT h11) <| PI false <| P0)))
          (fun h8 H =>
            eRet (P := Nx X 36 0 K36 Z36 R36 N36 (K36 (.h1 i0 t1 t2 t3)) (Z36 (.h1 i0 t1 t2 t3))) H <| runFin_ok T_ok mixed F36 (cmds := [.reg [{ i := 0, dec := some true }],
    .reg [{ i := 2, xs := [.int .i64 x3.Parent, .int .i64 x3.Turn, .int .i64 x3.Hash] }],
    .reg [{ i := 1, xs := [.int .i64 x3.Hash] }, { i := 2, call := some { cl := true, ins := [], args := [.int .i64 x3.Hash], res := R48 r4, G' := N48 r4 }, dec := some true }],
    .reg [{ i := 1, dec := some false }],
    .reg [{ i := 1, xs := [.int .i64 x3.Parent] }, { i := 4, call := some { cl := true, ins := [], args := [.int .i64 x3.Parent, .int .i64 0, .int .i64 (IntKind.wrap .i64 (t3 - 1))], res := R51 r7, G' := N51 r7 }, dec := some false }],
    .reg []]) (by kernel_rfl) (P2 ((decide (t3 < t2)) = true) (decide_eq_true h1) <| P2 ((0 : Int) ≤ t3) h2 <| P2 (t3 < (List.length t1 : Int)) (int_lt_of_at (h2) hx3) <| P2 (getCells (List.map g53 t1) (Int.toNat t3) 0 3 = some [.int .i64 x3.Parent, .int .i64 x3.Turn, .int .i64 x3.Hash]) (getCells_map hx3 rfl) <| PI (some [.int .i64 x3.Hash] : Option (List D)) <| PI (x3.Hash : Int) <| P1 (c48 hr4) <| P2 (r4 = true) (h5) <| P2 (((t3 : Int) == 0) = false) (beqF h6) <| PI (some [.int .i64 x3.Parent] : Option (List D)) <| PI (x3.Parent : Int) <| PI (0 : Int) <| PI (IntKind.wrap .i64 (t3 - 1) : Int) <| P1 (c51 hr7) <| P2 (r7 = false) (eqF h8) <| PI false <| P0))))
      (fun h5 H =>
        eRet (P := Nx X 36 0 K36 Z36 R36 N36 (K36 (.h1 i0 t1 t2 t3)) (Z36 (.h1 i0 t1 t2 t3))) H <| runFin_ok T_ok mixed F36 (cmds := [.reg [{ i := 0, dec := some true }],
    .reg [{ i := 2, xs := [.int .i64 x3.Parent, .int .i64 x3.Turn, .int .i64 x3.Hash] }],
    .reg [{ i := 1, xs := [.int .i64 x3.Hash] }, { i := 2, call := some { cl := true, ins := [], args := [.int .i64 x3.Hash], res := R48 r4, G' := N48 r4 }, dec := some false }],
    .reg []]) (by kernel_rfl) (P2 ((decide (t3 < t2)) = true) (decide_eq_true h1) <| P2 ((0 : Int) ≤ t3) h2 <| P2 (t3 < (List.length t1 : Int)) (int_lt_of_at (h2) hx3) <| P2 (getCells (List.map g53 t1) (Int.toNat t3) 0 3 = some [.int .i64 x3.Parent, .int .i64 x3.Turn, .int .i64 x3.Hash]) (getCells_map hx3 rfl) <| PI (some [.int .i64 x3.Hash] : Option (List D)) <| PI (x3.Hash : Int) <| P1 (c48 hr4) <| P2 (r4 = false) (eqF h5) <| PI false <| P0)))
    (fun h1 H =>
      eRet (P := Nx X 36 0 K36 Z36 R36 N36 (K36 (.h1 i0 t1 t2 t3)) (Z36 (.h1 i0 t1 t2 t3))) H <| runFin_ok T_ok mixed F36 (cmds := [.reg [{ i := 0, dec := some false }],
    .reg []]) (by kernel_rfl) (P2 ((decide (t3 < t2)) = false) (decide_eq_false h1) <| PI true <| P0))
theorem w36 : ∀ s r, loop B36 s = some r → Wc X 36 0 (K36 s) (Z36 s) (R36 r) (N36 r) := Nx.all n36
theorem c36 {a0 : (List G53)} {r : Bool} (H : D36 a0 = some r) : Ct X.P X.gl 36 [sl 3 g53 a0] [] (R36 r) (N36 r) :=
  Ct.of F36 (c := b36) (by kernel_rfl) (by kernel_rfl) <|
  eBind H fun r1 hr1 H =>
  eIf H (fun h2 H =>
    run_ok T_ok mixed (cmds := [.reg [],
    .reg [{ i := 2, call := some { cl := true, ins := [], args := [.int .i64 ((List.length a0 : Nat) : Int), .int .i64 1, .int .i64 40], res := R51 r1, G' := N51 r1 }, dec := some true }],
    .reg [],
    .canon [] [0, 9, 10, 11]]) (by kernel_rfl) (PI (((List.length a0 : Nat) : Int) : Int) <| PI (1 : Int) <| PI (40 : Int) <| P1 (c51 hr1) <| P2 (r1 = true) (h2) <| P0) (w36 _ _ H))
  (fun h2 H =>
    eRet (P := fun r => Wc X 36 0 _ _ (R36 r) (N36 r)) H <| runFin_ok T_ok mixed F36 (cmds := [.reg [],
    .reg [{ i := 2, call := some { cl := true, ins := [], args := [.int .i64 ((List.length a0 : Nat) : Int), .int .i64 1, .int .i64 40], res := R51 r1, G' := N51 r1 }, dec := some false }],
    .reg []]) (by kernel_rfl) (PI (((List.length a0 : Nat) : Int) : Int) <| PI (1 : Int) <| PI (40 : Int) <| P1 (c51 hr1) <| P2 (r1 = false) (eqF h2) <| PI false <| P0))
/-! loop example/g00886/spec IsTree -/
noncomputable def b15 : Code := match Go.Proofs.Try.f15.body with | some c => c | none => .skip
theorem F15 : X.P.funcs[15]? = some Go.Proofs.Try.f15 := by kernel_rfl
def R15 (r : Bool) : List D := [.bool r]
def N15 (r : Bool) : List Root := []
theorem c15 {a0 : (List G53)} {r : Bool} (H : D15 a0 = some r) : Ct X.P X.gl 15 [sl 3 g53 a0] [] (R15 r) (N15 r) :=
  Ct.of F15 (c := b15) (by kernel_rfl) (by kernel_rfl) <|
  eBind H fun r1 hr1 H =>
  eRet (P := fun r => Wc X 15 0 _ _ (R15 r) (N15 r)) H <| runFin_ok T_ok mixed F15 (cmds := [.reg [],
    .reg [{ i := 1, call := some { cl := true, ins := [], args := [sl 3 g53 a0], res := R36 r1, G' := N36 r1 } }]]) (by kernel_rfl) (PL g53 a0 <| P1 (c36 hr1) <| PI r1 <| P0)
/-! loop example/g00886/impl isIndex -/
noncomputable def b39 : Code := match Go.Proofs.Try.f39.body with | some c => c | none => .skip
theorem F39 : X.P.funcs[39]? = some Go.Proofs.Try.f39 := by kernel_rfl
def R39 (r : Bool) : List D := [.bool r]
def N39 (r : Bool) : List Root := []
theorem c39 {a0 : Int} {a1 : Int} {r : Bool} (H : D39 a0 a1 = some r) : Ct X.P X.gl 39 [.int .i64 a0, .int .i64 a1] [] (R39 r) (N39 r) :=
  Ct.of F39 (c := b39) (by kernel_rfl) (by kernel_rfl) <|
  eBind H fun r1 hr1 H =>
  eRet (P := fun r => Wc X 39 0 _ _ (R39 r) (N39 r)) H <| runFin_ok T_ok mixed F39 (cmds := [.reg [],
    .reg [{ i := 3, call := some { cl := true, ins := [], args := [.int .i64 a0, .int .i64 0, .int .i64 (IntKind.wrap .i64 (a1 - 1))], res := R38 r1, G' := N38 r1 } }]]) (by kernel_rfl) (PI (a0 : Int) <| PI (0 : Int) <| PI (IntKind.wrap .i64 (a1 - 1) : Int) <| P1 (c38 hr1) <| PI r1 <| P0)
/-! loop example/g00886/impl childWith 1 -/
noncomputable def b55 : Code := match Go.Proofs.Try.f55.body with | some c => c | none => .skip
theorem F55 : X.P.funcs[55]? = some Go.Proofs.Try.f55 := by kernel_rfl
def R55 (r : Bool) : List D := [.bool r]
def N55 (r : Bool) : List Root := []
theorem c55 {a0 : G53} {a1 : Int} {a2 : Int} {r : Bool} (H : D55 a0 a1 a2 = some r) : Ct X.P X.gl 55 [.agg [.int .i64 a0.Parent, .int .i64 a0.Turn, .int .i64 a0.Hash], .fptr 1 [.agg [.int .i64 a1]] 0 0, .fptr 1 [.agg [.int .i64 a2]] 0 0] [] (R55 r) (N55 r) :=
  Ct.of F55 (c := b55) (by kernel_rfl) (by kernel_rfl) <|
  eIf H (fun h1 H =>
    eRet (P := fun r => Wc X 55 0 _ _ (R55 r) (N55 r)) H <| runFin_ok T_ok mixed F55 (cmds := [.reg [],
    .reg [{ i := 1, xs := [.int .i64 a0.Parent] }, { i := 2, xs := [.int .i64 a1] }, { i := 3, dec := some true }, { i := 6, xs := [.int .i64 a0.Hash] }, { i := 7, xs := [.int .i64 a2] }]]) (by kernel_rfl) (PI (some [.int .i64 a0.Parent] : Option (List D)) <| PI (some [.int .i64 a1] : Option (List D)) <| P2 (((a0.Parent : Int) == a1) = true) (beqT h1) <| PI (some [.int .i64 a0.Hash] : Option (List D)) <| PI (some [.int .i64 a2] : Option (List D)) <| PI ((a0.Hash : Int) == a2) <| P0))
  (fun h1 H =>
    eRet (P := fun r => Wc X 55 0 _ _ (R55 r) (N55 r)) H <| runFin_ok T_ok mixed F55 (cmds := [.reg [],
    .reg [{ i := 1, xs := [.int .i64 a0.Parent] }, { i := 2, xs := [.int .i64 a1] }, { i := 3, dec := some false }]]) (by kernel_rfl) (PI (some [.int .i64 a0.Parent] : Option (List D)) <| PI (some [.int .i64 a1] : Option (List D)) <| P2 (((a0.Parent : Int) == a1) = false) (beqF h1) <| PI false <| P0))
/-! slices IndexFunc   loop example/g00886/impl Node loop example/g00886/impl Node  -/
noncomputable def b54f55qq : Code := match Go.Proofs.Try.f54.body with | some c => c | none => .skip
theorem F54f55qq : X.P.funcs[54]? = some Go.Proofs.Try.f54 := by kernel_rfl
def R54f55qq (r : Int) : List D := [.int .i64 r]
def N54f55qq (r : Int) : List Root := []
noncomputable def K54f55qq : S54f55qq → List Item
  | .h1 .. => nav 300 2 [] [.code b54f55qq]
def Z54f55qq : S54f55qq → St
  | .h1 s0 f1 f2 t3 t4 => ⟨sts 19 [(0, sl 3 g53 s0), (1, .fn 55 [.fptr 1 [.agg [.int .i64 f1]] 0 0, .fptr 1 [.agg [.int .i64 f2]] 0 0]), (7, .int .i64 t3), (8, .int .i64 t4)], []⟩
theorem n54f55qq : ∀ s o, B54f55qq s = some o → Nx X 54 0 K54f55qq Z54f55qq R54f55qq N54f55qq (K54f55qq s) (Z54f55qq s) o
  | .h1 s0 f1 f2 t3 t4, o, H =>
    eIf H (fun h1 H =>
      eCk H fun h2 H =>
      eBind H fun x3 hx3 H =>
      eBind H fun r4 hr4 H =>
      eIf H (fun h5 H =>
        eRet (P := Nx X 54 0 K54f55qq Z54f55qq R54f55qq N54f55qq (K54f55qq (.h1 s0 f1 f2 t3 t4)) (Z54f55qq (.h1 s0 f1 f2 t3 t4))) H <| runFin_ok T_ok mixed F54f55qq (cmds := [.reg [{ i := 0, dec := some true }],
    .reg [],
    .reg [{ i := 4, xs := [.int .i64 x3.Parent, .int .i64 x3.Turn, .int .i64 x3.Hash] }, { i := 5, call := some { cl := true, ins := [], args := [.agg [.int .i64 x3.Parent, .int .i64 x3.Turn, .int .i64 x3.Hash], .fptr 1 [.agg [.int .i64 f1]] 0 0, .fptr 1 [.agg [.int .i64 f2]] 0 0], res := R55 r4, G' := N55 r4 }, dec := some true }],
    .reg []]) (by kernel_rfl) (P2 ((decide (t4 < t3)) = true) (decide_eq_true h1) <| P2 ((0 : Int) ≤ t4) h2 <| P2 (t4 < (List.length s0 : Int)) (int_lt_of_at (h2) hx3) <| P2 (getCells (List.map g53 s0) (Int.toNat t4) 0 3 = some [.int .i64 x3.Parent, .int .i64 x3.Turn, .int .i64 x3.Hash]) (getCells_map hx3 rfl) <| PI (x3.Parent : Int) <| PI (x3.Turn : Int) <| PI (x3.Hash : Int) <| PI (erL [.agg [.int .i64 f1]]) <| PI (0 : Nat) <| PI (0 : Nat) <| PI (erL [.agg [.int .i64 f2]]) <| PI (0 : Nat) <| PI (0 : Nat) <| P1 (c55 hr4) <| P2 (r4 = true) (h5) <| PI (t4 : Int) <| P0))
      (fun h5 H =>
        eRet (P := Nx X 54 0 K54f55qq Z54f55qq R54f55qq N54f55qq (K54f55qq (.h1 s0 f1 f2 t3 t4)) (Z54f55qq (.h1 s0 f1 f2 t3 t4))) H fun r hn => run_ok T_ok mixed (cmds := [.reg [{ i := 0, dec := some true }],
    .reg [],
    .reg [{ i := 4, xs := [.int .i64 x3.Parent, .int .i64 x3.Turn, .int .i64 x3.Hash] }, { i := 5, call := some { cl := true, ins := [], args := [.agg [.int .i64 x3.Parent, .int .i64 x3.Turn, .int .i64 x3.Hash], .fptr 1 [.agg [.int .i64 f1]] 0 0, .fptr 1 [.agg [.int .i64 f2]] 0 0], res := R55 r4, G' := N55 r4 }, dec := some false }],
    .reg [],
    .canon [] [0, 1, 7, 8]]) (by kernel_rfl) (P2 ((decide (t4 < t3)) = true) (decide_eq_true h1) <| P2 ((0 : Int) ≤ t4) h2 <| P2 (t4 < (List.length s0 : Int)) (int_lt_of_at (h2) hx3) <| P2 (getCells (List.map g53 s0) (Int.toNat t4) 0 3 = some [.int .i64 x3.Parent, .int .i64 x3.Turn, .int .i64 x3.Hash]) (getCells_map hx3 rfl) <| PI (x3.Parent : Int) <| PI (x3.Turn : Int) <| PI (x3.Hash : Int) <| PI (erL [.agg [.int .i64 f1]]) <| PI (0 : Nat) <| PI (0 : Nat) <| PI (erL [.agg [.int .i64 f2]]) <| PI (0 : Nat) <| PI (0 : Nat) <| P1 (c55 hr4) <| P2 (r4 = false) (eqF h5) <| P0) hn))
    (fun h1 H =>
      eRet (P := Nx X 54 0 K54f55qq Z54f55qq R54f55qq N54f55qq (K54f55qq (.h1 s0 f1 f2 t3 t4)) (Z54f55qq (.h1 s0 f1 f2 t3 t4))) H <| runFin_ok T_ok mixed F54f55qq (cmds := [.reg [{ i := 0, dec := some false }],
    .reg []]) (by kernel_rfl) (P2 ((decide (t4 < t3)) = false) (decide_eq_false h1) <| PI ((-1) : Int) <| P0))
theorem w54f55qq : ∀ s r, loop B54f55qq s = some r → Wc X 54 0 (K54f55qq s) (Z54f55qq s) (R54f55qq r) (N54f55qq r) := Nx.all n54f55qq
theorem c54f55qq {a0 : (List G53)} {a100 : Int} {a101 : Int} {r : Int} (H : D54f55qq a0 a100 a101 = some r) : Ct X.P X.gl 54 [sl 3 g53 a0, .fn 55 [.fptr 1 [.agg [.int .i64 a100]] 0 0, .fptr 1 [.agg [.int .i64 a101]] 0 0]] [] (R54f55qq r) (N54f55qq r) :=
  Ct.of F54f55qq (c := b54f55qq) (by kernel_rfl) (by kernel_rfl) <|
  run_ok T_ok mixed (cmds := [.reg [],
    .reg [],
    .canon [] [0, 1, 7, 8]]) (by kernel_rfl) (P0) (w54f55qq _ _ H)
/-! loop example/g00886/impl childWith -/
noncomputable def b40 : Code := match Go.Proofs.Try.f40.body with | some c => c | none => .skip
theorem F40 : X.P.funcs[40]? = some Go.Proofs.Try.f40 := by kernel_rfl
def R40 (r : Int) : List D := [.int .i64 r]
def N40 (r : Int) : List Root := []
theorem c40 {a0 : (List G53)} {a1 : Int} {a2 : Int} {r : Int} (H : D40 a0 a1 a2 = some r) : Ct X.P X.gl 40 [sl 3 g53 a0, .int .i64 a1, .int .i64 a2] [] (R40 r) (N40 r) :=
  Ct.of F40 (c := b40) (by kernel_rfl) (by kernel_rfl) <|
  eBind H fun r1 hr1 H =>
  eRet (P := fun r => Wc X 40 0 _ _ (R40 r) (N40 r)) H <| runFin_ok T_ok mixed F40 (cmds := [.reg [],
    .reg [{ i := 2, call := some { cl := false, ins := [], args := [sl 3 g53 a0, .fn 55 [.fptr 1 [.agg [.int .i64 a1]] 0 0, .fptr 1 [.agg [.int .i64 a2]] 0 0]], res := R54f55qq r1, G' := N54f55qq r1 } }]]) (by kernel_rfl) (PL g53 a0 <| PI (0 : Nat) <| PI (0 : Nat) <| PI (a1 : Int) <| PI (0 : Nat) <| PI (0 : Nat) <| PI (a2 : Int) <| P1 (c54f55qq hr1) <| PI (r1 : Int) <| P0)
/-! loop example/g00886/impl IsTree -/
noncomputable def b17 : Code := match Go.Proofs.Try.f17.body with | some c => c | none => .skip
theorem F17 : X.P.funcs[17]? = some Go.Proofs.Try.f17 := by kernel_rfl
def R17 (r : Bool) : List D := [.bool r]
def N17 (r : Bool) : List Root := []
noncomputable def K17 : S17 → List Item
  | .h1 .. => nav 300 3 [false] [.code b17]
def Z17 : S17 → St
  | .h1 i0 t1 t2 t3 => ⟨sts 72 [(0, sl 3 g53 i0), (23, sl 3 g53 t1), (24, .int .i64 t2), (25, .int .i64 t3)], []⟩
theorem n17 : ∀ s o, B17 s = some o → Nx X 17 0 K17 Z17 R17 N17 (K17 s) (Z17 s) o
  | .h1 i0 t1 t2 t3, o, H =>
    eIf H (fun h1 H =>
      eCk H fun h2 H =>
      eBind H fun x3 hx3 H =>
      eBind H fun r4 hr4 H =>
      eIf H (fun h5 H =>
        eIf H (fun h6 H =>
          eBind H fun r7 hr7 H =>
          eIf H (fun h8 H =>
            eCk H fun h9 H =>
            eBind H fun x10 hx10 H =>
            eIf H (fun h11 H =>
              eBind H fun r12 hr12 H =>
              eIf H (fun h13 H =>
                eBind H fun r14 hr14 H =>
                eIf H (fun h15 H =>
                  eRet (P := Nx X 17 0 K17 Z17 R17 N17 (K17 (.h1 i0 t1 t2 t3)) (Z17 (.h1 i0 t1 t2 t3))) H fun r hn => run_ok T_ok mixed (cmds := [.reg [{ i := 0, dec := some true }],
    .reg [{ i := 2, xs := [.int .i64 x3.Parent, .int .i64 x3.Turn, .int .i64 x3.Hash] }],
    .reg [{ i := 1, xs := [.int .i64 x3.Hash] }, { i := 2, call := some { cl := true, ins := [], args := [.int .i64 x3.Hash], res := R33 r4, G' := N33 r4 }, dec := some true }],
    .reg [{ i := 1, dec := some true }, { i := 4, xs := [.int .i64 x3.Parent] }, { i := 6, call := some { cl := true, ins := [], args := [.int .i64 x3.Parent, .int .i64 t3], res := R39 r7, G' := N39 r7 }, dec := some true }, { i := 10, xs := [.int .i64 x3.Turn] }, { i := 13, xs := [.int .i64 x3.Parent] }, { i := 16, xs := [.int .i64 x10.Turn] }, { i := 18, dec := some false }, { i := 22, xs := [.int .i64 x3.Turn] }, { i := 23, call := some { cl := true, ins := [], args := [.int .i64 x3.Turn], res := R31 r12, G' := N31 r12 }, dec := some true }, { i := 29, xs := [.int .i64 x3.Parent] }, { i := 31, xs := [.int .i64 x3.Hash] }, { i := 32, call := some { cl := true, ins := [], args := [sl 3 g53 i0, .int .i64 x3.Parent, .int .i64 x3.Hash], res := R40 r14, G' := N40 r14 } }, { i := 34, dec := some false }],
    .reg [],
    .canon [] [0, 23, 24, 25]]) (by kernel_rfl) (P2 ((decide (t3 < t2)) = true) (decide_eq_true h1) <| P2 ((0 : Int) ≤ t3) h2 <| P2 (t3 < (List.length t1 : Int)) (int_lt_of_at (h2) hx3) <| P2 (getCells (List.map g53 t1) (Int.toNat t3) 0 3 = some [.int .i64 x3.Parent, .int .i64 x3.Turn, .int .i64 x3.Hash]) (getCells_map hx3 rfl) <| PI (some [.int .i64 x3.Hash] : Option (List D)) <| PI (x3.Hash : Int) <| P1 (c33 hr4) <| P2 (r4 = true) (h5) <| P2 ((decide (t3 > 0)) = true) (decide_eq_true h6) <| PI (some [.int .i64 x3.Parent] : Option (List D)) <| PI (x3.Parent : Int) <| PI (t3 : Int) <| P1 (c39 hr7) <| P2 (r7 = true) (h8) <| PI (some [.int .i64 x3.Turn] : Option (List D)) <| PI (some [.int .i64 x3.Parent] : Option (List D)) <| P2 ((0 : Int) ≤ x3.Parent) h9 <| P2 (x3.Parent < (List.length i0 : Int)) (int_lt_of_at (h9) hx10) <| P2 (getCells (List.map g53 i0) (Int.toNat x3.Parent) 1 1 = some [.int .i64 x10.Turn]) (getCells_map hx10 rfl) <| P2 (((x3.Turn : Int) != (IntKind.wrap .i64 (x10.Turn + 1))) = false) (bneF h11) <| PI (some [.int .i64 x3.Turn] : Option (List D)) <| PI (x3.Turn : Int) <| P1 (c31 hr12) <| P2 (r12 = true) (h13) <| PI (some [.int .i64 x3.Parent] : Option (List D)) <| PI (some [.int .i64 x3.Hash] : Option (List D)) <| PL g53 i0 <| PI (x3.Parent : Int) <| PI (x3.Hash : Int) <| P1 (c40 hr14) <| P2 (((r14 : Int) != t3) = false) (bneF h15) <| P0) hn)
                (fun h15 H =>
                  eRet (P := Nx X 17 0 K17 Z17 R17 N17 (K17 (.h1 i0 t1 t2 t3)) (Z17 (.h1 i0 t1 t2 t3))) H <| runFin_ok T_ok mixed F17 (cmds := [.reg [{ i := 0, dec := some true }],
    .reg [{ i := 2, xs := [.int .i64 x3.Parent, .int .i64 x3.Turn, .int .i64 x3.Hash] }],
    .reg [{ i := 1, xs := [.int .i64 x3.Hash] }, { i := 2, call := some { cl := true, ins := [], args := [.int .i64 x3.Hash], res := R33 r4, G' := N33 r4 }, dec := some true }],
    .reg [{ i := 1, dec := some true }, { i := 4, xs := [.int .i64 x3.Parent] }, { i := 6, call := some { cl := true, ins := [], args := [.int .i64 x3.Parent, .int .i64 t3], res := R39 r7, G' := N39 r7 }, dec := some true }, { i := 10, xs := [.int .i64 x3.Turn] }, { i := 13, xs := [.int .i64 x3.Parent] }, { i := 16, xs := [.int .i64 x10.Turn] }, { i := 18, dec := some false }, { i := 22, xs := [.int .i64 x3.Turn] }, { i := 23, call := some { cl := true, ins := [], args := [.int .i64 x3.Turn], res := R31 r12, G' := N31 r12 }, dec := some true }, { i := 29, xs := [.int .i64 x3.Parent] }, { i := 31, xs := [.int .i64 x3.Hash] }, { i := 32, call := some { cl := true, ins := [], args := [sl 3 g53 i0, .int .i64 x3.Parent, .int .i64 x3.Hash], res := R40 r14, G' := N40 r14 } }, { i := 34, dec := some true }],
    .reg []]) (by kernel_rfl) (P2 ((decide (t3 < t2)) = true) (decide_eq_true h1) <| P2 ((0 : Int) ≤ t3) h2 <| P2 (t3 < (List.length t1 : Int)) (int_lt_of_at (h2) hx3) <| P2 (getCells (List.map g53 t1) (Int.toNat t3) 0 3 = some [.int .i64 x3.Parent, .int .i64 x3.Turn, .int .i64 x3.Hash]) (getCells_map hx3 rfl) <| PI (some [.int .i64 x3.Hash] : Option (List D)) <| PI (x3.Hash : Int) <| P1 (c33 hr4) <| P2 (r4 = true) (h5) <| P2 ((decide (t3 > 0)) = true) (decide_eq_true h6) <| PI (some [.int .i64 x3.Parent] : Option (List D)) <| PI (x3.Parent : Int) <| PI (t3 : Int) <| P1 (c39 hr7) <| P2 (r7 = true) (h8) <| PI (some [.int .i64 x3.Turn] : Option (List D)) <| PI (some [.int .i64 x3.Parent] : Option (List D)) <| P2 ((0 : Int) ≤ x3.Parent) h9 <| P2 (x3.Parent < (List.length i0 : Int)) (int_lt_of_at (h9) hx10) <| P2 (getCells (List.map g53 i0) (Int.toNat x3.Parent) 1 1 = some [.int .i64 x10.Turn]) (getCells_map hx10 rfl) <| P2 (((x3.Turn : Int) != (IntKind.wrap .i64 (x10.Turn + 1))) = false) (bneF h11) <| PI (some [.int .i64 x3.Turn] : Option (List D)) <| PI (x3.Turn : Int) <| P1 (c31 hr12) <| P2 (r12 = true) (h13) <| PI (some [.int .i64 x3.Parent] : Option (List D)) <| PI (some [.int .i64 x3.Hash] : Option (List D)) <| PL g53 i0 <| PI (x3.Parent : Int) <| PI (x3.Hash : Int) <| P1 (c40 hr14) <| P2 (((r14 : Int) != t3) = true) (bneT h15) <| PI false <| P0)))
              (fun h13 H =>
                eRet (P := Nx X 17 0 K17 Z17 R17 N17 (K17 (.h1 i0 t1 t2 t3)) (Z17 (.h1 i0 t1 t2 t3))) H <| runFin_ok T_ok mixed F17 (cmds := [.reg [{ i := 0, dec := some true }],
    .reg [{ i := 2, xs := [.int .i64 x3.Parent, .int .i64 x3.Turn, .int .i64 x3.Hash] }],
    .reg [{ i := 1, xs := [.int .i64 x3.Hash] }, { i := 2, call := some { cl := true, ins := [], args := [.int .i64 x3.Hash], res := R33 r4, G' := N33 r4 }, dec := some true }],
    .reg [{ i := 1, dec := some true }, { i := 4, xs := [.int .i64 x3.Parent] }, { i := 6, call := some { cl := true, ins := [], args := [.int .i64 x3.Parent, .int .i64 t3], res := R39 r7, G' := N39 r7 }, dec := some true }, { i := 10, xs := [.int .i64 x3.Turn] }, { i := 13, xs := [.int .i64 x3.Parent] }, { i := 16, xs := [.int .i64 x10.Turn] }, { i := 18, dec := some false }, { i := 22, xs := [.int .i64 x3.Turn] }, { i := 23, call := some { cl := true, ins := [], args := [.int .i64 x3.Turn], res := R31 r12, G' := N31 r12 }, dec := some false }],
    .reg []]) (by kernel_rfl) (P2 ((decide (t3 < t2)) = true) (decide_eq_true h1) <| P2 ((0 : Int) ≤ t3) h2 <| P2 (t3 < (List.length t1 : Int)) (int_lt_of_at (h2) hx3) <| P2 (getCells (List.map g53 t1) (Int.toNat t3) 0 3 = some [.int .i64 x3.Parent, .int .i64 x3.Turn, .int .i64 x3.Hash]) (getCells_map hx3 rfl) <| PI (some [.int .i64 x3.Hash] : Option (List D)) <| PI (x3.Hash : Int) <| P1 (c33 hr4) <| P2 (r4 = true) (h5) <| P2 ((decide (t3 > 0)) = true) (decide_eq_true h6) <| PI (some [.int .i64 x3.Parent] : Option (List D)) <| PI (x3.Parent : Int) <| PI (t3 : Int) <| P1 (c39 hr7) <| P2 (r7 = true) (h8) <| PI (some [.int .i64 x3.Turn] : Option (List D)) <| PI (some [.int .i64 x3.Parent] : Option (List D)) <| P2 ((0 : Int) ≤ x3.Parent) h9 <| P2 (x3.Parent < (List.length i0 : Int)) (int_lt_of_at (h9) hx10) <| P2 (getCells (List.map g53 i0) (Int.toNat x3.Parent) 1 1 = some [.int .i64 x10.Turn]) (getCells_map hx10 rfl) <| P2 (((x3.Turn : Int) != (IntKind.wrap .i64 (x10.Turn + 1))) = false) (bneF h11) <| PI (some [.int .i64 x3.Turn] : Option (List D)) <| PI (x3.Turn : Int) <| P1 (c31 hr12) <| P2 (r12 = false) (eqF h13) <| PI false <| P0)))
            (fun h11 H =>
              eRet (P := Nx X 17 0 K17 Z17 R17 N17 (K17 (.h1 i0 t1 t2 t3)) (Z17 (.h1 i0 t1 t2 t3))) H <| runFin_ok T_ok mixed F17 (cmds := [.reg [{ i := 0, dec := some true }],
    .reg [{ i := 2, xs := [.int .i64 x3.Parent, .int .i64 x3.Turn, .int .i64 x3.Hash] }],
    .reg [{ i := 1, xs := [.int .i64 x3.Hash] }, { i := 2, call := some { cl := true, ins := [], args := [.int .i64 x3.Hash], res := R33 r4, G' := N33 r4 }, dec := some true }],
    .reg [{ i := 1, dec := some true }, { i := 4, xs := [.int .i64 x3.Parent] }, { i := 6, call := some { cl := true, ins := [], args := [.int .i64 x3.Parent, .int .i64 t3], res := R39 r7, G' := N39 r7 }, dec := some true }, { i := 10, xs := [.int .i64 x3.Turn] }, { i := 13, xs := [.int .i64 x3.Parent] }, { i := 16, xs := [.int .i64 x10.Turn] }, { i := 18, dec := some true }],
    .reg []]) (by kernel_rfl) (P2 ((decide (t3 < t2)) = true) (decide_eq_true h1) <| P2 ((0 : Int) ≤ t3) h2 <| P2 (t3 < (List.length t1 : Int)) (int_lt_of_at (h2) hx3) <| P2 (getCells (List.map g53 t1) (Int.toNat t3) 0 3 = some [.int .i64 x3.Parent, .int .i64 x3.Turn, .int .i64 x3.Hash]) (getCells_map hx3 rfl) <| PI (some [.int .i64 x3.Hash] : Option (List D)) <| PI (x3.Hash : Int) <| P1 (c33 hr4) <| P2 (r4 = true) (h5) <| P2 ((decide (t3 > 0)) = true) (decide_eq_true h6) <| PI (some [.int .i64 x3.Parent] : Option (List D)) <| PI (x3.Parent : Int) <| PI (t3 : Int) <| P1 (c39 hr7) <| P2 (r7 = true) (h8) <| PI (some [.int .i64 x3.Turn] : Option (List D)) <| PI (some [.int .i64 x3.Parent] : Option (List D)) <| P2 ((0 : Int) ≤ x3.Parent) h9 <| P2 (x3.Parent < (List.length i0 : Int)) (int_lt_of_at (h9) hx10) <| P2 (getCells (List.map g53 i0) (Int.toNat x3.Parent) 1 1 = some [.int .i64 x10.Turn]) (getCells_map hx10 rfl) <| P2 (((x3.Turn : Int) != (IntKind.wrap .i64 (x10.Turn + 1))) = true) (bneT h11) <| PI false <| P0)))
          (fun h8 H =>
            eRet (P := Nx X 17 0 K17 Z17 R17 N17 (K17 (.h1 i0 t1 t2 t3)) (Z17 (.h1 i0 t1 t2 t3))) H <| runFin_ok T_ok mixed F17 (cmds := [.reg [{ i := 0, dec := some true }],
    .reg [{ i := 2, xs := [.int .i64 x3.Parent, .int .i64 x3.Turn, .int .i64 x3.Hash] }],
    .reg [{ i := 1, xs := [.int .i64 x3.Hash] }, { i := 2, call := some { cl := true, ins := [], args := [.int .i64 x3.Hash], res := R33 r4, G' := N33 r4 }, dec := some true }],
    .reg [{ i := 1, dec := some true }, { i := 4, xs := [.int .i64 x3.Parent] }, { i := 6, call := some { cl := true, ins := [], args := [.int .i64 x3.Parent, .int .i64 t3], res := R39 r7, G' := N39 r7 }, dec := some false }],
    .reg []]) (by kernel_rfl) (P2 ((decide (t3 < t2)) = true) (decide_eq_true h1) <| P2 ((0 : Int) ≤ t3) h2 <| P2 (t3 < (List.length t1 : Int)) (int_lt_of_at (h2) hx3) <| P2 (getCells (List.map g53 t1) (Int.toNat t3) 0 3 = some [.int .i64 x3.Parent, .int .i64 x3.Turn, .int .i64 x3.Hash]) (getCells_map hx3 rfl) <| PI (some [.int .i64 x3.Hash] : Option (List D)) <| PI (x3.Hash : Int) <| P1 (c33 hr4) <| P2 (r4 = true) (h5) <| P2 ((decide (t3 > 0)) = true) (decide_eq_true h6) <| PI (some [.int .i64 x3.Parent] : Option (List D)) <| PI (x3.Parent : Int) <| PI (t3 : Int) <| P1 (c39 hr7) <| P2 (r7 = false) (eqF h8) <| PI false <| P0)))
        (fun h6 H =>
          eRet (P := Nx X 17 0 K17 Z17 R17 N17 (K17 (.h1 i0 t1 t2 t3)) (Z17 (.h1 i0 t1 t2 t3))) H fun r hn => run_ok T_ok mixed (cmds := [.reg [{ i := 0, dec := some true }],
    .reg [{ i := 2, xs := [.int .i64 x3.Parent, .int .i64 x3.Turn, .int .i64 x3.Hash] }],
    .reg [{ i := 1, xs := [.int .i64 x3.Hash] }, { i := 2, call := some { cl := true, ins := [], args := [.int .i64 x3.Hash], res := R33 r4, G' := N33 r4 }, dec := some true }],
    .reg [{ i := 1, dec := some false }],
    .reg [],
    .canon [] [0, 23, 24, 25]]) (by kernel_rfl) (P2 ((decide (t3 < t2)) = true) (decide_eq_true h1) <| P2 ((0 : Int) ≤ t3) h2 <| P2 (t3 < (List.length t1 : Int)) (int_lt_of_at (h2) hx3) <| P2 (getCells (List.map g53 t1) (Int.toNat t3) 0 3 = some [.int .i64 x3.Parent, .int .i64 x3.Turn, .int .i64 x3.Hash]) (getCells_map hx3 rfl) <| PI (some [.int .i64 x3.Hash] : Option (List D)) <| PI (x3.Hash : Int) <| P1 (c33 hr4) <| P2 (r4 = true) (h5) <| P2 ((decide (t3 > 0)) = false) (decide_eq_false h6) <| P0) hn))
      (fun h5 H =>
        eRet (P := Nx X 17 0 K17 Z17 R17 N17 (K17 (.h1 i0 t1 t2 t3)) (Z17 (.h1 i0 t1 t2 t3))) H <| runFin_ok T_ok mixed F17 (cmds := [.reg [{ i := 0, dec := some true }],
    .reg [{ i := 2, xs := [.int .i64 x3.Parent, .int .i64 x3.Turn, .int .i64 x3.Hash] }],
    .reg [{ i := 1, xs := [.int .i64 x3.Hash] }, { i := 2, call := some { cl := true, ins := [], args := [.int .i64 x3.Hash], res := R33 r4, G' := N33 r4 }, dec := some false }],
    .reg []]) (by kernel_rfl) (P2 ((decide (t3 < t2)) = true) (decide_eq_true h1) <| P2 ((0 : Int) ≤ t3) h2 <| P2 (t3 < (List.length t1 : Int)) (int_lt_of_at (h2) hx3) <| P2 (getCells (List.map g53 t1) (Int.toNat t3) 0 3 = some [.int .i64 x3.Parent, .int .i64 x3.Turn, .int .i64 x3.Hash]) (getCells_map hx3 rfl) <| PI (some [.int .i64 x3.Hash] : Option (List D)) <| PI (x3.Hash : Int) <| P1 (c33 hr4) <| P2 (r4 = false) (eqF h5) <| PI false <| P0)))
    (fun h1 H =>
      eRet (P := Nx X 17 0 K17 Z17 R17 N17 (K17 (.h1 i0 t1 t2 t3)) (Z17 (.h1 i0 t1 t2 t3))) H <| runFin_ok T_ok mixed F17 (cmds := [.reg [{ i := 0, dec := some false }],
    .reg []]) (by kernel_rfl) (P2 ((decide (t3 < t2)) = false) (decide_eq_false h1) <| PI true <| P0))
theorem w17 : ∀ s r, loop B17 s = some r → Wc X 17 0 (K17 s) (Z17 s) (R17 r) (N17 r) := Nx.all n17
theorem c17 {a0 : (List G53)} {r : Bool} (H : D17 a0 = some r) : Ct X.P X.gl 17 [sl 3 g53 a0] [] (R17 r) (N17 r) :=
  Ct.of F17 (c := b17) (by kernel_rfl) (by kernel_rfl) <|
  eBind H fun r1 hr1 H =>
  eIf H (fun h2 H =>
    eBind H fun x3 hx3 H =>
    eIf H (fun h4 H =>
      eBind H fun x5 hx5 H =>
      eIf H (fun h6 H =>
        run_ok T_ok mixed (cmds := [.reg [],
    .reg [{ i := 2, call := some { cl := true, ins := [], args := [.int .i64 ((List.length a0 : Nat) : Int), .int .i64 1, .int .i64 40], res := R38 r1, G' := N38 r1 }, dec := some true }, { i := 8, xs := [.int .i64 x3.Parent] }, { i := 9, dec := some false }, { i := 15, xs := [.int .i64 x5.Turn] }, { i := 16, dec := some false }],
    .reg [],
    .canon [] [0, 23, 24, 25]]) (by kernel_rfl) (PI (((List.length a0 : Nat) : Int) : Int) <| PI (1 : Int) <| PI (40 : Int) <| P1 (c38 hr1) <| P2 (r1 = true) (h2) <| P2 ((0 : Int) ≤ 0) (by decide) <| P2 (0 < (List.length a0 : Int)) (int_lt_of_at (by decide) hx3) <| P2 (getCells (List.map g53 a0) (Int.toNat 0) 0 1 = some [.int .i64 x3.Parent]) (getCells_map hx3 rfl) <| P2 (((x3.Parent : Int) != (-1)) = false) (bneF h4) <| P2 ((0 : Int) ≤ 0) (by decide) <| P2 (0 < (List.length a0 : Int)) (int_lt_of_at (by decide) hx5) <| P2 (getCells (List.map g53 a0) (Int.toNat 0) 1 1 = some [.int .i64 x5.Turn]) (getCells_map hx5 rfl) <| P2 (((x5.Turn : Int) != 0) = false) (bneF h6) <| P0) (w17 _ _ H))
      (fun h6 H =>
        eRet (P := fun r => Wc X 17 0 _ _ (R17 r) (N17 r)) H <| runFin_ok T_ok mixed F17 (cmds := [.reg [],
    .reg [{ i := 2, call := some { cl := true, ins := [], args := [.int .i64 ((List.length a0 : Nat) : Int), .int .i64 1, .int .i64 40], res := R38 r1, G' := N38 r1 }, dec := some true }, { i := 8, xs := [.int .i64 x3.Parent] }, { i := 9, dec := some false }, { i := 15, xs := [.int .i64 x5.Turn] }, { i := 16, dec := some true }],
    .reg []]) (by kernel_rfl) (PI (((List.length a0 : Nat) : Int) : Int) <| PI (1 : Int) <| PI (40 : Int) <| P1 (c38 hr1) <| P2 (r1 = true) (h2) <| P2 ((0 : Int) ≤ 0) (by decide) <| P2 (0 < (List.length a0 : Int)) (int_lt_of_at (by decide) hx3) <| P2 (getCells (List.map g53 a0) (Int.toNat 0) 0 1 = some [.int .i64 x3.Parent]) (getCells_map hx3 rfl) <| P2 (((x3.Parent : Int) != (-1)) = false) (bneF h4) <| P2 ((0 : Int) ≤ 0) (by decide) <| P2 (0 < (List.length a0 : Int)) (int_lt_of_at (by decide) hx5) <| P2 (getCells (List.map g53 a0) (Int.toNat 0) 1 1 = some [.int .i64 x5.Turn]) (getCells_map hx5 rfl) <| P2 (((x5.Turn : Int) != 0) = true) (bneT h6) <| PI false <| P0)))
    (fun h4 H =>
      eRet (P := fun r => Wc X 17 0 _ _ (R17 r) (N17 r)) H <| runFin_ok T_ok mixed F17 (cmds := [.reg [],
    .reg [{ i := 2, call := some { cl := true, ins := [], args := [.int .i64 ((List.length a0 : Nat) : Int), .int .i64 1, .int .i64 40], res := R38 r1, G' := N38 r1 }, dec := some true }, { i := 8, xs := [.int .i64 x3.Parent] }, { i := 9, dec := some true }],
    .reg []]) (by kernel_rfl) (PI (((List.length a0 : Nat) : Int) : Int) <| PI (1 : Int) <| PI (40 : Int) <| P1 (c38 hr1) <| P2 (r1 = true) (h2) <| P2 ((0 : Int) ≤ 0) (by decide) <| P2 (0 < (List.length a0 : Int)) (int_lt_of_at (by decide) hx3) <| P2 (getCells (List.map g53 a0) (Int.toNat 0) 0 1 = some [.int .i64 x3.Parent]) (getCells_map hx3 rfl) <| P2 (((x3.Parent : Int) != (-1)) = true) (bneT h4) <| PI false <| P0)))
  (fun h2 H =>
    eRet (P := fun r => Wc X 17 0 _ _ (R17 r) (N17 r)) H <| runFin_ok T_ok mixed F17 (cmds := [.reg [],
    .reg [{ i := 2, call := some { cl := true, ins := [], args := [.int .i64 ((List.length a0 : Nat) : Int), .int .i64 1, .int .i64 40], res := R38 r1, G' := N38 r1 }, dec := some false }],
    .reg []]) (by kernel_rfl) (PI (((List.length a0 : Nat) : Int) : Int) <| PI (1 : Int) <| PI (40 : Int) <| P1 (c38 hr1) <| P2 (r1 = false) (eqF h2) <| PI false <| P0))
/-! loop example/g00886/laws eqNode -/
noncomputable def b41 : Code := match Go.Proofs.Try.f41.body with | some c => c | none => .skip
theorem F41 : X.P.funcs[41]? = some Go.Proofs.Try.f41 := by kernel_rfl
def R41 (r : Bool) : List D := [.bool r]
def N41 (r : Bool) : List Root := []
theorem c41 {a0 : G53} {a1 : G53} {r : Bool} (H : D41 a0 a1 = some r) : Ct X.P X.gl 41 [.agg [.int .i64 a0.Parent, .int .i64 a0.Turn, .int .i64 a0.Hash], .agg [.int .i64 a1.Parent, .int .i64 a1.Turn, .int .i64 a1.Hash]] [] (R41 r) (N41 r) :=
  Ct.of F41 (c := b41) (by kernel_rfl) (by kernel_rfl) <|
  eIf H (fun h1 H =>
    eIf H (fun h2 H =>
      eIf H (fun h3 H =>
        eRet (P := fun r => Wc X 41 0 _ _ (R41 r) (N41 r)) H <| runFin_ok T_ok mixed F41 (cmds := [.reg [],
    .reg [{ i := 1, xs := [.int .i64 a0.Parent] }, { i := 3, xs := [.int .i64 a1.Parent] }, { i := 4, dec := some false }],
    .reg [{ i := 1, xs := [.int .i64 a0.Turn] }, { i := 3, xs := [.int .i64 a1.Turn] }, { i := 4, dec := some false }],
    .reg [{ i := 1, xs := [.int .i64 a0.Hash] }, { i := 3, xs := [.int .i64 a1.Hash] }, { i := 4, dec := some false }],
    .reg []]) (by kernel_rfl) (PI (some [.int .i64 a0.Parent] : Option (List D)) <| PI (some [.int .i64 a1.Parent] : Option (List D)) <| P2 (((a0.Parent : Int) != a1.Parent) = false) (bneF h1) <| PI (some [.int .i64 a0.Turn] : Option (List D)) <| PI (some [.int .i64 a1.Turn] : Option (List D)) <| P2 (((a0.Turn : Int) != a1.Turn) = false) (bneF h2) <| PI (some [.int .i64 a0.Hash] : Option (List D)) <| PI (some [.int .i64 a1.Hash] : Option (List D)) <| P2 (((a0.Hash : Int) != a1.Hash) = false) (bneF h3) <| PI true <| P0))
      (fun h3 H =>
        eRet (P := fun r => Wc X 41 0 _ _ (R41 r) (N41 r)) H <| runFin_ok T_ok mixed F41 (cmds := [.reg [],
    .reg [{ i := 1, xs := [.int .i64 a0.Parent] }, { i := 3, xs := [.int .i64 a1.Parent] }, { i := 4, dec := some false }],
    .reg [{ i := 1, xs := [.int .i64 a0.Turn] }, { i := 3, xs := [.int .i64 a1.Turn] }, { i := 4, dec := some false }],
    .reg [{ i := 1, xs := [.int .i64 a0.Hash] }, { i := 3, xs := [.int .i64 a1.Hash] }, { i := 4, dec := some true }],
    .reg []]) (by kernel_rfl) (PI (some [.int .i64 a0.Parent] : Option (List D)) <| PI (some [.int .i64 a1.Parent] : Option (List D)) <| P2 (((a0.Parent : Int) != a1.Parent) = false) (bneF h1) <| PI (some [.int .i64 a0.Turn] : Option (List D)) <| PI (some [.int .i64 a1.Turn] : Option (List D)) <| P2 (((a0.Turn : Int) != a1.Turn) = false) (bneF h2) <| PI (some [.int .i64 a0.Hash] : Option (List D)) <| PI (some [.int .i64 a1.Hash] : Option (List D)) <| P2 (((a0.Hash : Int) != a1.Hash) = true) (bneT h3) <| PI false <| P0)))
    (fun h2 H =>
      eRet (P := fun r => Wc X 41 0 _ _ (R41 r) (N41 r)) H <| runFin_ok T_ok mixed F41 (cmds := [.reg [],
    .reg [{ i := 1, xs := [.int .i64 a0.Parent] }, { i := 3, xs := [.int .i64 a1.Parent] }, { i := 4, dec := some false }],
    .reg [{ i := 1, xs := [.int .i64 a0.Turn] }, { i := 3, xs := [.int .i64 a1.Turn] }, { i := 4, dec := some true }],
    .reg []]) (by kernel_rfl) (PI (some [.int .i64 a0.Parent] : Option (List D)) <| PI (some [.int .i64 a1.Parent] : Option (List D)) <| P2 (((a0.Parent : Int) != a1.Parent) = false) (bneF h1) <| PI (some [.int .i64 a0.Turn] : Option (List D)) <| PI (some [.int .i64 a1.Turn] : Option (List D)) <| P2 (((a0.Turn : Int) != a1.Turn) = true) (bneT h2) <| PI false <| P0)))
  (fun h1 H =>
    eRet (P := fun r => Wc X 41 0 _ _ (R41 r) (N41 r)) H <| runFin_ok T_ok mixed F41 (cmds := [.reg [],
    .reg [{ i := 1, xs := [.int .i64 a0.Parent] }, { i := 3, xs := [.int .i64 a1.Parent] }, { i := 4, dec := some true }],
    .reg []]) (by kernel_rfl) (PI (some [.int .i64 a0.Parent] : Option (List D)) <| PI (some [.int .i64 a1.Parent] : Option (List D)) <| P2 (((a0.Parent : Int) != a1.Parent) = true) (bneT h1) <| PI false <| P0))
/-! loop example/g00886/laws eqNodeS -/
noncomputable def b18 : Code := match Go.Proofs.Try.f18.body with | some c => c | none => .skip
theorem F18 : X.P.funcs[18]? = some Go.Proofs.Try.f18 := by kernel_rfl
def R18 (r : Bool) : List D := [.bool r]
def N18 (r : Bool) : List Root := []
noncomputable def K18 : S18 → List Item
  | .h1 .. => nav 300 3 [false] [.code b18]
def Z18 : S18 → St
  | .h1 va0 b1 i2 => ⟨sts 27 [(0, sl 3 g53 va0), (1, sl 3 g53 b1), (5, .int .i64 i2)], []⟩
theorem n18 : ∀ s o, B18 s = some o → Nx X 18 0 K18 Z18 R18 N18 (K18 s) (Z18 s) o
  | .h1 va0 b1 i2, o, H =>
    eIf H (fun h1 H =>
      eCk H fun h2 H =>
      eBind H fun x3 hx3 H =>
      eCk H fun h4 H =>
      eBind H fun x5 hx5 H =>
      eBind H fun r6 hr6 H =>
      eIf H (fun h7 H =>
        eRet (P := Nx X 18 0 K18 Z18 R18 N18 (K18 (.h1 va0 b1 i2)) (Z18 (.h1 va0 b1 i2))) H fun r hn => run_ok T_ok mixed (cmds := [.reg [{ i := 3, dec := some true }],
    .reg [{ i := 3, xs := [.int .i64 x3.Parent, .int .i64 x3.Turn, .int .i64 x3.Hash] }, { i := 7, xs := [.int .i64 x5.Parent, .int .i64 x5.Turn, .int .i64 x5.Hash] }, { i := 8, call := some { cl := true, ins := [], args := [.agg [.int .i64 x3.Parent, .int .i64 x3.Turn, .int .i64 x3.Hash], .agg [.int .i64 x5.Parent, .int .i64 x5.Turn, .int .i64 x5.Hash]], res := R41 r6, G' := N41 r6 }, dec := some true }],
    .reg [],
    .canon [] [0, 1, 5]]) (by kernel_rfl) (P2 ((decide (i2 < ((List.length va0 : Nat) : Int))) = true) (decide_eq_true h1) <| P2 ((0 : Int) ≤ i2) h2 <| P2 (i2 < (List.length va0 : Int)) (int_lt_of_at (h2) hx3) <| P2 (getCells (List.map g53 va0) (Int.toNat i2) 0 3 = some [.int .i64 x3.Parent, .int .i64 x3.Turn, .int .i64 x3.Hash]) (getCells_map hx3 rfl) <| P2 ((0 : Int) ≤ i2) h4 <| P2 (i2 < (List.length b1 : Int)) (int_lt_of_at (h4) hx5) <| P2 (getCells (List.map g53 b1) (Int.toNat i2) 0 3 = some [.int .i64 x5.Parent, .int .i64 x5.Turn, .int .i64 x5.Hash]) (getCells_map hx5 rfl) <| PI (x3.Parent : Int) <| PI (x3.Turn : Int) <| PI (x3.Hash : Int) <| PI (x5.Parent : Int) <| PI (x5.Turn : Int) <| PI (x5.Hash : Int) <| P1 (c41 hr6) <| P2 (r6 = true) (h7) <| P0) hn)
      (fun h7 H =>
        eRet (P := Nx X 18 0 K18 Z18 R18 N18 (K18 (.h1 va0 b1 i2)) (Z18 (.h1 va0 b1 i2))) H <| runFin_ok T_ok mixed F18 (cmds := [.reg [{ i := 3, dec := some true }],
    .reg [{ i := 3, xs := [.int .i64 x3.Parent, .int .i64 x3.Turn, .int .i64 x3.Hash] }, { i := 7, xs := [.int .i64 x5.Parent, .int .i64 x5.Turn, .int .i64 x5.Hash] }, { i := 8, call := some { cl := true, ins := [], args := [.agg [.int .i64 x3.Parent, .int .i64 x3.Turn, .int .i64 x3.Hash], .agg [.int .i64 x5.Parent, .int .i64 x5.Turn, .int .i64 x5.Hash]], res := R41 r6, G' := N41 r6 }, dec := some false }],
    .reg []]) (by kernel_rfl) (P2 ((decide (i2 < ((List.length va0 : Nat) : Int))) = true) (decide_eq_true h1) <| P2 ((0 : Int) ≤ i2) h2 <| P2 (i2 < (List.length va0 : Int)) (int_lt_of_at (h2) hx3) <| P2 (getCells (List.map g53 va0) (Int.toNat i2) 0 3 = some [.int .i64 x3.Parent, .int .i64 x3.Turn, .int .i64 x3.Hash]) (getCells_map hx3 rfl) <| P2 ((0 : Int) ≤ i2) h4 <| P2 (i2 < (List.length b1 : Int)) (int_lt_of_at (h4) hx5) <| P2 (getCells (List.map g53 b1) (Int.toNat i2) 0 3 = some [.int .i64 x5.Parent, .int .i64 x5.Turn, .int .i64 x5.Hash]) (getCells_map hx5 rfl) <| PI (x3.Parent : Int) <| PI (x3.Turn : Int) <| PI (x3.Hash : Int) <| PI (x5.Parent : Int) <| PI (x5.Turn : Int) <| PI (x5.Hash : Int) <| P1 (c41 hr6) <| P2 (r6 = false) (eqF h7) <| PI false <| P0)))
    (fun h1 H =>
      eRet (P := Nx X 18 0 K18 Z18 R18 N18 (K18 (.h1 va0 b1 i2)) (Z18 (.h1 va0 b1 i2))) H <| runFin_ok T_ok mixed F18 (cmds := [.reg [{ i := 3, dec := some false }],
    .reg []]) (by kernel_rfl) (P2 ((decide (i2 < ((List.length va0 : Nat) : Int))) = false) (decide_eq_false h1) <| PI true <| P0))
theorem w18 : ∀ s r, loop B18 s = some r → Wc X 18 0 (K18 s) (Z18 s) (R18 r) (N18 r) := Nx.all n18
theorem c18 {a0 : (List G53)} {a1 : (List G53)} {r : Bool} (H : D18 a0 a1 = some r) : Ct X.P X.gl 18 [sl 3 g53 a0, sl 3 g53 a1] [] (R18 r) (N18 r) :=
  Ct.of F18 (c := b18) (by kernel_rfl) (by kernel_rfl) <|
  eIf H (fun h1 H =>
    run_ok T_ok mixed (cmds := [.reg [],
    .reg [{ i := 4, dec := some false }],
    .reg [],
    .canon [] [0, 1, 5]]) (by kernel_rfl) (P2 (((((List.length a0 : Nat) : Int) : Int) != ((List.length a1 : Nat) : Int)) = false) (bneF h1) <| P0) (w18 _ _ H))
  (fun h1 H =>
    eRet (P := fun r => Wc X 18 0 _ _ (R18 r) (N18 r)) H <| runFin_ok T_ok mixed F18 (cmds := [.reg [],
    .reg [{ i := 4, dec := some true }],
    .reg []]) (by kernel_rfl) (P2 (((((List.length a0 : Nat) : Int) : Int) != ((List.length a1 : Nat) : Int)) = true) (bneT h1) <| PI false <| P0))
/-! loop example/g00886/laws FnExactIsTree -/
noncomputable def b4 : Code := match Go.Proofs.Try.f4.body with | some c => c | none => .skip
theorem F4 : X.P.funcs[4]? = some Go.Proofs.Try.f4 := by kernel_rfl
def R4 (r : Bool) : List D := [.bool r]
def N4 (r : Bool) : List Root := []
theorem c4 {a0 : (List G55)} {r : Bool} (H : D4 a0 = some r) : Ct X.P X.gl 4 [sl 3 g55 a0] [] (R4 r) (N4 r) :=
  Ct.of F4 (c := b4) (by kernel_rfl) (by kernel_rfl) <|
  eBind H fun r1 hr1 H =>
  eIf H (fun h2 H =>
    eRet (P := fun r => Wc X 4 0 _ _ (R4 r) (N4 r)) H <| runFin_ok T_ok mixed F4 (cmds := [.reg [],
    .reg [],
    .reg [{ i := 2, call := some { cl := true, ins := [], args := [sl 3 g55 a0, .int .i64 1048576], res := R14 r1, G' := N14 r1 } }],
    .reg [{ i := 1, dec := some true }],
    .reg []]) (by kernel_rfl) (PL g55 a0 <| PI (1048576 : Int) <| P1 (c14 hr1) <| P2 ((decide (r1 < 0)) = true) (decide_eq_true h2) <| PI true <| P0))
  (fun h2 H =>
    eBind H fun r3 hr3 H =>
    eBind H fun r4 hr4 H =>
    eBind H fun r5 hr5 H =>
    eBind H fun r6 hr6 H =>
    eIf H (fun h7 H =>
      eRet (P := fun r => Wc X 4 0 _ _ (R4 r) (N4 r)) H <| runFin_ok T_ok mixed F4 (cmds := [.reg [],
    .reg [],
    .reg [{ i := 2, call := some { cl := true, ins := [], args := [sl 3 g55 a0, .int .i64 1048576], res := R14 r1, G' := N14 r1 } }],
    .reg [{ i := 1, dec := some false }],
    .reg [{ i := 1, call := some { cl := true, ins := [], args := [sl 3 g55 a0], res := R16 r3, G' := N16 r3 } }, { i := 2, call := some { cl := false, ins := [], args := [sl 3 g53 r3], res := R15 r4, G' := N15 r4 } }],
    .reg [{ i := 1, call := some { cl := true, ins := [], args := [sl 3 g55 a0], res := R16 r5, G' := N16 r5 } }],
    .reg [{ i := 1, call := some { cl := false, ins := [], args := [sl 3 g53 r5], res := R17 r6, G' := N17 r6 } }],
    .reg [{ i := 2, dec := some true }],
    .reg []]) (by kernel_rfl) (PL g55 a0 <| PI (1048576 : Int) <| P1 (c14 hr1) <| P2 ((decide (r1 < 0)) = false) (decide_eq_false h2) <| PL g55 a0 <| P1 (c16 hr3) <| PL g53 r3 <| P1 (c15 hr4) <| PL g55 a0 <| P1 (c16 hr5) <| PL g53 r5 <| P1 (c17 hr6) <| P2 ((!(r6 == r4)) = true) (h7) <| PI false <| P0))
    (fun h7 H =>
      eBind H fun r8 hr8 H =>
      eBind H fun r9 hr9 H =>
      eIf H (fun h10 H =>
        eRet (P := fun r => Wc X 4 0 _ _ (R4 r) (N4 r)) H <| runFin_ok T_ok mixed F4 (cmds := [.reg [],
    .reg [],
    .reg [{ i := 2, call := some { cl := true, ins := [], args := [sl 3 g55 a0, .int .i64 1048576], res := R14 r1, G' := N14 r1 } }],
    .reg [{ i := 1, dec := some false }],
    .reg [{ i := 1, call := some { cl := true, ins := [], args := [sl 3 g55 a0], res := R16 r3, G' := N16 r3 } }, { i := 2, call := some { cl := false, ins := [], args := [sl 3 g53 r3], res := R15 r4, G' := N15 r4 } }],
    .reg [{ i := 1, call := some { cl := true, ins := [], args := [sl 3 g55 a0], res := R16 r5, G' := N16 r5 } }],
    .reg [{ i := 1, call := some { cl := false, ins := [], args := [sl 3 g53 r5], res := R17 r6, G' := N17 r6 } }],
    .reg [{ i := 2, dec := some false }],
    .reg [{ i := 2, call := some { cl := true, ins := [], args := [sl 3 g55 a0], res := R16 r8, G' := N16 r8 } }, { i := 3, call := some { cl := false, ins := [], args := [sl 3 g53 r5, sl 3 g53 r8], res := R18 r9, G' := N18 r9 }, dec := some true }],
    .reg []]) (by kernel_rfl) (PL g55 a0 <| PI (1048576 : Int) <| P1 (c14 hr1) <| P2 ((decide (r1 < 0)) = false) (decide_eq_false h2) <| PL g55 a0 <| P1 (c16 hr3) <| PL g53 r3 <| P1 (c15 hr4) <| PL g55 a0 <| P1 (c16 hr5) <| PL g53 r5 <| P1 (c17 hr6) <| P2 ((!(r6 == r4)) = false) (eqF h7) <| PL g55 a0 <| P1 (c16 hr8) <| PL g53 r5 <| PL g53 r8 <| P1 (c18 hr9) <| P2 (r9 = true) (h10) <| PI true <| P0))
      (fun h10 H =>
        eRet (P := fun r => Wc X 4 0 _ _ (R4 r) (N4 r)) H <| runFin_ok T_ok mixed F4 (cmds := [.reg [],
    .reg [],
    .reg [{ i := 2, call := some { cl := true, ins := [], args := [sl 3 g55 a0, .int .i64 1048576], res := R14 r1, G' := N14 r1 } }],
    .reg [{ i := 1, dec := some false }],
    .reg [{ i := 1, call := some { cl := true, ins := [], args := [sl 3 g55 a0], res := R16 r3, G' := N16 r3 } }, { i := 2, call := some { cl := false, ins := [], args := [sl 3 g53 r3], res := R15 r4, G' := N15 r4 } }],
    .reg [{ i := 1, call := some { cl := true, ins := [], args := [sl 3 g55 a0], res := R16 r5, G' := N16 r5 } }],
    .reg [{ i := 1, call := some { cl := false, ins := [], args := [sl 3 g53 r5], res := R17 r6, G' := N17 r6 } }],
    .reg [{ i := 2, dec := some false }],
    .reg [{ i := 2, call := some { cl := true, ins := [], args := [sl 3 g55 a0], res := R16 r8, G' := N16 r8 } }, { i := 3, call := some { cl := false, ins := [], args := [sl 3 g53 r5, sl 3 g53 r8], res := R18 r9, G' := N18 r9 }, dec := some false }],
    .reg []]) (by kernel_rfl) (PL g55 a0 <| PI (1048576 : Int) <| P1 (c14 hr1) <| P2 ((decide (r1 < 0)) = false) (decide_eq_false h2) <| PL g55 a0 <| P1 (c16 hr3) <| PL g53 r3 <| P1 (c15 hr4) <| PL g55 a0 <| P1 (c16 hr5) <| PL g53 r5 <| P1 (c17 hr6) <| P2 ((!(r6 == r4)) = false) (eqF h7) <| PL g55 a0 <| P1 (c16 hr8) <| PL g53 r5 <| PL g53 r8 <| P1 (c18 hr9) <| P2 (r9 = false) (eqF h10) <| PI false <| P0))))
/-! loop example/g00886/spec nFind -/
noncomputable def b42 : Code := match Go.Proofs.Try.f42.body with | some c => c | none => .skip
theorem F42 : X.P.funcs[42]? = some Go.Proofs.Try.f42 := by kernel_rfl
def R42 (r : Int) : List D := [.int .i64 r]
def N42 (r : Int) : List Root := []
noncomputable def K42 : S42 → List Item
  | .h1 .. => nav 300 2 [] [.code b42]
def Z42 : S42 → St
  | .h1 key0 t1 t2 t3 => ⟨sts 20 [(1, .int .i64 key0), (7, sl 3 g46 t1), (8, .int .i64 t2), (9, .int .i64 t3)], []⟩
theorem n42 : ∀ s o, B42 s = some o → Nx X 42 0 K42 Z42 R42 N42 (K42 s) (Z42 s) o
  | .h1 key0 t1 t2 t3, o, H =>
    eIf H (fun h1 H =>
      eCk H fun h2 H =>
      eBind H fun x3 hx3 H =>
      eBind H fun r4 hr4 H =>
      eIf H (fun h5 H =>
        eRet (P := Nx X 42 0 K42 Z42 R42 N42 (K42 (.h1 key0 t1 t2 t3)) (Z42 (.h1 key0 t1 t2 t3))) H <| runFin_ok T_ok mixed F42 (cmds := [.reg [{ i := 0, dec := some true }],
    .reg [{ i := 2, xs := [.int .i64 x3.Turn, .int .i64 x3.Side, .int .i64 x3.Seal] }],
    .reg [{ i := 0, xs := [.int .i64 x3.Turn, .int .i64 x3.Side, .int .i64 x3.Seal] }, { i := 1, call := some { cl := true, ins := [], args := [.agg [.int .i64 x3.Turn, .int .i64 x3.Side, .int .i64 x3.Seal]], res := R52 r4, G' := N52 r4 } }, { i := 3, dec := some true }],
    .reg []]) (by kernel_rfl) (P2 ((decide (t3 < t2)) = true) (decide_eq_true h1) <| P2 ((0 : Int) ≤ t3) h2 <| P2 (t3 < (List.length t1 : Int)) (int_lt_of_at (h2) hx3) <| P2 (getCells (List.map g46 t1) (Int.toNat t3) 0 3 = some [.int .i64 x3.Turn, .int .i64 x3.Side, .int .i64 x3.Seal]) (getCells_map hx3 rfl) <| PI (some [.int .i64 x3.Turn, .int .i64 x3.Side, .int .i64 x3.Seal] : Option (List D)) <| PI (x3.Turn : Int) <| PI (x3.Side : Int) <| PI (x3.Seal : Int) <| P1 (c52 hr4) <| P2 (((r4 : Int) == key0) = true) (beqT h5) <| PI (t3 : Int) <| P0))
      (fun h5 H =>
        eRet (P := Nx X 42 0 K42 Z42 R42 N42 (K42 (.h1 key0 t1 t2 t3)) (Z42 (.h1 key0 t1 t2 t3))) H fun r hn => run_ok T_ok mixed (cmds := [.reg [{ i := 0, dec := some true }],
    .reg [{ i := 2, xs := [.int .i64 x3.Turn, .int .i64 x3.Side, .int .i64 x3.Seal] }],
    .reg [{ i := 0, xs := [.int .i64 x3.Turn, .int .i64 x3.Side, .int .i64 x3.Seal] }, { i := 1, call := some { cl := true, ins := [], args := [.agg [.int .i64 x3.Turn, .int .i64 x3.Side, .int .i64 x3.Seal]], res := R52 r4, G' := N52 r4 } }, { i := 3, dec := some false }],
    .reg [],
    .canon [] [1, 7, 8, 9]]) (by kernel_rfl) (P2 ((decide (t3 < t2)) = true) (decide_eq_true h1) <| P2 ((0 : Int) ≤ t3) h2 <| P2 (t3 < (List.length t1 : Int)) (int_lt_of_at (h2) hx3) <| P2 (getCells (List.map g46 t1) (Int.toNat t3) 0 3 = some [.int .i64 x3.Turn, .int .i64 x3.Side, .int .i64 x3.Seal]) (getCells_map hx3 rfl) <| PI (some [.int .i64 x3.Turn, .int .i64 x3.Side, .int .i64 x3.Seal] : Option (List D)) <| PI (x3.Turn : Int) <| PI (x3.Side : Int) <| PI (x3.Seal : Int) <| P1 (c52 hr4) <| P2 (((r4 : Int) == key0) = false) (beqF h5) <| P0) hn))
    (fun h1 H =>
      eRet (P := Nx X 42 0 K42 Z42 R42 N42 (K42 (.h1 key0 t1 t2 t3)) (Z42 (.h1 key0 t1 t2 t3))) H <| runFin_ok T_ok mixed F42 (cmds := [.reg [{ i := 0, dec := some false }],
    .reg []]) (by kernel_rfl) (P2 ((decide (t3 < t2)) = false) (decide_eq_false h1) <| PI ((-1) : Int) <| P0))
theorem w42 : ∀ s r, loop B42 s = some r → Wc X 42 0 (K42 s) (Z42 s) (R42 r) (N42 r) := Nx.all n42
theorem c42 {a0 : (List G46)} {a1 : Int} {r : Int} (H : D42 a0 a1 = some r) : Ct X.P X.gl 42 [sl 3 g46 a0, .int .i64 a1] [] (R42 r) (N42 r) :=
  Ct.of F42 (c := b42) (by kernel_rfl) (by kernel_rfl) <|
  run_ok T_ok mixed (cmds := [.reg [],
    .reg [],
    .canon [] [1, 7, 8, 9]]) (by kernel_rfl) (P0) (w42 _ _ H)
/-! loop example/g00886/spec NextDue -/
noncomputable def b19 : Code := match Go.Proofs.Try.f19.body with | some c => c | none => .skip
theorem F19 : X.P.funcs[19]? = some Go.Proofs.Try.f19 := by kernel_rfl
def R19 (r : Int × Int × Bool) : List D := [.int .i64 r.1, .int .i64 r.2.1, .bool r.2.2]
def N19 (r : Int × Int × Bool) : List Root := []
noncomputable def K19 : S19 → List Item
  | .h1 .. => nav 300 3 [false] [.code b19]
def Z19 : S19 → St
  | .h1 l0 key1 => ⟨sts 19 [(0, sl 3 g46 l0), (5, .int .i64 key1)], []⟩
theorem n19 : ∀ s o, B19 s = some o → Nx X 19 0 K19 Z19 R19 N19 (K19 s) (Z19 s) o
  | .h1 l0 key1, o, H =>
    eBind H fun r1 hr1 H =>
    eIf H (fun h2 H =>
      eRet (P := Nx X 19 0 K19 Z19 R19 N19 (K19 (.h1 l0 key1)) (Z19 (.h1 l0 key1))) H fun r hn => run_ok T_ok mixed (cmds := [.reg [{ i := 2, call := some { cl := true, ins := [], args := [sl 3 g46 l0, .int .i64 key1], res := R42 r1, G' := N42 r1 } }, { i := 3, dec := some true }],
    .reg [],
    .canon [] [0, 5]]) (by kernel_rfl) (PL g46 l0 <| PI (key1 : Int) <| P1 (c42 hr1) <| P2 ((decide (r1 ≥ 0)) = true) (decide_eq_true h2) <| P0) hn)
    (fun h2 H =>
      eRet (P := Nx X 19 0 K19 Z19 R19 N19 (K19 (.h1 l0 key1)) (Z19 (.h1 l0 key1))) H <| runFin_ok T_ok mixed F19 (cmds := [.reg [{ i := 2, call := some { cl := true, ins := [], args := [sl 3 g46 l0, .int .i64 key1], res := R42 r1, G' := N42 r1 } }, { i := 3, dec := some false }],
    .reg []]) (by kernel_rfl) (PL g46 l0 <| PI (key1 : Int) <| P1 (c42 hr1) <| P2 ((decide (r1 ≥ 0)) = false) (decide_eq_false h2) <| P2 (¬ (2 : Int) = 0) (by decide) <| P2 (¬ (2 : Int) = 0) (by decide) <| PI (IntKind.wrap .i64 (Int.tdiv key1 2) : Int) <| PI (Int.tmod key1 2 : Int) <| PI true <| P0))
theorem w19 : ∀ s r, loop B19 s = some r → Wc X 19 0 (K19 s) (Z19 s) (R19 r) (N19 r) := Nx.all n19
theorem c19 {a0 : (List G46)} {r : Int × Int × Bool} (H : D19 a0 = some r) : Ct X.P X.gl 19 [sl 3 g46 a0] [] (R19 r) (N19 r) :=
  Ct.of F19 (c := b19) (by kernel_rfl) (by kernel_rfl) <|
  eBind H fun r1 hr1 H =>
  eIf H (fun h2 H =>
    run_ok T_ok mixed (cmds := [.reg [],
    .reg [{ i := 1, call := some { cl := true, ins := [], args := [sl 3 g46 a0], res := R29 r1, G' := N29 r1 }, dec := some true }],
    .reg [],
    .canon [] [0, 5]]) (by kernel_rfl) (PL g46 a0 <| P1 (c29 hr1) <| P2 (r1 = true) (h2) <| P0) (w19 _ _ H))
  (fun h2 H =>
    eRet (P := fun r => Wc X 19 0 _ _ (R19 r) (N19 r)) H <| runFin_ok T_ok mixed F19 (cmds := [.reg [],
    .reg [{ i := 1, call := some { cl := true, ins := [], args := [sl 3 g46 a0], res := R29 r1, G' := N29 r1 }, dec := some false }],
    .reg []]) (by kernel_rfl) (PL g46 a0 <| P1 (c29 hr1) <| P2 (r1 = false) (eqF h2) <| PI (0 : Int) <| PI (0 : Int) <| PI false <| P0))
/-! loop example/g00886/impl NextDue -/
noncomputable def b20 : Code := match Go.Proofs.Try.f20.body with | some c => c | none => .skip
theorem F20 : X.P.funcs[20]? = some Go.Proofs.Try.f20 := by kernel_rfl
def R20 (r : Int × Int × Bool) : List D := [.int .i64 r.1, .int .i64 r.2.1, .bool r.2.2]
def N20 (r : Int × Int × Bool) : List Root := []
noncomputable def K20 : S20 → List Item
  | .h1 .. => nav 300 4 [false] [.code b20]
def Z20 : S20 → St
  | .h1 turn0 side1 t2 t3 t4 => ⟨sts 36 [(5, .int .i64 turn0), (6, .int .i64 side1), (12, sl 3 g46 t2), (13, .int .i64 t3), (14, .int .i64 t4)], []⟩
theorem n20 : ∀ s o, B20 s = some o → Nx X 20 0 K20 Z20 R20 N20 (K20 s) (Z20 s) o
  | .h1 turn0 side1 t2 t3 t4, o, H =>
    eIf H (fun h1 H =>
      eCk H fun h2 H =>
      eBind H fun x3 hx3 H =>
      eIf H (fun h4 H =>
        eIf H (fun h5 H =>
          eRet (P := Nx X 20 0 K20 Z20 R20 N20 (K20 (.h1 turn0 side1 t2 t3 t4)) (Z20 (.h1 turn0 side1 t2 t3 t4))) H fun r hn => run_ok T_ok mixed (cmds := [.reg [{ i := 0, dec := some true }],
    .reg [{ i := 1, xs := [.int .i64 x3.Turn, .int .i64 x3.Side, .int .i64 x3.Seal] }],
    .reg [{ i := 1, xs := [.int .i64 x3.Turn] }, { i := 3, dec := some false }, { i := 6, xs := [.int .i64 x3.Side] }, { i := 8, dec := some false }],
    .reg [],
    .reg [],
    .canon [] [5, 6, 12, 13, 14]]) (by kernel_rfl) (P2 ((decide (t4 < t3)) = true) (decide_eq_true h1) <| P2 ((0 : Int) ≤ t4) h2 <| P2 (t4 < (List.length t2 : Int)) (int_lt_of_at (h2) hx3) <| P2 (getCells (List.map g46 t2) (Int.toNat t4) 0 3 = some [.int .i64 x3.Turn, .int .i64 x3.Side, .int .i64 x3.Seal]) (getCells_map hx3 rfl) <| PI (some [.int .i64 x3.Turn] : Option (List D)) <| P2 (((x3.Turn : Int) != turn0) = false) (bneF h4) <| PI (some [.int .i64 x3.Side] : Option (List D)) <| P2 (((x3.Side : Int) != side1) = false) (bneF h5) <| P0) hn)
        (fun h5 H =>
          eRet (P := Nx X 20 0 K20 Z20 R20 N20 (K20 (.h1 turn0 side1 t2 t3 t4)) (Z20 (.h1 turn0 side1 t2 t3 t4))) H <| runFin_ok T_ok mixed F20 (cmds := [.reg [{ i := 0, dec := some true }],
    .reg [{ i := 1, xs := [.int .i64 x3.Turn, .int .i64 x3.Side, .int .i64 x3.Seal] }],
    .reg [{ i := 1, xs := [.int .i64 x3.Turn] }, { i := 3, dec := some false }, { i := 6, xs := [.int .i64 x3.Side] }, { i := 8, dec := some true }],
    .reg []]) (by kernel_rfl) (P2 ((decide (t4 < t3)) = true) (decide_eq_true h1) <| P2 ((0 : Int) ≤ t4) h2 <| P2 (t4 < (List.length t2 : Int)) (int_lt_of_at (h2) hx3) <| P2 (getCells (List.map g46 t2) (Int.toNat t4) 0 3 = some [.int .i64 x3.Turn, .int .i64 x3.Side, .int .i64 x3.Seal]) (getCells_map hx3 rfl) <| PI (some [.int .i64 x3.Turn] : Option (List D)) <| P2 (((x3.Turn : Int) != turn0) = false) (bneF h4) <| PI (some [.int .i64 x3.Side] : Option (List D)) <| P2 (((x3.Side : Int) != side1) = true) (bneT h5) <| PI (turn0 : Int) <| PI (side1 : Int) <| PI true <| P0)))
      (fun h4 H =>
        eRet (P := Nx X 20 0 K20 Z20 R20 N20 (K20 (.h1 turn0 side1 t2 t3 t4)) (Z20 (.h1 turn0 side1 t2 t3 t4))) H <| runFin_ok T_ok mixed F20 (cmds := [.reg [{ i := 0, dec := some true }],
    .reg [{ i := 1, xs := [.int .i64 x3.Turn, .int .i64 x3.Side, .int .i64 x3.Seal] }],
    .reg [{ i := 1, xs := [.int .i64 x3.Turn] }, { i := 3, dec := some true }],
    .reg []]) (by kernel_rfl) (P2 ((decide (t4 < t3)) = true) (decide_eq_true h1) <| P2 ((0 : Int) ≤ t4) h2 <| P2 (t4 < (List.length t2 : Int)) (int_lt_of_at (h2) hx3) <| P2 (getCells (List.map g46 t2) (Int.toNat t4) 0 3 = some [.int .i64 x3.Turn, .int .i64 x3.Side, .int .i64 x3.Seal]) (getCells_map hx3 rfl) <| PI (some [.int .i64 x3.Turn] : Option (List D)) <| P2 (((x3.Turn : Int) != turn0) = true) (bneT h4) <| PI (turn0 : Int) <| PI (side1 : Int) <| PI true <| P0)))
    (fun h1 H =>
      eRet (P := Nx X 20 0 K20 Z20 R20 N20 (K20 (.h1 turn0 side1 t2 t3 t4)) (Z20 (.h1 turn0 side1 t2 t3 t4))) H <| runFin_ok T_ok mixed F20 (cmds := [.reg [{ i := 0, dec := some false }],
    .reg []]) (by kernel_rfl) (P2 ((decide (t4 < t3)) = false) (decide_eq_false h1) <| PI (turn0 : Int) <| PI (side1 : Int) <| PI true <| P0))
theorem w20 : ∀ s r, loop B20 s = some r → Wc X 20 0 (K20 s) (Z20 s) (R20 r) (N20 r) := Nx.all n20
theorem c20 {a0 : (List G46)} {r : Int × Int × Bool} (H : D20 a0 = some r) : Ct X.P X.gl 20 [sl 3 g46 a0] [] (R20 r) (N20 r) :=
  Ct.of F20 (c := b20) (by kernel_rfl) (by kernel_rfl) <|
  eBind H fun r1 hr1 H =>
  eIf H (fun h2 H =>
    run_ok T_ok mixed (cmds := [.reg [],
    .reg [{ i := 1, call := some { cl := true, ins := [], args := [sl 3 g46 a0], res := R12 r1, G' := N12 r1 }, dec := some true }],
    .reg [],
    .reg [],
    .canon [] [5, 6, 12, 13, 14]]) (by kernel_rfl) (PL g46 a0 <| P1 (c12 hr1) <| P2 (r1 = true) (h2) <| P0) (w20 _ _ H))
  (fun h2 H =>
    eRet (P := fun r => Wc X 20 0 _ _ (R20 r) (N20 r)) H <| runFin_ok T_ok mixed F20 (cmds := [.reg [],
    .reg [{ i := 1, call := some { cl := true, ins := [], args := [sl 3 g46 a0], res := R12 r1, G' := N12 r1 }, dec := some false }],
    .reg []]) (by kernel_rfl) (PL g46 a0 <| P1 (c12 hr1) <| P2 (r1 = false) (eqF h2) <| PI (0 : Int) <| PI (0 : Int) <| PI false <| P0))
/-! loop example/g00886/laws FnExactNextDue -/
noncomputable def b5 : Code := match Go.Proofs.Try.f5.body with | some c => c | none => .skip
theorem F5 : X.P.funcs[5]? = some Go.Proofs.Try.f5 := by kernel_rfl
def R5 (r : Bool) : List D := [.bool r]
def N5 (r : Bool) : List Root := []
theorem c5 {a0 : (List G48)} {r : Bool} (H : D5 a0 = some r) : Ct X.P X.gl 5 [sl 3 g48 a0] [] (R5 r) (N5 r) :=
  Ct.of F5 (c := b5) (by kernel_rfl) (by kernel_rfl) <|
  eBind H fun r1 hr1 H =>
  eIf H (fun h2 H =>
    eRet (P := fun r => Wc X 5 0 _ _ (R5 r) (N5 r)) H <| runFin_ok T_ok mixed F5 (cmds := [.reg [],
    .reg [],
    .reg [{ i := 2, call := some { cl := true, ins := [], args := [sl 3 g48 a0, .int .i64 1048576], res := R9 r1, G' := N9 r1 } }],
    .reg [{ i := 1, dec := some true }],
    .reg []]) (by kernel_rfl) (PL g48 a0 <| PI (1048576 : Int) <| P1 (c9 hr1) <| P2 ((decide (r1 < 0)) = true) (decide_eq_true h2) <| PI true <| P0))
  (fun h2 H =>
    eBind H fun r3 hr3 H =>
    eBind H fun r4 hr4 H =>
    eBind H fun r5 hr5 H =>
    eBind H fun r6 hr6 H =>
    eIf H (fun h7 H =>
      eIf H (fun h8 H =>
        eIf H (fun h9 H =>
          eRet (P := fun r => Wc X 5 0 _ _ (R5 r) (N5 r)) H <| runFin_ok T_ok mixed F5 (cmds := [.reg [],
    .reg [],
    .reg [{ i := 2, call := some { cl := true, ins := [], args := [sl 3 g48 a0, .int .i64 1048576], res := R9 r1, G' := N9 r1 } }],
    .reg [{ i := 1, dec := some false }],
    .reg [{ i := 1, call := some { cl := true, ins := [], args := [sl 3 g48 a0], res := R11 r3, G' := N11 r3 } }, { i := 2, call := some { cl := false, ins := [], args := [sl 3 g46 r3], res := R19 r4, G' := N19 r4 } }],
    .reg [{ i := 1, call := some { cl := true, ins := [], args := [sl 3 g48 a0], res := R11 r5, G' := N11 r5 } }],
    .reg [{ i := 1, call := some { cl := false, ins := [], args := [sl 3 g46 r5], res := R20 r6, G' := N20 r6 } }],
    .reg [{ i := 2, dec := some false }, { i := 6, dec := some false }, { i := 11, dec := some true }],
    .reg []]) (by kernel_rfl) (PL g48 a0 <| PI (1048576 : Int) <| P1 (c9 hr1) <| P2 ((decide (r1 < 0)) = false) (decide_eq_false h2) <| PL g48 a0 <| P1 (c11 hr3) <| PL g46 r3 <| P1 (c19 hr4) <| PL g48 a0 <| P1 (c11 hr5) <| PL g46 r5 <| P1 (c20 hr6) <| P2 (((r6.1 : Int) != r4.1) = false) (bneF h7) <| P2 (((r6.2.1 : Int) != r4.2.1) = false) (bneF h8) <| P2 ((!(r6.2.2 == r4.2.2)) = true) (h9) <| PI false <| P0))
        (fun h9 H =>
          eBind H fun r10 hr10 H =>
          eBind H fun r11 hr11 H =>
          eIf H (fun h12 H =>
            eRet (P := fun r => Wc X 5 0 _ _ (R5 r) (N5 r)) H <| runFin_ok T_ok mixed F5 (cmds := [.reg [],
    .reg [],
    .reg [{ i := 2, call := some { cl := true, ins := [], args := [sl 3 g48 a0, .int .i64 1048576], res := R9 r1, G' := N9 r1 } }],
    .reg [{ i := 1, dec := some false }],
    .reg [{ i := 1, call := some { cl := true, ins := [], args := [sl 3 g48 a0], res := R11 r3, G' := N11 r3 } }, { i := 2, call := some { cl := false, ins := [], args := [sl 3 g46 r3], res := R19 r4, G' := N19 r4 } }],
    .reg [{ i := 1, call := some { cl := true, ins := [], args := [sl 3 g48 a0], res := R11 r5, G' := N11 r5 } }],
    .reg [{ i := 1, call := some { cl := false, ins := [], args := [sl 3 g46 r5], res := R20 r6, G' := N20 r6 } }],
    .reg [{ i := 2, dec := some false }, { i := 6, dec := some false }, { i := 11, dec := some false }],
    .reg [{ i := 2, call := some { cl := true, ins := [], args := [sl 3 g48 a0], res := R11 r10, G' := N11 r10 } }, { i := 3, call := some { cl := false, ins := [], args := [sl 3 g46 r5, sl 3 g46 r10], res := R13 r11, G' := N13 r11 }, dec := some true }],
    .reg []]) (by kernel_rfl) (PL g48 a0 <| PI (1048576 : Int) <| P1 (c9 hr1) <| P2 ((decide (r1 < 0)) = false) (decide_eq_false h2) <| PL g48 a0 <| P1 (c11 hr3) <| PL g46 r3 <| P1 (c19 hr4) <| PL g48 a0 <| P1 (c11 hr5) <| PL g46 r5 <| P1 (c20 hr6) <| P2 (((r6.1 : Int) != r4.1) = false) (bneF h7) <| P2 (((r6.2.1 : Int) != r4.2.1) = false) (bneF h8) <| P2 ((!(r6.2.2 == r4.2.2)) = false) (eqF h9) <| PL g48 a0 <| P1 (c11 hr10) <| PL g46 r5 <| PL g46 r10 <| P1 (c13 hr11) <| P2 (r11 = true) (h12) <| PI true <| P0))
          (fun h12 H =>
            eRet (P := fun r => Wc X 5 0 _ _ (R5 r) (N5 r)) H <| runFin_ok T_ok mixed F5 (cmds := [.reg [],
    .reg [],
    .reg [{ i := 2, call := some { cl := true, ins := [], args := [sl 3 g48 a0, .int .i64 1048576], res := R9 r1, G' := N9 r1 } }],
    .reg [{ i := 1, dec := some false }],
    .reg [{ i := 1, call := some { cl := true, ins := [], args := [sl 3 g48 a0], res := R11 r3, G' := N11 r3 } }, { i := 2, call := some { cl := false, ins := [], args := [sl 3 g46 r3], res := R19 r4, G' := N19 r4 } }],
    .reg [{ i := 1, call := some { cl := true, ins := [], args := [sl 3 g48 a0], res := R11 r5, G' := N11 r5 } }],
    .reg [{ i := 1, call := some { cl := false, ins := [], args := [sl 3 g46 r5], res := R20 r6, G' := N20 r6 } }],
    .reg [{ i := 2, dec := some false }, { i := 6, dec := some false }, { i := 11, dec := some false }],
    .reg [{ i := 2, call := some { cl := true, ins := [], args := [sl 3 g48 a0], res := R11 r10, G' := N11 r10 } }, { i := 3, call := some { cl := false, ins := [], args := [sl 3 g46 r5, sl 3 g46 r10], res := R13 r11, G' := N13 r11 }, dec := some false }],
    .reg []]) (by kernel_rfl) (PL g48 a0 <| PI (1048576 : Int) <| P1 (c9 hr1) <| P2 ((decide (r1 < 0)) = false) (decide_eq_false h2) <| PL g48 a0 <| P1 (c11 hr3) <| PL g46 r3 <| P1 (c19 hr4) <| PL g48 a0 <| P1 (c11 hr5) <| PL g46 r5 <| P1 (c20 hr6) <| P2 (((r6.1 : Int) != r4.1) = false) (bneF h7) <| P2 (((r6.2.1 : Int) != r4.2.1) = false) (bneF h8) <| P2 ((!(r6.2.2 == r4.2.2)) = false) (eqF h9) <| PL g48 a0 <| P1 (c11 hr10) <| PL g46 r5 <| PL g46 r10 <| P1 (c13 hr11) <| P2 (r11 = false) (eqF h12) <| PI false <| P0))))
      (fun h8 H =>
        eRet (P := fun r => Wc X 5 0 _ _ (R5 r) (N5 r)) H <| runFin_ok T_ok mixed F5 (cmds := [.reg [],
    .reg [],
    .reg [{ i := 2, call := some { cl := true, ins := [], args := [sl 3 g48 a0, .int .i64 1048576], res := R9 r1, G' := N9 r1 } }],
    .reg [{ i := 1, dec := some false }],
    .reg [{ i := 1, call := some { cl := true, ins := [], args := [sl 3 g48 a0], res := R11 r3, G' := N11 r3 } }, { i := 2, call := some { cl := false, ins := [], args := [sl 3 g46 r3], res := R19 r4, G' := N19 r4 } }],
    .reg [{ i := 1, call := some { cl := true, ins := [], args := [sl 3 g48 a0], res := R11 r5, G' := N11 r5 } }],
    .reg [{ i := 1, call := some { cl := false, ins := [], args := [sl 3 g46 r5], res := R20 r6, G' := N20 r6 } }],
    .reg [{ i := 2, dec := some false }, { i := 6, dec := some true }],
    .reg []]) (by kernel_rfl) (PL g48 a0 <| PI (1048576 : Int) <| P1 (c9 hr1) <| P2 ((decide (r1 < 0)) = false) (decide_eq_false h2) <| PL g48 a0 <| P1 (c11 hr3) <| PL g46 r3 <| P1 (c19 hr4) <| PL g48 a0 <| P1 (c11 hr5) <| PL g46 r5 <| P1 (c20 hr6) <| P2 (((r6.1 : Int) != r4.1) = false) (bneF h7) <| P2 (((r6.2.1 : Int) != r4.2.1) = true) (bneT h8) <| PI false <| P0)))
    (fun h7 H =>
      eRet (P := fun r => Wc X 5 0 _ _ (R5 r) (N5 r)) H <| runFin_ok T_ok mixed F5 (cmds := [.reg [],
    .reg [],
    .reg [{ i := 2, call := some { cl := true, ins := [], args := [sl 3 g48 a0, .int .i64 1048576], res := R9 r1, G' := N9 r1 } }],
    .reg [{ i := 1, dec := some false }],
    .reg [{ i := 1, call := some { cl := true, ins := [], args := [sl 3 g48 a0], res := R11 r3, G' := N11 r3 } }, { i := 2, call := some { cl := false, ins := [], args := [sl 3 g46 r3], res := R19 r4, G' := N19 r4 } }],
    .reg [{ i := 1, call := some { cl := true, ins := [], args := [sl 3 g48 a0], res := R11 r5, G' := N11 r5 } }],
    .reg [{ i := 1, call := some { cl := false, ins := [], args := [sl 3 g46 r5], res := R20 r6, G' := N20 r6 } }],
    .reg [{ i := 2, dec := some true }],
    .reg []]) (by kernel_rfl) (PL g48 a0 <| PI (1048576 : Int) <| P1 (c9 hr1) <| P2 ((decide (r1 < 0)) = false) (decide_eq_false h2) <| PL g48 a0 <| P1 (c11 hr3) <| PL g46 r3 <| P1 (c19 hr4) <| PL g48 a0 <| P1 (c11 hr5) <| PL g46 r5 <| P1 (c20 hr6) <| P2 (((r6.1 : Int) != r4.1) = true) (bneT h7) <| PI false <| P0)))
/-! loop example/g00886/spec nNode -/
noncomputable def b43 : Code := match Go.Proofs.Try.f43.body with | some c => c | none => .skip
theorem F43 : X.P.funcs[43]? = some Go.Proofs.Try.f43 := by kernel_rfl
def R43 (r : Bool) : List D := [.bool r]
def N43 (r : Bool) : List Root := []
theorem c43 {a0 : (List G53)} {a1 : Int} {r : Bool} (H : D43 a0 a1 = some r) : Ct X.P X.gl 43 [sl 3 g53 a0, .int .i64 a1] [] (R43 r) (N43 r) :=
  Ct.of F43 (c := b43) (by kernel_rfl) (by kernel_rfl) <|
  eBind H fun r1 hr1 H =>
  eIf H (fun h2 H =>
    eBind H fun r3 hr3 H =>
    eRet (P := fun r => Wc X 43 0 _ _ (R43 r) (N43 r)) H <| runFin_ok T_ok mixed F43 (cmds := [.reg [],
    .reg [{ i := 1, call := some { cl := true, ins := [], args := [sl 3 g53 a0], res := R36 r1, G' := N36 r1 }, dec := some true }, { i := 7, call := some { cl := true, ins := [], args := [.int .i64 a1, .int .i64 0, .int .i64 (IntKind.wrap .i64 (((List.length a0 : Nat) : Int) - 1))], res := R51 r3, G' := N51 r3 } }]]) (by kernel_rfl) (PL g53 a0 <| P1 (c36 hr1) <| P2 (r1 = true) (h2) <| PI (a1 : Int) <| PI (0 : Int) <| PI (IntKind.wrap .i64 (((List.length a0 : Nat) : Int) - 1) : Int) <| P1 (c51 hr3) <| PI r3 <| P0))
  (fun h2 H =>
    eRet (P := fun r => Wc X 43 0 _ _ (R43 r) (N43 r)) H <| runFin_ok T_ok mixed F43 (cmds := [.reg [],
    .reg [{ i := 1, call := some { cl := true, ins := [], args := [sl 3 g53 a0], res := R36 r1, G' := N36 r1 }, dec := some false }]]) (by kernel_rfl) (PL g53 a0 <| P1 (c36 hr1) <| P2 (r1 = false) (eqF h2) <| PI false <| P0))
/-! loop example/g00886/spec nLine -/
noncomputable def b44 : Code := match Go.Proofs.Try.f44.body with | some c => c | none => .skip
theorem F44 : X.P.funcs[44]? = some Go.Proofs.Try.f44 := by kernel_rfl
def R44 (r : (List Int)) : List D := [ow 1 (D.int .i64) r]
def N44 (r : (List Int)) : List Root := []
noncomputable def K44 : S44 → List Item
  | .h1 .. => nav 300 2 [] [.code b44]
  | .h2 .. => nav 300 5 [true] [.code b44]
def Z44 : S44 → St
  | .h1 l0 i1 => ⟨sts 18 [(0, sl 3 g53 l0), (1, .int .i64 i1), (5, .nil)], []⟩
  | .h2 l0 i1 l2 => ⟨sts 18 [(0, sl 3 g53 l0), (1, .int .i64 i1), (5, .ref 0 1 none)], [some ⟨false, false, 1, List.length l2, List.map (D.int .i64) l2⟩]⟩
theorem n44 : ∀ s o, B44 s = some o → Nx X 44 0 K44 Z44 R44 N44 (K44 s) (Z44 s) o
  | .h1 l0 i1, o, H =>
    eIf H (fun h1 H =>
      eCk H fun h2 H =>
      eCk H fun h3 H =>
      eBind H fun x4 hx4 H =>
      eRet (P := Nx X 44 0 K44 Z44 R44 N44 (K44 (.h1 l0 i1)) (Z44 (.h1 l0 i1))) H fun r hn => run_ok T_ok mixed (cmds := [.reg [{ i := 1, dec := some true }],
    .reg [{ i := 3, n := List.length [i1], xs := List.map (D.int .i64) [i1] }],
    .reg [{ i := 4, xs := [.int .i64 x4.Parent] }],
    .canon [1] [0, 1, 5]]) (by kernel_rfl) (P2 ((decide (i1 ≥ 0)) = true) (decide_eq_true h1) <| P2 (List.length [i1] = List.length [i1] + 0) (by simp <;> omega) <| P2 ((List.length [i1] + 0) * 8 ≤ 70368744177664) (by have := h2; simp at this ⊢ <;> omega) <| P2 (List.map (D.int .i64) [i1] ++ ([] : List D) = List.map (D.int .i64) [i1]) (by simp) <| P2 ((0 : Int) ≤ i1) h3 <| P2 (i1 < (List.length l0 : Int)) (int_lt_of_at (h3) hx4) <| P2 (getCells (List.map g53 l0) (Int.toNat i1) 0 1 = some [.int .i64 x4.Parent]) (getCells_map hx4 rfl) <| P0) hn)
    (fun h1 H =>
      eRet (P := Nx X 44 0 K44 Z44 R44 N44 (K44 (.h1 l0 i1)) (Z44 (.h1 l0 i1))) H <| runFin_ok T_ok mixed F44 (cmds := [.reg [{ i := 1, dec := some false }],
    .reg []]) (by kernel_rfl) (P2 ((decide (i1 ≥ 0)) = false) (decide_eq_false h1) <| PI (0 : Nat) <| PI ([] : List D) <| P0))
  | .h2 l0 i1 l2, o, H =>
    eIf H (fun h1 H =>
      eCk H fun h2 H =>
      eCk H fun h3 H =>
      eBind H fun x4 hx4 H =>
      eRet (P := Nx X 44 0 K44 Z44 R44 N44 (K44 (.h2 l0 i1 l2)) (Z44 (.h2 l0 i1 l2))) H fun r hn => run_ok T_ok mixed (cmds := [.reg [{ i := 1, dec := some true }],
    .reg [{ i := 3, n := List.length ([i1] ++ l2), xs := List.map (D.int .i64) ([i1] ++ l2) }],
    .reg [{ i := 4, xs := [.int .i64 x4.Parent] }],
    .canon [2] [0, 1, 5]]) (by kernel_rfl) (P2 ((decide (i1 ≥ 0)) = true) (decide_eq_true h1) <| P2 (List.length ([i1] ++ l2) = List.length [i1] + List.length l2) (by simp <;> omega) <| P2 ((List.length [i1] + List.length l2) * 8 ≤ 70368744177664) (by have := h2; simp at this ⊢ <;> omega) <| P2 (List.map (D.int .i64) [i1] ++ List.map (D.int .i64) l2 = List.map (D.int .i64) ([i1] ++ l2)) (by simp) <| P2 ((0 : Int) ≤ i1) h3 <| P2 (i1 < (List.length l0 : Int)) (int_lt_of_at (h3) hx4) <| P2 (getCells (List.map g53 l0) (Int.toNat i1) 0 1 = some [.int .i64 x4.Parent]) (getCells_map hx4 rfl) <| P0) hn)
    (fun h1 H =>
      eRet (P := Nx X 44 0 K44 Z44 R44 N44 (K44 (.h2 l0 i1 l2)) (Z44 (.h2 l0 i1 l2))) H <| runFin_ok T_ok mixed F44 (cmds := [.reg [{ i := 1, dec := some false }],
    .reg []]) (by kernel_rfl) (P2 ((decide (i1 ≥ 0)) = false) (decide_eq_false h1) <| PR (D.int .i64) l2 <| P0))
theorem w44 : ∀ s r, loop B44 s = some r → Wc X 44 0 (K44 s) (Z44 s) (R44 r) (N44 r) := Nx.all n44
theorem c44 {a0 : (List G53)} {a1 : Int} {r : (List Int)} (H : D44 a0 a1 = some r) : Ct X.P X.gl 44 [sl 3 g53 a0, .int .i64 a1] [] (R44 r) (N44 r) :=
  Ct.of F44 (c := b44) (by kernel_rfl) (by kernel_rfl) <|
  run_ok T_ok mixed (cmds := [.reg [],
    .reg [],
    .canon [] [0, 1, 5]]) (by kernel_rfl) (P0) (w44 _ _ H)
/-! loop example/g00886/spec ForkOf -/
noncomputable def b21 : Code := match Go.Proofs.Try.f21.body with | some c => c | none => .skip
theorem F21 : X.P.funcs[21]? = some Go.Proofs.Try.f21 := by kernel_rfl
def R21 (r : Int × Bool) : List D := [.int .i64 r.1, .bool r.2]
def N21 (r : Int × Bool) : List Root := []
noncomputable def K21 : S21 → List Item
  | .h1 .. => nav 300 5 [false] [.code b21]
def Z21 : S21 → St
  | .h1 last0 n1 l2 l3 => ⟨sts 56 [(8, .ref 0 1 none), (9, .ref 1 1 none), (10, .int .i64 last0), (11, .int .i64 n1)], [some ⟨false, false, 1, List.length l2, List.map (D.int .i64) l2⟩, some ⟨false, false, 1, List.length l3, List.map (D.int .i64) l3⟩]⟩
theorem n21 : ∀ s o, B21 s = some o → Nx X 21 0 K21 Z21 R21 N21 (K21 s) (Z21 s) o
  | .h1 last0 n1 l2 l3, o, H =>
    eIf H (fun h1 H =>
      eIf H (fun h2 H =>
        eCk H fun h3 H =>
        eBind H fun x4 hx4 H =>
        eCk H fun h5 H =>
        eBind H fun x6 hx6 H =>
        eIf H (fun h7 H =>
          eCk H fun h8 H =>
          eBind H fun x9 hx9 H =>
          eRet (P := Nx X 21 0 K21 Z21 R21 N21 (K21 (.h1 last0 n1 l2 l3)) (Z21 (.h1 last0 n1 l2 l3))) H fun r hn => run_ok T_ok mixed (cmds := [.reg [{ i := 3, dec := some true }, { i := 8, dec := some true }, { i := 14, xs := [.int .i64 x4] }, { i := 18, xs := [.int .i64 x6] }, { i := 19, dec := some true }],
    .reg [{ i := 3, xs := [.int .i64 x9] }],
    .reg [],
    .canon [0, 1] [8, 9, 10, 11]]) (by kernel_rfl) (P2 ((decide (n1 < ((List.length l2 : Nat) : Int))) = true) (decide_eq_true h1) <| P2 ((decide (n1 < ((List.length l3 : Nat) : Int))) = true) (decide_eq_true h2) <| P2 ((0 : Int) ≤ n1) h3 <| P2 (n1 < (List.length l2 : Int)) (int_lt_of_at (h3) hx4) <| P2 (getCells (List.map (D.int .i64) l2) (Int.toNat n1) 0 1 = some [.int .i64 x4]) (getCells_map hx4 rfl) <| P2 ((0 : Int) ≤ n1) h5 <| P2 (n1 < (List.length l3 : Int)) (int_lt_of_at (h5) hx6) <| P2 (getCells (List.map (D.int .i64) l3) (Int.toNat n1) 0 1 = some [.int .i64 x6]) (getCells_map hx6 rfl) <| P2 (((x4 : Int) == x6) = true) (beqT h7) <| P2 ((0 : Int) ≤ n1) h8 <| P2 (n1 < (List.length l2 : Int)) (int_lt_of_at (h8) hx9) <| P2 (getCells (List.map (D.int .i64) l2) (Int.toNat n1) 0 1 = some [.int .i64 x9]) (getCells_map hx9 rfl) <| P0) hn)
        (fun h7 H =>
          eRet (P := Nx X 21 0 K21 Z21 R21 N21 (K21 (.h1 last0 n1 l2 l3)) (Z21 (.h1 last0 n1 l2 l3))) H <| runFin_ok T_ok mixed F21 (cmds := [.reg [{ i := 3, dec := some true }, { i := 8, dec := some true }, { i := 14, xs := [.int .i64 x4] }, { i := 18, xs := [.int .i64 x6] }, { i := 19, dec := some false }],
    .reg []]) (by kernel_rfl) (P2 ((decide (n1 < ((List.length l2 : Nat) : Int))) = true) (decide_eq_true h1) <| P2 ((decide (n1 < ((List.length l3 : Nat) : Int))) = true) (decide_eq_true h2) <| P2 ((0 : Int) ≤ n1) h3 <| P2 (n1 < (List.length l2 : Int)) (int_lt_of_at (h3) hx4) <| P2 (getCells (List.map (D.int .i64) l2) (Int.toNat n1) 0 1 = some [.int .i64 x4]) (getCells_map hx4 rfl) <| P2 ((0 : Int) ≤ n1) h5 <| P2 (n1 < (List.length l3 : Int)) (int_lt_of_at (h5) hx6) <| P2 (getCells (List.map (D.int .i64) l3) (Int.toNat n1) 0 1 = some [.int .i64 x6]) (getCells_map hx6 rfl) <| P2 (((x4 : Int) == x6) = false) (beqF h7) <| PI (last0 : Int) <| PI true <| P0)))
      (fun h2 H =>
        eRet (P := Nx X 21 0 K21 Z21 R21 N21 (K21 (.h1 last0 n1 l2 l3)) (Z21 (.h1 last0 n1 l2 l3))) H <| runFin_ok T_ok mixed F21 (cmds := [.reg [{ i := 3, dec := some true }, { i := 8, dec := some false }],
    .reg []]) (by kernel_rfl) (P2 ((decide (n1 < ((List.length l2 : Nat) : Int))) = true) (decide_eq_true h1) <| P2 ((decide (n1 < ((List.length l3 : Nat) : Int))) = false) (decide_eq_false h2) <| PI (last0 : Int) <| PI true <| P0)))
    (fun h1 H =>
      eRet (P := Nx X 21 0 K21 Z21 R21 N21 (K21 (.h1 last0 n1 l2 l3)) (Z21 (.h1 last0 n1 l2 l3))) H <| runFin_ok T_ok mixed F21 (cmds := [.reg [{ i := 3, dec := some false }],
    .reg []]) (by kernel_rfl) (P2 ((decide (n1 < ((List.length l2 : Nat) : Int))) = false) (decide_eq_false h1) <| PI (last0 : Int) <| PI true <| P0))
theorem w21 : ∀ s r, loop B21 s = some r → Wc X 21 0 (K21 s) (Z21 s) (R21 r) (N21 r) := Nx.all n21
theorem c21 {a0 : (List G53)} {a1 : Int} {a2 : Int} {r : Int × Bool} (H : D21 a0 a1 a2 = some r) : Ct X.P X.gl 21 [sl 3 g53 a0, .int .i64 a1, .int .i64 a2] [] (R21 r) (N21 r) :=
  Ct.of F21 (c := b21) (by kernel_rfl) (by kernel_rfl) <|
  eBind H fun r1 hr1 H =>
  eIf H (fun h2 H =>
    eBind H fun r3 hr3 H =>
    eIf H (fun h4 H =>
      eBind H fun r5 hr5 H =>
      eBind H fun r6 hr6 H =>
      run_ok T_ok mixed (cmds := [.reg [],
    .reg [{ i := 2, call := some { cl := true, ins := [], args := [sl 3 g53 a0, .int .i64 a1], res := R43 r1, G' := N43 r1 }, dec := some true }, { i := 7, call := some { cl := true, ins := [], args := [sl 3 g53 a0, .int .i64 a2], res := R43 r3, G' := N43 r3 }, dec := some true }],
    .reg [{ i := 2, call := some { cl := true, ins := [], args := [sl 3 g53 a0, .int .i64 a1], res := R44 r5, G' := N44 r5 } }, { i := 5, call := some { cl := true, ins := [], args := [sl 3 g53 a0, .int .i64 a2], res := R44 r6, G' := N44 r6 } }],
    .reg [],
    .reg [],
    .canon [0, 1] [8, 9, 10, 11]]) (by kernel_rfl) (PL g53 a0 <| PI (a1 : Int) <| P1 (c43 hr1) <| P2 (r1 = true) (h2) <| PL g53 a0 <| PI (a2 : Int) <| P1 (c43 hr3) <| P2 (r3 = true) (h4) <| PL g53 a0 <| PI (a1 : Int) <| P1 (c44 hr5) <| PL g53 a0 <| PI (a2 : Int) <| P1 (c44 hr6) <| P0) (w21 _ _ H))
    (fun h4 H =>
      eRet (P := fun r => Wc X 21 0 _ _ (R21 r) (N21 r)) H <| runFin_ok T_ok mixed F21 (cmds := [.reg [],
    .reg [{ i := 2, call := some { cl := true, ins := [], args := [sl 3 g53 a0, .int .i64 a1], res := R43 r1, G' := N43 r1 }, dec := some true }, { i := 7, call := some { cl := true, ins := [], args := [sl 3 g53 a0, .int .i64 a2], res := R43 r3, G' := N43 r3 }, dec := some false }],
    .reg []]) (by kernel_rfl) (PL g53 a0 <| PI (a1 : Int) <| P1 (c43 hr1) <| P2 (r1 = true) (h2) <| PL g53 a0 <| PI (a2 : Int) <| P1 (c43 hr3) <| P2 (r3 = false) (eqF h4) <| PI (0 : Int) <| PI false <| P0)))
  (fun h2 H =>
    eRet (P := fun r => Wc X 21 0 _ _ (R21 r) (N21 r)) H <| runFin_ok T_ok mixed F21 (cmds := [.reg [],
    .reg [{ i := 2, call := some { cl := true, ins := [], args := [sl 3 g53 a0, .int .i64 a1], res := R43 r1, G' := N43 r1 }, dec := some false }],
    .reg []]) (by kernel_rfl) (PL g53 a0 <| PI (a1 : Int) <| P1 (c43 hr1) <| P2 (r1 = false) (eqF h2) <| PI (0 : Int) <| PI false <| P0))
/-! slices Reverse   int int  -/
noncomputable def b56 : Code := match Go.Proofs.Try.f56.body with | some c => c | none => .skip
theorem F56 : X.P.funcs[56]? = some Go.Proofs.Try.f56 := by kernel_rfl
def R56 (r : (List Int)) : List D := []
def N56 (r : (List Int)) : List Root := [⟨false, false, 1, List.length r, List.map (D.int .i64) r⟩]
noncomputable def K56 : S56 → List Item
  | .h1 .. => nav 300 1 [] [.code b56]
def Z56 : S56 → St
  | .h1 i0 j1 l2 => ⟨sts 28 [(0, .ref 0 1 none), (2, .int .i64 i0), (3, .int .i64 j1)], [some ⟨false, false, 1, List.length l2, List.map (D.int .i64) l2⟩]⟩
theorem n56 : ∀ s o, B56 s = some o → Nx X 56 1 K56 Z56 R56 N56 (K56 s) (Z56 s) o
  | .h1 i0 j1 l2, o, H =>
    eIf H (fun h1 H =>
      eCk H fun h2 H =>
      eBind H fun x3 hx3 H =>
      eCk H fun h4 H =>
      eBind H fun x5 hx5 H =>
      eCk H fun h6 H =>
      eBind H fun x7 hx7 H =>
      eCk H fun h8 H =>
      eBind H fun x9 hx9 H =>
      eRet (P := Nx X 56 1 K56 Z56 R56 N56 (K56 (.h1 i0 j1 l2)) (Z56 (.h1 i0 j1 l2))) H fun r hn => run_ok T_ok mixed (cmds := [.reg [{ i := 2, dec := some true }],
    .reg [{ i := 7, xs := [.int .i64 x3] }, { i := 11, xs := [.int .i64 x5] }, { i := 13, xs := List.map (D.int .i64) (List.set l2 (Int.toNat i0) x3), n := List.length (List.set l2 (Int.toNat i0) x3) }, { i := 15, xs := List.map (D.int .i64) (List.set (List.set l2 (Int.toNat i0) x3) (Int.toNat j1) x5), n := List.length (List.set (List.set l2 (Int.toNat i0) x3) (Int.toNat j1) x5) }],
    .reg [],
    .canon [0] [0, 2, 3]]) (by kernel_rfl) (P2 ((decide (i0 < j1)) = true) (decide_eq_true h1) <| P2 ((0 : Int) ≤ j1) h2 <| P2 (j1 < (List.length l2 : Int)) (int_lt_of_at (h2) hx3) <| P2 (getCells (List.map (D.int .i64) l2) (Int.toNat j1) 0 1 = some [.int .i64 x3]) (getCells_map hx3 rfl) <| P2 ((0 : Int) ≤ i0) h4 <| P2 (i0 < (List.length l2 : Int)) (int_lt_of_at (h4) hx5) <| P2 (getCells (List.map (D.int .i64) l2) (Int.toNat i0) 0 1 = some [.int .i64 x5]) (getCells_map hx5 rfl) <| P2 ((0 : Int) ≤ i0) h6 <| P2 (i0 < (List.length l2 : Int)) (int_lt_of_at (h6) hx7) <| P1 (lt_of_at hx7) <| P2 (setCells (List.map (D.int .i64) l2) (Int.toNat i0) 0 [.int .i64 x3] = List.map (D.int .i64) (List.set l2 (Int.toNat i0) x3)) (setCells_map hx7 rfl) <| P2 (List.length l2 = List.length (List.set l2 (Int.toNat i0) x3)) (by simp) <| P2 ((0 : Int) ≤ j1) h8 <| P2 (j1 < (List.length (List.set l2 (Int.toNat i0) x3) : Int)) (int_lt_of_at (h8) hx9) <| P1 (lt_of_at hx9) <| P2 (setCells (List.map (D.int .i64) (List.set l2 (Int.toNat i0) x3)) (Int.toNat j1) 0 [.int .i64 x5] = List.map (D.int .i64) (List.set (List.set l2 (Int.toNat i0) x3) (Int.toNat j1) x5)) (setCells_map hx9 rfl) <| P2 (List.length (List.set l2 (Int.toNat i0) x3) = List.length (List.set (List.set l2 (Int.toNat i0) x3) (Int.toNat j1) x5)) (by simp) <| P0) hn)
    (fun h1 H =>
      eRet (P := Nx X 56 1 K56 Z56 R56 N56 (K56 (.h1 i0 j1 l2)) (Z56 (.h1 i0 j1 l2))) H <| runFin_ok T_ok mixed F56 (cmds := [.reg [{ i := 2, dec := some false }]]) (by kernel_rfl) (P2 ((decide (i0 < j1)) = false) (decide_eq_false h1) <| PI (⟨false, false, 1, List.length l2, List.map (D.int .i64) l2⟩ : Root) <| P0))
theorem w56 : ∀ s r, loop B56 s = some r → Wc X 56 1 (K56 s) (Z56 s) (R56 r) (N56 r) := Nx.all n56
theorem c56 {a0 : (List Int)} {r : (List Int)} (H : D56 a0 = some r) : Ct X.P X.gl 56 [.ref 0 1 none] [⟨false, false, 1, List.length a0, List.map (D.int .i64) a0⟩] (R56 r) (N56 r) :=
  Ct.of F56 (c := b56) (by kernel_rfl) (by kernel_rfl) <|
  run_ok T_ok mixed (cmds := [.reg [],
    .canon [0] [0, 2, 3]]) (by kernel_rfl) (P0) (w56 _ _ H)
/-! loop example/g00886/impl lineTo -/
noncomputable def b45 : Code := match Go.Proofs.Try.f45.body with | some c => c | none => .skip
theorem F45 : X.P.funcs[45]? = some Go.Proofs.Try.f45 := by kernel_rfl
def R45 (r : (List Int)) : List D := [ow 1 (D.int .i64) r]
def N45 (r : (List Int)) : List Root := []
noncomputable def K45 : S45 → List Item
  | .h1 .. => nav 300 2 [] [.code b45]
def Z45 : S45 → St
  | .h1 l0 i1 l2 => ⟨sts 21 [(0, sl 3 g53 l0), (1, .int .i64 i1), (5, .ref 0 1 none)], [some ⟨false, false, 1, List.length l2, List.map (D.int .i64) l2⟩]⟩
theorem n45 : ∀ s o, B45 s = some o → Nx X 45 0 K45 Z45 R45 N45 (K45 s) (Z45 s) o
  | .h1 l0 i1 l2, o, H =>
    eIf H (fun h1 H =>
      eCk H fun h2 H =>
      eCk H fun h3 H =>
      eBind H fun x4 hx4 H =>
      eRet (P := Nx X 45 0 K45 Z45 R45 N45 (K45 (.h1 l0 i1 l2)) (Z45 (.h1 l0 i1 l2))) H fun r hn => run_ok T_ok mixed (cmds := [.reg [{ i := 1, dec := some true }],
    .reg [{ i := 3, n := List.length (l2 ++ [i1]), xs := List.map (D.int .i64) (l2 ++ [i1]) }],
    .reg [{ i := 4, xs := [.int .i64 x4.Parent] }],
    .canon [2] [0, 1, 5]]) (by kernel_rfl) (P2 ((decide (i1 ≥ 0)) = true) (decide_eq_true h1) <| P2 (List.length (l2 ++ [i1]) = List.length l2 + List.length [i1]) (by simp <;> omega) <| P2 ((List.length l2 + List.length [i1]) * 8 ≤ 70368744177664) (by have := h2; simp at this ⊢ <;> omega) <| P2 (List.map (D.int .i64) l2 ++ List.map (D.int .i64) [i1] = List.map (D.int .i64) (l2 ++ [i1])) (by simp) <| P2 ((0 : Int) ≤ i1) h3 <| P2 (i1 < (List.length l0 : Int)) (int_lt_of_at (h3) hx4) <| P2 (getCells (List.map g53 l0) (Int.toNat i1) 0 1 = some [.int .i64 x4.Parent]) (getCells_map hx4 rfl) <| P0) hn)
    (fun h1 H =>
      eBind H fun r2 hr2 H =>
      eCk H fun h3 H =>
      eRet (P := Nx X 45 0 K45 Z45 R45 N45 (K45 (.h1 l0 i1 l2)) (Z45 (.h1 l0 i1 l2))) H <| runFin_ok T_ok mixed F45 (cmds := [.reg [{ i := 1, dec := some false }],
    .reg [{ i := 1, call := some { cl := true, ins := [0], args := [.ref 0 1 none], res := R56 r2, G' := N56 r2 } }],
    .reg []]) (by kernel_rfl) (P2 ((decide (i1 ≥ 0)) = false) (decide_eq_false h1) <| PI (none : Option (Nat × Nat)) <| P1 h3 <| P1 (c56 hr2) <| PR (D.int .i64) r2 <| P0))
theorem w45 : ∀ s r, loop B45 s = some r → Wc X 45 0 (K45 s) (Z45 s) (R45 r) (N45 r) := Nx.all n45
theorem c45 {a0 : (List G53)} {a1 : Int} {r : (List Int)} (H : D45 a0 a1 = some r) : Ct X.P X.gl 45 [sl 3 g53 a0, .int .i64 a1] [] (R45 r) (N45 r) :=
  Ct.of F45 (c := b45) (by kernel_rfl) (by kernel_rfl) <|
  run_ok T_ok mixed (cmds := [.reg [],
    .reg [],
    .canon [0] [0, 1, 5]]) (by kernel_rfl) (P0) (w45 _ _ H)
/-! loop example/g00886/impl ForkOf -/
noncomputable def b22 : Code := match Go.Proofs.Try.f22.body with | some c => c | none => .skip
theorem F22 : X.P.funcs[22]? = some Go.Proofs.Try.f22 := by kernel_rfl
def R22 (r : Int × Bool) : List D := [.int .i64 r.1, .bool r.2]
def N22 (r : Int × Bool) : List Root := []
noncomputable def K22 : S22 → List Item
  | .h1 .. => nav 300 4 [false] [.code b22]
def Z22 : S22 → St
  | .h1 fork0 n1 l2 l3 => ⟨sts 60 [(8, .ref 0 1 none), (9, .ref 1 1 none), (10, .int .i64 fork0), (11, .int .i64 n1)], [some ⟨false, false, 1, List.length l2, List.map (D.int .i64) l2⟩, some ⟨false, false, 1, List.length l3, List.map (D.int .i64) l3⟩]⟩
theorem n22 : ∀ s o, B22 s = some o → Nx X 22 0 K22 Z22 R22 N22 (K22 s) (Z22 s) o
  | .h1 fork0 n1 l2 l3, o, H =>
    eIf H (fun h1 H =>
      eCk H fun h2 H =>
      eBind H fun x3 hx3 H =>
      eCk H fun h4 H =>
      eBind H fun x5 hx5 H =>
      eIf H (fun h6 H =>
        eCk H fun h7 H =>
        eBind H fun x8 hx8 H =>
        eRet (P := Nx X 22 0 K22 Z22 R22 N22 (K22 (.h1 fork0 n1 l2 l3)) (Z22 (.h1 fork0 n1 l2 l3))) H fun r hn => run_ok T_ok mixed (cmds := [.reg [{ i := 6, dec := some true }, { i := 11, xs := [.int .i64 x3] }, { i := 15, xs := [.int .i64 x5] }, { i := 16, dec := some true }],
    .reg [{ i := 3, xs := [.int .i64 x8] }],
    .reg [],
    .canon [0, 1] [8, 9, 10, 11]]) (by kernel_rfl) (P2 ((decide (n1 < (if ((List.length l3 : Nat) : Int) < ((List.length l2 : Nat) : Int) then ((List.length l3 : Nat) : Int) else ((List.length l2 : Nat) : Int)))) = true) (decide_eq_true h1) <| P2 ((0 : Int) ≤ n1) h2 <| P2 (n1 < (List.length l2 : Int)) (int_lt_of_at (h2) hx3) <| P2 (getCells (List.map (D.int .i64) l2) (Int.toNat n1) 0 1 = some [.int .i64 x3]) (getCells_map hx3 rfl) <| P2 ((0 : Int) ≤ n1) h4 <| P2 (n1 < (List.length l3 : Int)) (int_lt_of_at (h4) hx5) <| P2 (getCells (List.map (D.int .i64) l3) (Int.toNat n1) 0 1 = some [.int .i64 x5]) (getCells_map hx5 rfl) <| P2 (((x3 : Int) == x5) = true) (beqT h6) <| P2 ((0 : Int) ≤ n1) h7 <| P2 (n1 < (List.length l2 : Int)) (int_lt_of_at (h7) hx8) <| P2 (getCells (List.map (D.int .i64) l2) (Int.toNat n1) 0 1 = some [.int .i64 x8]) (getCells_map hx8 rfl) <| P0) hn)
      (fun h6 H =>
        eRet (P := Nx X 22 0 K22 Z22 R22 N22 (K22 (.h1 fork0 n1 l2 l3)) (Z22 (.h1 fork0 n1 l2 l3))) H <| runFin_ok T_ok mixed F22 (cmds := [.reg [{ i := 6, dec := some true }, { i := 11, xs := [.int .i64 x3] }, { i := 15, xs := [.int .i64 x5] }, { i := 16, dec := some false }],
    .reg []]) (by kernel_rfl) (P2 ((decide (n1 < (if ((List.length l3 : Nat) : Int) < ((List.length l2 : Nat) : Int) then ((List.length l3 : Nat) : Int) else ((List.length l2 : Nat) : Int)))) = true) (decide_eq_true h1) <| P2 ((0 : Int) ≤ n1) h2 <| P2 (n1 < (List.length l2 : Int)) (int_lt_of_at (h2) hx3) <| P2 (getCells (List.map (D.int .i64) l2) (Int.toNat n1) 0 1 = some [.int .i64 x3]) (getCells_map hx3 rfl) <| P2 ((0 : Int) ≤ n1) h4 <| P2 (n1 < (List.length l3 : Int)) (int_lt_of_at (h4) hx5) <| P2 (getCells (List.map (D.int .i64) l3) (Int.toNat n1) 0 1 = some [.int .i64 x5]) (getCells_map hx5 rfl) <| P2 (((x3 : Int) == x5) = false) (beqF h6) <| PI (fork0 : Int) <| PI true <| P0)))
    (fun h1 H =>
      eRet (P := Nx X 22 0 K22 Z22 R22 N22 (K22 (.h1 fork0 n1 l2 l3)) (Z22 (.h1 fork0 n1 l2 l3))) H <| runFin_ok T_ok mixed F22 (cmds := [.reg [{ i := 6, dec := some false }],
    .reg []]) (by kernel_rfl) (P2 ((decide (n1 < (if ((List.length l3 : Nat) : Int) < ((List.length l2 : Nat) : Int) then ((List.length l3 : Nat) : Int) else ((List.length l2 : Nat) : Int)))) = false) (decide_eq_false h1) <| PI (fork0 : Int) <| PI true <| P0))
theorem w22 : ∀ s r, loop B22 s = some r → Wc X 22 0 (K22 s) (Z22 s) (R22 r) (N22 r) := Nx.all n22
theorem c22 {a0 : (List G53)} {a1 : Int} {a2 : Int} {r : Int × Bool} (H : D22 a0 a1 a2 = some r) : Ct X.P X.gl 22 [sl 3 g53 a0, .int .i64 a1, .int .i64 a2] [] (R22 r) (N22 r) :=
  Ct.of F22 (c := b22) (by kernel_rfl) (by kernel_rfl) <|
  eBind H fun r1 hr1 H =>
  eIf H (fun h2 H =>
    eBind H fun r3 hr3 H =>
    eIf H (fun h4 H =>
      eBind H fun r5 hr5 H =>
      eIf H (fun h6 H =>
        eBind H fun r7 hr7 H =>
        eBind H fun r8 hr8 H =>
        run_ok T_ok mixed (cmds := [.reg [],
    .reg [{ i := 1, call := some { cl := true, ins := [], args := [sl 3 g53 a0], res := R17 r1, G' := N17 r1 }, dec := some true }, { i := 7, call := some { cl := true, ins := [], args := [.int .i64 a1, .int .i64 ((List.length a0 : Nat) : Int)], res := R39 r3, G' := N39 r3 }, dec := some true }, { i := 14, call := some { cl := true, ins := [], args := [.int .i64 a2, .int .i64 ((List.length a0 : Nat) : Int)], res := R39 r5, G' := N39 r5 }, dec := some true }],
    .reg [{ i := 2, call := some { cl := true, ins := [], args := [sl 3 g53 a0, .int .i64 a1], res := R45 r7, G' := N45 r7 } }, { i := 5, call := some { cl := true, ins := [], args := [sl 3 g53 a0, .int .i64 a2], res := R45 r8, G' := N45 r8 } }],
    .reg [],
    .canon [0, 1] [8, 9, 10, 11]]) (by kernel_rfl) (PL g53 a0 <| P1 (c17 hr1) <| P2 (r1 = true) (h2) <| PI (a1 : Int) <| PI (((List.length a0 : Nat) : Int) : Int) <| P1 (c39 hr3) <| P2 (r3 = true) (h4) <| PI (a2 : Int) <| PI (((List.length a0 : Nat) : Int) : Int) <| P1 (c39 hr5) <| P2 (r5 = true) (h6) <| PL g53 a0 <| PI (a1 : Int) <| P1 (c45 hr7) <| PL g53 a0 <| PI (a2 : Int) <| P1 (c45 hr8) <| P0) (w22 _ _ H))
      (fun h6 H =>
        eRet (P := fun r => Wc X 22 0 _ _ (R22 r) (N22 r)) H <| runFin_ok T_ok mixed F22 (cmds := [.reg [],
    .reg [{ i := 1, call := some { cl := true, ins := [], args := [sl 3 g53 a0], res := R17 r1, G' := N17 r1 }, dec := some true }, { i := 7, call := some { cl := true, ins := [], args := [.int .i64 a1, .int .i64 ((List.length a0 : Nat) : Int)], res := R39 r3, G' := N39 r3 }, dec := some true }, { i := 14, call := some { cl := true, ins := [], args := [.int .i64 a2, .int .i64 ((List.length a0 : Nat) : Int)], res := R39 r5, G' := N39 r5 }, dec := some false }],
    .reg []]) (by kernel_rfl) (PL g53 a0 <| P1 (c17 hr1) <| P2 (r1 = true) (h2) <| PI (a1 : Int) <| PI (((List.length a0 : Nat) : Int) : Int) <| P1 (c39 hr3) <| P2 (r3 = true) (h4) <| PI (a2 : Int) <| PI (((List.length a0 : Nat) : Int) : Int) <| P1 (c39 hr5) <| P2 (r5 = false) (eqF h6) <| PI (0 : Int) <| PI false <| P0)))
    (fun h4 H =>
      eRet (P := fun r => Wc X 22 0 _ _ (R22 r) (N22 r)) H <| runFin_ok T_ok mixed F22 (cmds := [.reg [],
    .reg [{ i := 1, call := some { cl := true, ins := [], args := [sl 3 g53 a0], res := R17 r1, G' := N17 r1 }, dec := some true }, { i := 7, call := some { cl := true, ins := [], args := [.int .i64 a1, .int .i64 ((List.length a0 : Nat) : Int)], res := R39 r3, G' := N39 r3 }, dec := some false }],
    .reg []]) (by kernel_rfl) (PL g53 a0 <| P1 (c17 hr1) <| P2 (r1 = true) (h2) <| PI (a1 : Int) <| PI (((List.length a0 : Nat) : Int) : Int) <| P1 (c39 hr3) <| P2 (r3 = false) (eqF h4) <| PI (0 : Int) <| PI false <| P0)))
  (fun h2 H =>
    eRet (P := fun r => Wc X 22 0 _ _ (R22 r) (N22 r)) H <| runFin_ok T_ok mixed F22 (cmds := [.reg [],
    .reg [{ i := 1, call := some { cl := true, ins := [], args := [sl 3 g53 a0], res := R17 r1, G' := N17 r1 }, dec := some false }],
    .reg []]) (by kernel_rfl) (PL g53 a0 <| P1 (c17 hr1) <| P2 (r1 = false) (eqF h2) <| PI (0 : Int) <| PI false <| P0))
/-! loop example/g00886/laws FnExactForkOf -/
noncomputable def b6 : Code := match Go.Proofs.Try.f6.body with | some c => c | none => .skip
theorem F6 : X.P.funcs[6]? = some Go.Proofs.Try.f6 := by kernel_rfl
def R6 (r : Bool) : List D := [.bool r]
def N6 (r : Bool) : List Root := []
theorem c6 {a0 : (List G55)} {a1 : Int} {a2 : Int} {r : Bool} (H : D6 a0 a1 a2 = some r) : Ct X.P X.gl 6 [sl 3 g55 a0, .int .i64 a1, .int .i64 a2] [] (R6 r) (N6 r) :=
  Ct.of F6 (c := b6) (by kernel_rfl) (by kernel_rfl) <|
  eBind H fun r1 hr1 H =>
  eIf H (fun h2 H =>
    eRet (P := fun r => Wc X 6 0 _ _ (R6 r) (N6 r)) H <| runFin_ok T_ok mixed F6 (cmds := [.reg [],
    .reg [],
    .reg [{ i := 2, call := some { cl := true, ins := [], args := [sl 3 g55 a0, .int .i64 1048576], res := R14 r1, G' := N14 r1 } }],
    .reg [{ i := 1, dec := some true }],
    .reg []]) (by kernel_rfl) (PL g55 a0 <| PI (1048576 : Int) <| P1 (c14 hr1) <| P2 ((decide (r1 < 0)) = true) (decide_eq_true h2) <| PI true <| P0))
  (fun h2 H =>
    eBind H fun r3 hr3 H =>
    eBind H fun r4 hr4 H =>
    eBind H fun r5 hr5 H =>
    eBind H fun r6 hr6 H =>
    eIf H (fun h7 H =>
      eIf H (fun h8 H =>
        eRet (P := fun r => Wc X 6 0 _ _ (R6 r) (N6 r)) H <| runFin_ok T_ok mixed F6 (cmds := [.reg [],
    .reg [],
    .reg [{ i := 2, call := some { cl := true, ins := [], args := [sl 3 g55 a0, .int .i64 1048576], res := R14 r1, G' := N14 r1 } }],
    .reg [{ i := 1, dec := some false }],
    .reg [{ i := 1, call := some { cl := true, ins := [], args := [sl 3 g55 a0], res := R16 r3, G' := N16 r3 } }, { i := 4, call := some { cl := false, ins := [], args := [sl 3 g53 r3, .int .i64 a1, .int .i64 a2], res := R21 r4, G' := N21 r4 } }],
    .reg [{ i := 1, call := some { cl := true, ins := [], args := [sl 3 g55 a0], res := R16 r5, G' := N16 r5 } }],
    .reg [{ i := 3, call := some { cl := false, ins := [], args := [sl 3 g53 r5, .int .i64 a1, .int .i64 a2], res := R22 r6, G' := N22 r6 } }],
    .reg [{ i := 2, dec := some false }, { i := 6, dec := some true }],
    .reg []]) (by kernel_rfl) (PL g55 a0 <| PI (1048576 : Int) <| P1 (c14 hr1) <| P2 ((decide (r1 < 0)) = false) (decide_eq_false h2) <| PL g55 a0 <| P1 (c16 hr3) <| PL g53 r3 <| PI (a1 : Int) <| PI (a2 : Int) <| P1 (c21 hr4) <| PL g55 a0 <| P1 (c16 hr5) <| PL g53 r5 <| PI (a1 : Int) <| PI (a2 : Int) <| P1 (c22 hr6) <| P2 (((r6.1 : Int) != r4.1) = false) (bneF h7) <| P2 ((!(r6.2 == r4.2)) = true) (h8) <| PI false <| P0))
      (fun h8 H =>
        eBind H fun r9 hr9 H =>
        eBind H fun r10 hr10 H =>
        eIf H (fun h11 H =>
          eRet (P := fun r => Wc X 6 0 _ _ (R6 r) (N6 r)) H <| runFin_ok T_ok mixed F6 (cmds := [.reg [],
    .reg [],
    .reg [{ i := 2, call := some { cl := true, ins := [], args := [sl 3 g55 a0, .int .i64 1048576], res := R14 r1, G' := N14 r1 } }],
    .reg [{ i := 1, dec := some false }],
    .reg [{ i := 1, call := some { cl := true, ins := [], args := [sl 3 g55 a0], res := R16 r3, G' := N16 r3 } }, { i := 4, call := some { cl := false, ins := [], args := [sl 3 g53 r3, .int .i64 a1, .int .i64 a2], res := R21 r4, G' := N21 r4 } }],
    .reg [{ i := 1, call := some { cl := true, ins := [], args := [sl 3 g55 a0], res := R16 r5, G' := N16 r5 } }],
    .reg [{ i := 3, call := some { cl := false, ins := [], args := [sl 3 g53 r5, .int .i64 a1, .int .i64 a2], res := R22 r6, G' := N22 r6 } }],
    .reg [{ i := 2, dec := some false }, { i := 6, dec := some false }],
    .reg [{ i := 2, call := some { cl := true, ins := [], args := [sl 3 g55 a0], res := R16 r9, G' := N16 r9 } }, { i := 3, call := some { cl := false, ins := [], args := [sl 3 g53 r5, sl 3 g53 r9], res := R18 r10, G' := N18 r10 }, dec := some true }],
    .reg []]) (by kernel_rfl) (PL g55 a0 <| PI (1048576 : Int) <| P1 (c14 hr1) <| P2 ((decide (r1 < 0)) = false) (decide_eq_false h2) <| PL g55 a0 <| P1 (c16 hr3) <| PL g53 r3 <| PI (a1 : Int) <| PI (a2 : Int) <| P1 (c21 hr4) <| PL g55 a0 <| P1 (c16 hr5) <| PL g53 r5 <| PI (a1 : Int) <| PI (a2 : Int) <| P1 (c22 hr6) <| P2 (((r6.1 : Int) != r4.1) = false) (bneF h7) <| P2 ((!(r6.2 == r4.2)) = false) (eqF h8) <| PL g55 a0 <| P1 (c16 hr9) <| PL g53 r5 <| PL g53 r9 <| P1 (c18 hr10) <| P2 (r10 = true) (h11) <| PI true <| P0))
        (fun h11 H =>
          eRet (P := fun r => Wc X 6 0 _ _ (R6 r) (N6 r)) H <| runFin_ok T_ok mixed F6 (cmds := [.reg [],
    .reg [],
    .reg [{ i := 2, call := some { cl := true, ins := [], args := [sl 3 g55 a0, .int .i64 1048576], res := R14 r1, G' := N14 r1 } }],
    .reg [{ i := 1, dec := some false }],
    .reg [{ i := 1, call := some { cl := true, ins := [], args := [sl 3 g55 a0], res := R16 r3, G' := N16 r3 } }, { i := 4, call := some { cl := false, ins := [], args := [sl 3 g53 r3, .int .i64 a1, .int .i64 a2], res := R21 r4, G' := N21 r4 } }],
    .reg [{ i := 1, call := some { cl := true, ins := [], args := [sl 3 g55 a0], res := R16 r5, G' := N16 r5 } }],
    .reg [{ i := 3, call := some { cl := false, ins := [], args := [sl 3 g53 r5, .int .i64 a1, .int .i64 a2], res := R22 r6, G' := N22 r6 } }],
    .reg [{ i := 2, dec := some false }, { i := 6, dec := some false }],
    .reg [{ i := 2, call := some { cl := true, ins := [], args := [sl 3 g55 a0], res := R16 r9, G' := N16 r9 } }, { i := 3, call := some { cl := false, ins := [], args := [sl 3 g53 r5, sl 3 g53 r9], res := R18 r10, G' := N18 r10 }, dec := some false }],
    .reg []]) (by kernel_rfl) (PL g55 a0 <| PI (1048576 : Int) <| P1 (c14 hr1) <| P2 ((decide (r1 < 0)) = false) (decide_eq_false h2) <| PL g55 a0 <| P1 (c16 hr3) <| PL g53 r3 <| PI (a1 : Int) <| PI (a2 : Int) <| P1 (c21 hr4) <| PL g55 a0 <| P1 (c16 hr5) <| PL g53 r5 <| PI (a1 : Int) <| PI (a2 : Int) <| P1 (c22 hr6) <| P2 (((r6.1 : Int) != r4.1) = false) (bneF h7) <| P2 ((!(r6.2 == r4.2)) = false) (eqF h8) <| PL g55 a0 <| P1 (c16 hr9) <| PL g53 r5 <| PL g53 r9 <| P1 (c18 hr10) <| P2 (r10 = false) (eqF h11) <| PI false <| P0))))
    (fun h7 H =>
      eRet (P := fun r => Wc X 6 0 _ _ (R6 r) (N6 r)) H <| runFin_ok T_ok mixed F6 (cmds := [.reg [],
    .reg [],
    .reg [{ i := 2, call := some { cl := true, ins := [], args := [sl 3 g55 a0, .int .i64 1048576], res := R14 r1, G' := N14 r1 } }],
    .reg [{ i := 1, dec := some false }],
    .reg [{ i := 1, call := some { cl := true, ins := [], args := [sl 3 g55 a0], res := R16 r3, G' := N16 r3 } }, { i := 4, call := some { cl := false, ins := [], args := [sl 3 g53 r3, .int .i64 a1, .int .i64 a2], res := R21 r4, G' := N21 r4 } }],
    .reg [{ i := 1, call := some { cl := true, ins := [], args := [sl 3 g55 a0], res := R16 r5, G' := N16 r5 } }],
    .reg [{ i := 3, call := some { cl := false, ins := [], args := [sl 3 g53 r5, .int .i64 a1, .int .i64 a2], res := R22 r6, G' := N22 r6 } }],
    .reg [{ i := 2, dec := some true }],
    .reg []]) (by kernel_rfl) (PL g55 a0 <| PI (1048576 : Int) <| P1 (c14 hr1) <| P2 ((decide (r1 < 0)) = false) (decide_eq_false h2) <| PL g55 a0 <| P1 (c16 hr3) <| PL g53 r3 <| PI (a1 : Int) <| PI (a2 : Int) <| P1 (c21 hr4) <| PL g55 a0 <| P1 (c16 hr5) <| PL g53 r5 <| PI (a1 : Int) <| PI (a2 : Int) <| P1 (c22 hr6) <| P2 (((r6.1 : Int) != r4.1) = true) (bneT h7) <| PI false <| P0)))
/-! loop example/g00886/spec nTips -/
noncomputable def b46 : Code := match Go.Proofs.Try.f46.body with | some c => c | none => .skip
theorem F46 : X.P.funcs[46]? = some Go.Proofs.Try.f46 := by kernel_rfl
def R46 (r : (List Int)) : List D := [ow 1 (D.int .i64) r]
def N46 (r : (List Int)) : List Root := []
noncomputable def K46 : S46 → List Item
  | .h1 .. => nav 300 3 [] [.code b46]
  | .h2 .. => nav 300 7 [true] [.code b46]
  | .h3 .. => nav 300 11 [true, false, true] [.code b46]
  | .h4 .. => nav 300 15 [true, false, true, true] [.code b46]
def Z46 : S46 → St
  | .h1 l0 t1 t2 => ⟨sts 34 [(0, sl 3 g53 l0), (3, .nil), (9, .int .i64 t1), (10, .int .i64 t2)], []⟩
  | .h2 l0 i1 tip2 t3 t4 t5 t6 t7 => ⟨sts 34 [(0, sl 3 g53 l0), (3, .nil), (4, .int .i64 i1), (5, .bool tip2), (9, .int .i64 t3), (10, .int .i64 t4), (13, sl 3 g53 t5), (14, .int .i64 t6), (15, .int .i64 t7)], []⟩
  | .h3 l0 t1 t2 l3 => ⟨sts 34 [(0, sl 3 g53 l0), (3, .ref 0 1 none), (9, .int .i64 t1), (10, .int .i64 t2)], [some ⟨false, false, 1, List.length l3, List.map (D.int .i64) l3⟩]⟩
  | .h4 l0 i1 tip2 t3 t4 t5 t6 t7 l8 => ⟨sts 34 [(0, sl 3 g53 l0), (3, .ref 0 1 none), (4, .int .i64 i1), (5, .bool tip2), (9, .int .i64 t3), (10, .int .i64 t4), (13, sl 3 g53 t5), (14, .int .i64 t6), (15, .int .i64 t7)], [some ⟨false, false, 1, List.length l8, List.map (D.int .i64) l8⟩]⟩
theorem n46 : ∀ s o, B46 s = some o → Nx X 46 0 K46 Z46 R46 N46 (K46 s) (Z46 s) o
  | .h1 l0 t1 t2, o, H =>
    eIf H (fun h1 H =>
      eRet (P := Nx X 46 0 K46 Z46 R46 N46 (K46 (.h1 l0 t1 t2)) (Z46 (.h1 l0 t1 t2))) H fun r hn => run_ok T_ok mixed (cmds := [.reg [{ i := 0, dec := some true }],
    .reg [],
    .reg [],
    .reg [],
    .canon [] [0, 3, 4, 5, 9, 10, 13, 14, 15]]) (by kernel_rfl) (P2 ((decide (t2 < t1)) = true) (decide_eq_true h1) <| P0) hn)
    (fun h1 H =>
      eRet (P := Nx X 46 0 K46 Z46 R46 N46 (K46 (.h1 l0 t1 t2)) (Z46 (.h1 l0 t1 t2))) H <| runFin_ok T_ok mixed F46 (cmds := [.reg [{ i := 0, dec := some false }],
    .reg []]) (by kernel_rfl) (P2 ((decide (t2 < t1)) = false) (decide_eq_false h1) <| PI (0 : Nat) <| PI ([] : List D) <| P0))
  | .h2 l0 i1 true t3 t4 t5 t6 t7, o, H =>
    eIf H (fun h1 H =>
      eCk H fun h2 H =>
      eBind H fun x3 hx3 H =>
      eRet (P := Nx X 46 0 K46 Z46 R46 N46 (K46 (.h2 l0 i1 true t3 t4 t5 t6 t7)) (Z46 (.h2 l0 i1 true t3 t4 t5 t6 t7))) H fun r hn => run_ok T_ok mixed (cmds := [.reg [{ i := 0, dec := some true }],
    .reg [{ i := 1, xs := [.int .i64 x3.Parent, .int .i64 x3.Turn, .int .i64 x3.Hash] }],
    .reg [{ i := 3, xs := [.int .i64 x3.Parent] }],
    .reg [],
    .canon [] [0, 3, 4, 5, 9, 10, 13, 14, 15]]) (by kernel_rfl) (P2 ((decide (t7 < t6)) = true) (decide_eq_true h1) <| P2 ((0 : Int) ≤ t7) h2 <| P2 (t7 < (List.length t5 : Int)) (int_lt_of_at (h2) hx3) <| P2 (getCells (List.map g53 t5) (Int.toNat t7) 0 3 = some [.int .i64 x3.Parent, .int .i64 x3.Turn, .int .i64 x3.Hash]) (getCells_map hx3 rfl) <| PI (some [.int .i64 x3.Parent] : Option (List D)) <| P0) hn)
    (fun h1 H =>
      eCk H fun h2 H =>
      eRet (P := Nx X 46 0 K46 Z46 R46 N46 (K46 (.h2 l0 i1 true t3 t4 t5 t6 t7)) (Z46 (.h2 l0 i1 true t3 t4 t5 t6 t7))) H fun r hn => run_ok T_ok mixed (cmds := [.reg [{ i := 0, dec := some false }],
    .reg [],
    .reg [{ i := 3, n := List.length [i1], xs := List.map (D.int .i64) [i1] }],
    .reg [],
    .canon [1] [0, 3, 9, 10]]) (by kernel_rfl) (P2 ((decide (t7 < t6)) = false) (decide_eq_false h1) <| P2 (List.length [i1] = 0 + List.length [i1]) (by simp <;> omega) <| P2 ((0 + List.length [i1]) * 8 ≤ 70368744177664) (by have := h2; simp at this ⊢ <;> omega) <| P2 (([] : List D) ++ List.map (D.int .i64) [i1] = List.map (D.int .i64) [i1]) (by simp) <| P0) hn)
  | .h2 l0 i1 false t3 t4 t5 t6 t7, o, H =>
    eIf H (fun h1 H =>
      eCk H fun h2 H =>
      eBind H fun x3 hx3 H =>
      eRet (P := Nx X 46 0 K46 Z46 R46 N46 (K46 (.h2 l0 i1 false t3 t4 t5 t6 t7)) (Z46 (.h2 l0 i1 false t3 t4 t5 t6 t7))) H fun r hn => run_ok T_ok mixed (cmds := [.reg [{ i := 0, dec := some true }],
    .reg [{ i := 1, xs := [.int .i64 x3.Parent, .int .i64 x3.Turn, .int .i64 x3.Hash] }],
    .reg [],
    .reg [],
    .canon [] [0, 3, 4, 5, 9, 10, 13, 14, 15]]) (by kernel_rfl) (P2 ((decide (t7 < t6)) = true) (decide_eq_true h1) <| P2 ((0 : Int) ≤ t7) h2 <| P2 (t7 < (List.length t5 : Int)) (int_lt_of_at (h2) hx3) <| P2 (getCells (List.map g53 t5) (Int.toNat t7) 0 3 = some [.int .i64 x3.Parent, .int .i64 x3.Turn, .int .i64 x3.Hash]) (getCells_map hx3 rfl) <| P0) hn)
    (fun h1 H =>
      eRet (P := Nx X 46 0 K46 Z46 R46 N46 (K46 (.h2 l0 i1 false t3 t4 t5 t6 t7)) (Z46 (.h2 l0 i1 false t3 t4 t5 t6 t7))) H fun r hn => run_ok T_ok mixed (cmds := [.reg [{ i := 0, dec := some false }],
    .reg [],
    .reg [],
    .canon [] [0, 3, 9, 10]]) (by kernel_rfl) (P2 ((decide (t7 < t6)) = false) (decide_eq_false h1) <| P0) hn)
  | .h3 l0 t1 t2 l3, o, H =>
    eIf H (fun h1 H =>
      eRet (P := Nx X 46 0 K46 Z46 R46 N46 (K46 (.h3 l0 t1 t2 l3)) (Z46 (.h3 l0 t1 t2 l3))) H fun r hn => run_ok T_ok mixed (cmds := [.reg [{ i := 0, dec := some true }],
    .reg [],
    .reg [],
    .reg [],
    .canon [0] [0, 3, 4, 5, 9, 10, 13, 14, 15]]) (by kernel_rfl) (P2 ((decide (t2 < t1)) = true) (decide_eq_true h1) <| P0) hn)
    (fun h1 H =>
      eRet (P := Nx X 46 0 K46 Z46 R46 N46 (K46 (.h3 l0 t1 t2 l3)) (Z46 (.h3 l0 t1 t2 l3))) H <| runFin_ok T_ok mixed F46 (cmds := [.reg [{ i := 0, dec := some false }],
    .reg []]) (by kernel_rfl) (P2 ((decide (t2 < t1)) = false) (decide_eq_false h1) <| PR (D.int .i64) l3 <| P0))
  | .h4 l0 i1 true t3 t4 t5 t6 t7 l8, o, H =>
    eIf H (fun h1 H =>
      eCk H fun h2 H =>
      eBind H fun x3 hx3 H =>
      eRet (P := Nx X 46 0 K46 Z46 R46 N46 (K46 (.h4 l0 i1 true t3 t4 t5 t6 t7 l8)) (Z46 (.h4 l0 i1 true t3 t4 t5 t6 t7 l8))) H fun r hn => run_ok T_ok mixed (cmds := [.reg [{ i := 0, dec := some true }],
    .reg [{ i := 1, xs := [.int .i64 x3.Parent, .int .i64 x3.Turn, .int .i64 x3.Hash] }],
    .reg [{ i := 3, xs := [.int .i64 x3.Parent] }],
    .reg [],
    .canon [0] [0, 3, 4, 5, 9, 10, 13, 14, 15]]) (by kernel_rfl) (P2 ((decide (t7 < t6)) = true) (decide_eq_true h1) <| P2 ((0 : Int) ≤ t7) h2 <| P2 (t7 < (List.length t5 : Int)) (int_lt_of_at (h2) hx3) <| P2 (getCells (List.map g53 t5) (Int.toNat t7) 0 3 = some [.int .i64 x3.Parent, .int .i64 x3.Turn, .int .i64 x3.Hash]) (getCells_map hx3 rfl) <| PI (some [.int .i64 x3.Parent] : Option (List D)) <| P0) hn)
    (fun h1 H =>
      eCk H fun h2 H =>
      eRet (P := Nx X 46 0 K46 Z46 R46 N46 (K46 (.h4 l0 i1 true t3 t4 t5 t6 t7 l8)) (Z46 (.h4 l0 i1 true t3 t4 t5 t6 t7 l8))) H fun r hn => run_ok T_ok mixed (cmds := [.reg [{ i := 0, dec := some false }],
    .reg [],
    .reg [{ i := 3, n := List.length (l8 ++ [i1]), xs := List.map (D.int .i64) (l8 ++ [i1]) }],
    .reg [],
    .canon [2] [0, 3, 9, 10]]) (by kernel_rfl) (P2 ((decide (t7 < t6)) = false) (decide_eq_false h1) <| P2 (List.length (l8 ++ [i1]) = List.length l8 + List.length [i1]) (by simp <;> omega) <| P2 ((List.length l8 + List.length [i1]) * 8 ≤ 70368744177664) (by have := h2; simp at this ⊢ <;> omega) <| P2 (List.map (D.int .i64) l8 ++ List.map (D.int .i64) [i1] = List.map (D.int .i64) (l8 ++ [i1])) (by simp) <| P0) hn)
  | .h4 l0 i1 false t3 t4 t5 t6 t7 l8, o, H =>
    eIf H (fun h1 H =>
      eCk H fun h2 H =>
      eBind H fun x3 hx3 H =>
      eRet (P := Nx X 46 0 K46 Z46 R46 N46 (K46 (.h4 l0 i1 false t3 t4 t5 t6 t7 l8)) (Z46 (.h4 l0 i1 false t3 t4 t5 t6 t7 l8))) H fun r hn => run_ok T_ok mixed (cmds := [.reg [{ i := 0, dec := some true }],
    .reg [{ i := 1, xs := [.int .i64 x3.Parent, .int .i64 x3.Turn, .int .i64 x3.Hash] }],
    .reg [],
    .reg [],
    .canon [0] [0, 3, 4, 5, 9, 10, 13, 14, 15]]) (by kernel_rfl) (P2 ((decide (t7 < t6)) = true) (decide_eq_true h1) <| P2 ((0 : Int) ≤ t7) h2 <| P2 (t7 < (List.length t5 : Int)) (int_lt_of_at (h2) hx3) <| P2 (getCells (List.map g53 t5) (Int.toNat t7) 0 3 = some [.int .i64 x3.Parent, .int .i64 x3.Turn, .int .i64 x3.Hash]) (getCells_map hx3 rfl) <| P0) hn)
    (fun h1 H =>
      eRet (P := Nx X 46 0 K46 Z46 R46 N46 (K46 (.h4 l0 i1 false t3 t4 t5 t6 t7 l8)) (Z46 (.h4 l0 i1 false t3 t4 t5 t6 t7 l8))) H fun r hn => run_ok T_ok mixed (cmds := [.reg [{ i := 0, dec := some false }],
    .reg [],
    .reg [],
    .canon [0] [0, 3, 9, 10]]) (by kernel_rfl) (P2 ((decide (t7 < t6)) = false) (decide_eq_false h1) <| P0) hn)
theorem w46 : ∀ s r, loop B46 s = some r → Wc X 46 0 (K46 s) (Z46 s) (R46 r) (N46 r) := Nx.all n46
theorem c46 {a0 : (List G53)} {r : (List Int)} (H : D46 a0 = some r) : Ct X.P X.gl 46 [sl 3 g53 a0] [] (R46 r) (N46 r) :=
  Ct.of F46 (c := b46) (by kernel_rfl) (by kernel_rfl) <|
  run_ok T_ok mixed (cmds := [.reg [],
    .reg [],
    .reg [],
    .canon [] [0, 3, 9, 10]]) (by kernel_rfl) (P0) (w46 _ _ H)
/-! loop example/g00886/spec MainTip -/
noncomputable def b23 : Code := match Go.Proofs.Try.f23.body with | some c => c | none => .skip
theorem F23 : X.P.funcs[23]? = some Go.Proofs.Try.f23 := by kernel_rfl
def R23 (r : Int × Bool) : List D := [.int .i64 r.1, .bool r.2]
def N23 (r : Int × Bool) : List Root := []
noncomputable def K23 : S23 → List Item
  | .h1 .. => nav 300 4 [false] [.code b23]
def Z23 : S23 → St
  | .h1 l0 best1 t2 t3 l4 => ⟨sts 35 [(0, sl 3 g53 l0), (4, .int .i64 best1), (11, .ref 0 1 none), (12, .int .i64 t2), (13, .int .i64 t3)], [some ⟨false, false, 1, List.length l4, List.map (D.int .i64) l4⟩]⟩
theorem n23 : ∀ s o, B23 s = some o → Nx X 23 0 K23 Z23 R23 N23 (K23 s) (Z23 s) o
  | .h1 l0 best1 t2 t3 l4, o, H =>
    eIf H (fun h1 H =>
      eCk H fun h2 H =>
      eBind H fun x3 hx3 H =>
      eIf H (fun h4 H =>
        eRet (P := Nx X 23 0 K23 Z23 R23 N23 (K23 (.h1 l0 best1 t2 t3 l4)) (Z23 (.h1 l0 best1 t2 t3 l4))) H fun r hn => run_ok T_ok mixed (cmds := [.reg [{ i := 0, dec := some true }],
    .reg [{ i := 1, xs := [.int .i64 x3] }],
    .reg [{ i := 1, dec := some true }],
    .reg [],
    .reg [],
    .canon [0] [0, 4, 11, 12, 13]]) (by kernel_rfl) (P2 ((decide (t3 < t2)) = true) (decide_eq_true h1) <| P2 ((0 : Int) ≤ t3) h2 <| P2 (t3 < (List.length l4 : Int)) (int_lt_of_at (h2) hx3) <| P2 (getCells (List.map (D.int .i64) l4) (Int.toNat t3) 0 1 = some [.int .i64 x3]) (getCells_map hx3 rfl) <| P2 ((decide (best1 < 0)) = true) (decide_eq_true h4) <| P0) hn)
      (fun h4 H =>
        eCk H fun h5 H =>
        eBind H fun x6 hx6 H =>
        eCk H fun h7 H =>
        eBind H fun x8 hx8 H =>
        eIf H (fun h9 H =>
          eRet (P := Nx X 23 0 K23 Z23 R23 N23 (K23 (.h1 l0 best1 t2 t3 l4)) (Z23 (.h1 l0 best1 t2 t3 l4))) H fun r hn => run_ok T_ok mixed (cmds := [.reg [{ i := 0, dec := some true }],
    .reg [{ i := 1, xs := [.int .i64 x3] }],
    .reg [{ i := 1, dec := some false }, { i := 7, xs := [.int .i64 x6.Turn] }, { i := 12, xs := [.int .i64 x8.Turn] }, { i := 13, dec := some true }],
    .reg [],
    .reg [],
    .canon [0] [0, 4, 11, 12, 13]]) (by kernel_rfl) (P2 ((decide (t3 < t2)) = true) (decide_eq_true h1) <| P2 ((0 : Int) ≤ t3) h2 <| P2 (t3 < (List.length l4 : Int)) (int_lt_of_at (h2) hx3) <| P2 (getCells (List.map (D.int .i64) l4) (Int.toNat t3) 0 1 = some [.int .i64 x3]) (getCells_map hx3 rfl) <| P2 ((decide (best1 < 0)) = false) (decide_eq_false h4) <| P2 ((0 : Int) ≤ x3) h5 <| P2 (x3 < (List.length l0 : Int)) (int_lt_of_at (h5) hx6) <| P2 (getCells (List.map g53 l0) (Int.toNat x3) 1 1 = some [.int .i64 x6.Turn]) (getCells_map hx6 rfl) <| P2 ((0 : Int) ≤ best1) h7 <| P2 (best1 < (List.length l0 : Int)) (int_lt_of_at (h7) hx8) <| P2 (getCells (List.map g53 l0) (Int.toNat best1) 1 1 = some [.int .i64 x8.Turn]) (getCells_map hx8 rfl) <| P2 ((decide (x6.Turn > x8.Turn)) = true) (decide_eq_true h9) <| P0) hn)
        (fun h9 H =>
          eRet (P := Nx X 23 0 K23 Z23 R23 N23 (K23 (.h1 l0 best1 t2 t3 l4)) (Z23 (.h1 l0 best1 t2 t3 l4))) H fun r hn => run_ok T_ok mixed (cmds := [.reg [{ i := 0, dec := some true }],
    .reg [{ i := 1, xs := [.int .i64 x3] }],
    .reg [{ i := 1, dec := some false }, { i := 7, xs := [.int .i64 x6.Turn] }, { i := 12, xs := [.int .i64 x8.Turn] }, { i := 13, dec := some false }],
    .reg [],
    .canon [0] [0, 4, 11, 12, 13]]) (by kernel_rfl) (P2 ((decide (t3 < t2)) = true) (decide_eq_true h1) <| P2 ((0 : Int) ≤ t3) h2 <| P2 (t3 < (List.length l4 : Int)) (int_lt_of_at (h2) hx3) <| P2 (getCells (List.map (D.int .i64) l4) (Int.toNat t3) 0 1 = some [.int .i64 x3]) (getCells_map hx3 rfl) <| P2 ((decide (best1 < 0)) = false) (decide_eq_false h4) <| P2 ((0 : Int) ≤ x3) h5 <| P2 (x3 < (List.length l0 : Int)) (int_lt_of_at (h5) hx6) <| P2 (getCells (List.map g53 l0) (Int.toNat x3) 1 1 = some [.int .i64 x6.Turn]) (getCells_map hx6 rfl) <| P2 ((0 : Int) ≤ best1) h7 <| P2 (best1 < (List.length l0 : Int)) (int_lt_of_at (h7) hx8) <| P2 (getCells (List.map g53 l0) (Int.toNat best1) 1 1 = some [.int .i64 x8.Turn]) (getCells_map hx8 rfl) <| P2 ((decide (x6.Turn > x8.Turn)) = false) (decide_eq_false h9) <| P0) hn)))
    (fun h1 H =>
      eRet (P := Nx X 23 0 K23 Z23 R23 N23 (K23 (.h1 l0 best1 t2 t3 l4)) (Z23 (.h1 l0 best1 t2 t3 l4))) H <| runFin_ok T_ok mixed F23 (cmds := [.reg [{ i := 0, dec := some false }],
    .reg []]) (by kernel_rfl) (P2 ((decide (t3 < t2)) = false) (decide_eq_false h1) <| PI (best1 : Int) <| PI true <| P0))
theorem w23 : ∀ s r, loop B23 s = some r → Wc X 23 0 (K23 s) (Z23 s) (R23 r) (N23 r) := Nx.all n23
theorem c23 {a0 : (List G53)} {r : Int × Bool} (H : D23 a0 = some r) : Ct X.P X.gl 23 [sl 3 g53 a0] [] (R23 r) (N23 r) :=
  Ct.of F23 (c := b23) (by kernel_rfl) (by kernel_rfl) <|
  eBind H fun r1 hr1 H =>
  eIf H (fun h2 H =>
    eBind H fun r3 hr3 H =>
    run_ok T_ok mixed (cmds := [.reg [],
    .reg [{ i := 1, call := some { cl := true, ins := [], args := [sl 3 g53 a0], res := R36 r1, G' := N36 r1 }, dec := some true }],
    .reg [],
    .reg [{ i := 1, call := some { cl := true, ins := [], args := [sl 3 g53 a0], res := R46 r3, G' := N46 r3 } }],
    .canon [0] [0, 4, 11, 12, 13]]) (by kernel_rfl) (PL g53 a0 <| P1 (c36 hr1) <| P2 (r1 = true) (h2) <| PL g53 a0 <| P1 (c46 hr3) <| P0) (w23 _ _ H))
  (fun h2 H =>
    eRet (P := fun r => Wc X 23 0 _ _ (R23 r) (N23 r)) H <| runFin_ok T_ok mixed F23 (cmds := [.reg [],
    .reg [{ i := 1, call := some { cl := true, ins := [], args := [sl 3 g53 a0], res := R36 r1, G' := N36 r1 }, dec := some false }],
    .reg []]) (by kernel_rfl) (PL g53 a0 <| P1 (c36 hr1) <| P2 (r1 = false) (eqF h2) <| PI (0 : Int) <| PI false <| P0))
/-! loop example/g00886/impl tipsOf 1 -/
noncomputable def b58 : Code := match Go.Proofs.Try.f58.body with | some c => c | none => .skip
theorem F58 : X.P.funcs[58]? = some Go.Proofs.Try.f58 := by kernel_rfl
def R58 (r : Bool) : List D := [.bool r]
def N58 (r : Bool) : List Root := []
theorem c58 {a0 : G53} {a1 : Int} {r : Bool} (H : D58 a0 a1 = some r) : Ct X.P X.gl 58 [.agg [.int .i64 a0.Parent, .int .i64 a0.Turn, .int .i64 a0.Hash], .fptr 1 [.agg [.int .i64 a1]] 0 0] [] (R58 r) (N58 r) :=
  Ct.of F58 (c := b58) (by kernel_rfl) (by kernel_rfl) <|
  eRet (P := fun r => Wc X 58 0 _ _ (R58 r) (N58 r)) H <| runFin_ok T_ok mixed F58 (cmds := [.reg [],
    .reg [{ i := 1, xs := [.int .i64 a0.Parent] }, { i := 2, xs := [.int .i64 a1] }]]) (by kernel_rfl) (PI (some [.int .i64 a0.Parent] : Option (List D)) <| PI (some [.int .i64 a1] : Option (List D)) <| PI ((a0.Parent : Int) == a1) <| P0)
/-! slices IndexFunc   loop example/g00886/impl Node loop example/g00886/impl Node  -/
noncomputable def b54f58q : Code := match Go.Proofs.Try.f54.body with | some c => c | none => .skip
theorem F54f58q : X.P.funcs[54]? = some Go.Proofs.Try.f54 := by kernel_rfl
def R54f58q (r : Int) : List D := [.int .i64 r]
def N54f58q (r : Int) : List Root := []
noncomputable def K54f58q : S54f58q → List Item
  | .h1 .. => nav 300 2 [] [.code b54f58q]
def Z54f58q : S54f58q → St
  | .h1 s0 f1 t2 t3 => ⟨sts 19 [(0, sl 3 g53 s0), (1, .fn 58 [.fptr 1 [.agg [.int .i64 f1]] 0 0]), (7, .int .i64 t2), (8, .int .i64 t3)], []⟩
theorem n54f58q : ∀ s o, B54f58q s = some o → Nx X 54 0 K54f58q Z54f58q R54f58q N54f58q (K54f58q s) (Z54f58q s) o
  | .h1 s0 f1 t2 t3, o, H =>
    eIf H (fun h1 H =>
      eCk H fun h2 H =>
      eBind H fun x3 hx3 H =>
      eBind H fun r4 hr4 H =>
      eIf H (fun h5 H =>
        eRet (P := Nx X 54 0 K54f58q Z54f58q R54f58q N54f58q (K54f58q (.h1 s0 f1 t2 t3)) (Z54f58q (.h1 s0 f1 t2 t3))) H <| runFin_ok T_ok mixed F54f58q (cmds := [.reg [{ i := 0, dec := some true }],
    .reg [],
    .reg [{ i := 4, xs := [.int .i64 x3.Parent, .int .i64 x3.Turn, .int .i64 x3.Hash] }, { i := 5, call := some { cl := true, ins := [], args := [.agg [.int .i64 x3.Parent, .int .i64 x3.Turn, .int .i64 x3.Hash], .fptr 1 [.agg [.int .i64 f1]] 0 0], res := R58 r4, G' := N58 r4 }, dec := some true }],
    .reg []]) (by kernel_rfl) (P2 ((decide (t3 < t2)) = true) (decide_eq_true h1) <| P2 ((0 : Int) ≤ t3) h2 <| P2 (t3 < (List.length s0 : Int)) (int_lt_of_at (h2) hx3) <| P2 (getCells (List.map g53 s0) (Int.toNat t3) 0 3 = some [.int .i64 x3.Parent, .int .i64 x3.Turn, .int .i64 x3.Hash]) (getCells_map hx3 rfl) <| PI (x3.Parent : Int) <| PI (x3.Turn : Int) <| PI (x3.Hash : Int) <| PI (erL [.agg [.int .i64 f1]]) <| PI (0 : Nat) <| PI (0 : Nat) <| P1 (c58 hr4) <| P2 (r4 = true) (h5) <| PI (t3 : Int) <| P0))
      (fun h5 H =>
        eRet (P := Nx X 54 0 K54f58q Z54f58q R54f58q N54f58q (K54f58q (.h1 s0 f1 t2 t3)) (Z54f58q (.h1 s0 f1 t2 t3))) H fun r hn => run_ok T_ok mixed (cmds := [.reg [{ i := 0, dec := some true }],
    .reg [],
    .reg [{ i := 4, xs := [.int .i64 x3.Parent, .int .i64 x3.Turn, .int .i64 x3.Hash] }, { i := 5, call := some { cl := true, ins := [], args := [.agg [.int .i64 x3.Parent, .int .i64 x3.Turn, .int .i64 x3.Hash], .fptr 1 [.agg [.int .i64 f1]] 0 0], res := R58 r4, G' := N58 r4 }, dec := some false }],
    .reg [],
    .canon [] [0, 1, 7, 8]]) (by kernel_rfl) (P2 ((decide (t3 < t2)) = true) (decide_eq_true h1) <| P2 ((0 : Int) ≤ t3) h2 <| P2 (t3 < (List.length s0 : Int)) (int_lt_of_at (h2) hx3) <| P2 (getCells (List.map g53 s0) (Int.toNat t3) 0 3 = some [.int .i64 x3.Parent, .int .i64 x3.Turn, .int .i64 x3.Hash]) (getCells_map hx3 rfl) <| PI (x3.Parent : Int) <| PI (x3.Turn : Int) <| PI (x3.Hash : Int) <| PI (erL [.agg [.int .i64 f1]]) <| PI (0 : Nat) <| PI (0 : Nat) <| P1 (c58 hr4) <| P2 (r4 = false) (eqF h5) <| P0) hn))
    (fun h1 H =>
      eRet (P := Nx X 54 0 K54f58q Z54f58q R54f58q N54f58q (K54f58q (.h1 s0 f1 t2 t3)) (Z54f58q (.h1 s0 f1 t2 t3))) H <| runFin_ok T_ok mixed F54f58q (cmds := [.reg [{ i := 0, dec := some false }],
    .reg []]) (by kernel_rfl) (P2 ((decide (t3 < t2)) = false) (decide_eq_false h1) <| PI ((-1) : Int) <| P0))
theorem w54f58q : ∀ s r, loop B54f58q s = some r → Wc X 54 0 (K54f58q s) (Z54f58q s) (R54f58q r) (N54f58q r) := Nx.all n54f58q
theorem c54f58q {a0 : (List G53)} {a100 : Int} {r : Int} (H : D54f58q a0 a100 = some r) : Ct X.P X.gl 54 [sl 3 g53 a0, .fn 58 [.fptr 1 [.agg [.int .i64 a100]] 0 0]] [] (R54f58q r) (N54f58q r) :=
  Ct.of F54f58q (c := b54f58q) (by kernel_rfl) (by kernel_rfl) <|
  run_ok T_ok mixed (cmds := [.reg [],
    .reg [],
    .canon [] [0, 1, 7, 8]]) (by kernel_rfl) (P0) (w54f58q _ _ H)
/-! slices ContainsFunc   loop example/g00886/impl Node loop example/g00886/impl Node  -/
noncomputable def b57f58q : Code := match Go.Proofs.Try.f57.body with | some c => c | none => .skip
theorem F57f58q : X.P.funcs[57]? = some Go.Proofs.Try.f57 := by kernel_rfl
def R57f58q (r : Bool) : List D := [.bool r]
def N57f58q (r : Bool) : List Root := []
theorem c57f58q {a0 : (List G53)} {a100 : Int} {r : Bool} (H : D57f58q a0 a100 = some r) : Ct X.P X.gl 57 [sl 3 g53 a0, .fn 58 [.fptr 1 [.agg [.int .i64 a100]] 0 0]] [] (R57f58q r) (N57f58q r) :=
  Ct.of F57f58q (c := b57f58q) (by kernel_rfl) (by kernel_rfl) <|
  eBind H fun r1 hr1 H =>
  eRet (P := fun r => Wc X 57 0 _ _ (R57f58q r) (N57f58q r)) H <| runFin_ok T_ok mixed F57f58q (cmds := [.reg [],
    .reg [{ i := 2, call := some { cl := true, ins := [], args := [sl 3 g53 a0, .fn 58 [.fptr 1 [.agg [.int .i64 a100]] 0 0]], res := R54f58q r1, G' := N54f58q r1 } }]]) (by kernel_rfl) (PL g53 a0 <| PI (erL [.agg [.int .i64 a100]]) <| PI (0 : Nat) <| PI (0 : Nat) <| P1 (c54f58q hr1) <| PI (decide (r1 ≥ 0)) <| P0)
/-! loop example/g00886/impl tipsOf -/
noncomputable def b47 : Code := match Go.Proofs.Try.f47.body with | some c => c | none => .skip
theorem F47 : X.P.funcs[47]? = some Go.Proofs.Try.f47 := by kernel_rfl
def R47 (r : (List Int)) : List D := [ow 1 (D.int .i64) r]
def N47 (r : (List Int)) : List Root := []
noncomputable def K47 : S47 → List Item
  | .h1 .. => nav 300 3 [] [.code b47]
def Z47 : S47 → St
  | .h1 l0 t1 t2 l3 => ⟨sts 21 [(0, sl 3 g53 l0), (3, .ref 0 1 none), (7, .int .i64 t1), (8, .int .i64 t2)], [some ⟨false, false, 1, List.length l3, List.map (D.int .i64) l3⟩]⟩
theorem n47 : ∀ s o, B47 s = some o → Nx X 47 0 K47 Z47 R47 N47 (K47 s) (Z47 s) o
  | .h1 l0 t1 t2 l3, o, H =>
    eIf H (fun h1 H =>
      eBind H fun r2 hr2 H =>
      eIf H (fun h3 H =>
        eRet (P := Nx X 47 0 K47 Z47 R47 N47 (K47 (.h1 l0 t1 t2 l3)) (Z47 (.h1 l0 t1 t2 l3))) H fun r hn => run_ok T_ok mixed (cmds := [.reg [{ i := 0, dec := some true }],
    .reg [],
    .reg [{ i := 2, call := some { cl := false, ins := [], args := [sl 3 g53 l0, .fn 58 [.fptr 1 [.agg [.int .i64 t2]] 0 0]], res := R57f58q r2, G' := N57f58q r2 }, dec := some true }],
    .reg [],
    .canon [0] [0, 3, 7, 8]]) (by kernel_rfl) (P2 ((decide (t2 < t1)) = true) (decide_eq_true h1) <| PL g53 l0 <| PI (0 : Nat) <| PI (0 : Nat) <| PI (t2 : Int) <| P1 (c57f58q hr2) <| P2 (r2 = true) (h3) <| P0) hn)
      (fun h3 H =>
        eCk H fun h4 H =>
        eRet (P := Nx X 47 0 K47 Z47 R47 N47 (K47 (.h1 l0 t1 t2 l3)) (Z47 (.h1 l0 t1 t2 l3))) H fun r hn => run_ok T_ok mixed (cmds := [.reg [{ i := 0, dec := some true }],
    .reg [],
    .reg [{ i := 2, call := some { cl := false, ins := [], args := [sl 3 g53 l0, .fn 58 [.fptr 1 [.agg [.int .i64 t2]] 0 0]], res := R57f58q r2, G' := N57f58q r2 }, dec := some false }],
    .reg [{ i := 1, xs := [.int .i64 t2] }, { i := 3, n := List.length (l3 ++ [t2]), xs := List.map (D.int .i64) (l3 ++ [t2]) }],
    .reg [],
    .canon [3] [0, 3, 7, 8]]) (by kernel_rfl) (P2 ((decide (t2 < t1)) = true) (decide_eq_true h1) <| PL g53 l0 <| PI (0 : Nat) <| PI (0 : Nat) <| PI (t2 : Int) <| P1 (c57f58q hr2) <| P2 (r2 = false) (eqF h3) <| PI (some [.int .i64 t2] : Option (List D)) <| P2 (List.length (l3 ++ [t2]) = List.length l3 + List.length [t2]) (by simp <;> omega) <| P2 ((List.length l3 + List.length [t2]) * 8 ≤ 70368744177664) (by have := h4; simp at this ⊢ <;> omega) <| P2 (List.map (D.int .i64) l3 ++ List.map (D.int .i64) [t2] = List.map (D.int .i64) (l3 ++ [t2])) (by simp) <| P0) hn))
    (fun h1 H =>
      eRet (P := Nx X 47 0 K47 Z47 R47 N47 (K47 (.h1 l0 t1 t2 l3)) (Z47 (.h1 l0 t1 t2 l3))) H <| runFin_ok T_ok mixed F47 (cmds := [.reg [{ i := 0, dec := some false }],
    .reg []]) (by kernel_rfl) (P2 ((decide (t2 < t1)) = false) (decide_eq_false h1) <| PR (D.int .i64) l3 <| P0))
theorem w47 : ∀ s r, loop B47 s = some r → Wc X 47 0 (K47 s) (Z47 s) (R47 r) (N47 r) := Nx.all n47
theorem c47 {a0 : (List G53)} {r : (List Int)} (H : D47 a0 = some r) : Ct X.P X.gl 47 [sl 3 g53 a0] [] (R47 r) (N47 r) :=
  Ct.of F47 (c := b47) (by kernel_rfl) (by kernel_rfl) <|
  run_ok T_ok mixed (cmds := [.reg [],
    .reg [],
    .reg [],
    .canon [0] [0, 3, 7, 8]]) (by kernel_rfl) (P0) (w47 _ _ H)
/-! loop example/g00886/impl MainTip -/
noncomputable def b24 : Code := match Go.Proofs.Try.f24.body with | some c => c | none => .skip
theorem F24 : X.P.funcs[24]? = some Go.Proofs.Try.f24 := by kernel_rfl
def R24 (r : Int × Bool) : List D := [.int .i64 r.1, .bool r.2]
def N24 (r : Int × Bool) : List Root := []
noncomputable def K24 : S24 → List Item
  | .h1 .. => nav 300 4 [false] [.code b24]
def Z24 : S24 → St
  | .h1 l0 best1 t2 t3 l4 => ⟨sts 35 [(0, sl 3 g53 l0), (4, .int .i64 best1), (11, .ref 0 1 none), (12, .int .i64 t2), (13, .int .i64 t3)], [some ⟨false, false, 1, List.length l4, List.map (D.int .i64) l4⟩]⟩
theorem n24 : ∀ s o, B24 s = some o → Nx X 24 0 K24 Z24 R24 N24 (K24 s) (Z24 s) o
  | .h1 l0 best1 t2 t3 l4, o, H =>
    eIf H (fun h1 H =>
      eCk H fun h2 H =>
      eBind H fun x3 hx3 H =>
      eIf H (fun h4 H =>
        eRet (P := Nx X 24 0 K24 Z24 R24 N24 (K24 (.h1 l0 best1 t2 t3 l4)) (Z24 (.h1 l0 best1 t2 t3 l4))) H fun r hn => run_ok T_ok mixed (cmds := [.reg [{ i := 0, dec := some true }],
    .reg [{ i := 1, xs := [.int .i64 x3] }],
    .reg [{ i := 1, dec := some true }],
    .reg [],
    .reg [],
    .canon [0] [0, 4, 11, 12, 13]]) (by kernel_rfl) (P2 ((decide (t3 < t2)) = true) (decide_eq_true h1) <| P2 ((0 : Int) ≤ t3) h2 <| P2 (t3 < (List.length l4 : Int)) (int_lt_of_at (h2) hx3) <| P2 (getCells (List.map (D.int .i64) l4) (Int.toNat t3) 0 1 = some [.int .i64 x3]) (getCells_map hx3 rfl) <| P2 ((decide (best1 < 0)) = true) (decide_eq_true h4) <| P0) hn)
      (fun h4 H =>
        eCk H fun h5 H =>
        eBind H fun x6 hx6 H =>
        eCk H fun h7 H =>
        eBind H fun x8 hx8 H =>
        eIf H (fun h9 H =>
          eRet (P := Nx X 24 0 K24 Z24 R24 N24 (K24 (.h1 l0 best1 t2 t3 l4)) (Z24 (.h1 l0 best1 t2 t3 l4))) H fun r hn => run_ok T_ok mixed (cmds := [.reg [{ i := 0, dec := some true }],
    .reg [{ i := 1, xs := [.int .i64 x3] }],
    .reg [{ i := 1, dec := some false }, { i := 7, xs := [.int .i64 x6.Turn] }, { i := 12, xs := [.int .i64 x8.Turn] }, { i := 13, dec := some true }],
    .reg [],
    .reg [],
    .canon [0] [0, 4, 11, 12, 13]]) (by kernel_rfl) (P2 ((decide (t3 < t2)) = true) (decide_eq_true h1) <| P2 ((0 : Int) ≤ t3) h2 <| P2 (t3 < (List.length l4 : Int)) (int_lt_of_at (h2) hx3) <| P2 (getCells (List.map (D.int .i64) l4) (Int.toNat t3) 0 1 = some [.int .i64 x3]) (getCells_map hx3 rfl) <| P2 ((decide (best1 < 0)) = false) (decide_eq_false h4) <| P2 ((0 : Int) ≤ x3) h5 <| P2 (x3 < (List.length l0 : Int)) (int_lt_of_at (h5) hx6) <| P2 (getCells (List.map g53 l0) (Int.toNat x3) 1 1 = some [.int .i64 x6.Turn]) (getCells_map hx6 rfl) <| P2 ((0 : Int) ≤ best1) h7 <| P2 (best1 < (List.length l0 : Int)) (int_lt_of_at (h7) hx8) <| P2 (getCells (List.map g53 l0) (Int.toNat best1) 1 1 = some [.int .i64 x8.Turn]) (getCells_map hx8 rfl) <| P2 ((decide (x6.Turn > x8.Turn)) = true) (decide_eq_true h9) <| P0) hn)
        (fun h9 H =>
          eRet (P := Nx X 24 0 K24 Z24 R24 N24 (K24 (.h1 l0 best1 t2 t3 l4)) (Z24 (.h1 l0 best1 t2 t3 l4))) H fun r hn => run_ok T_ok mixed (cmds := [.reg [{ i := 0, dec := some true }],
    .reg [{ i := 1, xs := [.int .i64 x3] }],
    .reg [{ i := 1, dec := some false }, { i := 7, xs := [.int .i64 x6.Turn] }, { i := 12, xs := [.int .i64 x8.Turn] }, { i := 13, dec := some false }],
    .reg [],
    .canon [0] [0, 4, 11, 12, 13]]) (by kernel_rfl) (P2 ((decide (t3 < t2)) = true) (decide_eq_true h1) <| P2 ((0 : Int) ≤ t3) h2 <| P2 (t3 < (List.length l4 : Int)) (int_lt_of_at (h2) hx3) <| P2 (getCells (List.map (D.int .i64) l4) (Int.toNat t3) 0 1 = some [.int .i64 x3]) (getCells_map hx3 rfl) <| P2 ((decide (best1 < 0)) = false) (decide_eq_false h4) <| P2 ((0 : Int) ≤ x3) h5 <| P2 (x3 < (List.length l0 : Int)) (int_lt_of_at (h5) hx6) <| P2 (getCells (List.map g53 l0) (Int.toNat x3) 1 1 = some [.int .i64 x6.Turn]) (getCells_map hx6 rfl) <| P2 ((0 : Int) ≤ best1) h7 <| P2 (best1 < (List.length l0 : Int)) (int_lt_of_at (h7) hx8) <| P2 (getCells (List.map g53 l0) (Int.toNat best1) 1 1 = some [.int .i64 x8.Turn]) (getCells_map hx8 rfl) <| P2 ((decide (x6.Turn > x8.Turn)) = false) (decide_eq_false h9) <| P0) hn)))
    (fun h1 H =>
      eRet (P := Nx X 24 0 K24 Z24 R24 N24 (K24 (.h1 l0 best1 t2 t3 l4)) (Z24 (.h1 l0 best1 t2 t3 l4))) H <| runFin_ok T_ok mixed F24 (cmds := [.reg [{ i := 0, dec := some false }],
    .reg []]) (by kernel_rfl) (P2 ((decide (t3 < t2)) = false) (decide_eq_false h1) <| PI (best1 : Int) <| PI true <| P0))
theorem w24 : ∀ s r, loop B24 s = some r → Wc X 24 0 (K24 s) (Z24 s) (R24 r) (N24 r) := Nx.all n24
theorem c24 {a0 : (List G53)} {r : Int × Bool} (H : D24 a0 = some r) : Ct X.P X.gl 24 [sl 3 g53 a0] [] (R24 r) (N24 r) :=
  Ct.of F24 (c := b24) (by kernel_rfl) (by kernel_rfl) <|
  eBind H fun r1 hr1 H =>
  eIf H (fun h2 H =>
    eBind H fun r3 hr3 H =>
    run_ok T_ok mixed (cmds := [.reg [],
    .reg [{ i := 1, call := some { cl := true, ins := [], args := [sl 3 g53 a0], res := R17 r1, G' := N17 r1 }, dec := some true }],
    .reg [],
    .reg [{ i := 1, call := some { cl := true, ins := [], args := [sl 3 g53 a0], res := R47 r3, G' := N47 r3 } }],
    .canon [0] [0, 4, 11, 12, 13]]) (by kernel_rfl) (PL g53 a0 <| P1 (c17 hr1) <| P2 (r1 = true) (h2) <| PL g53 a0 <| P1 (c47 hr3) <| P0) (w24 _ _ H))
  (fun h2 H =>
    eRet (P := fun r => Wc X 24 0 _ _ (R24 r) (N24 r)) H <| runFin_ok T_ok mixed F24 (cmds := [.reg [],
    .reg [{ i := 1, call := some { cl := true, ins := [], args := [sl 3 g53 a0], res := R17 r1, G' := N17 r1 }, dec := some false }],
    .reg []]) (by kernel_rfl) (PL g53 a0 <| P1 (c17 hr1) <| P2 (r1 = false) (eqF h2) <| PI (0 : Int) <| PI false <| P0))
/-! loop example/g00886/laws FnExactMainTip -/
noncomputable def b7 : Code := match Go.Proofs.Try.f7.body with | some c => c | none => .skip
theorem F7 : X.P.funcs[7]? = some Go.Proofs.Try.f7 := by kernel_rfl
def R7 (r : Bool) : List D := [.bool r]
def N7 (r : Bool) : List Root := []
theorem c7 {a0 : (List G55)} {r : Bool} (H : D7 a0 = some r) : Ct X.P X.gl 7 [sl 3 g55 a0] [] (R7 r) (N7 r) :=
  Ct.of F7 (c := b7) (by kernel_rfl) (by kernel_rfl) <|
  eBind H fun r1 hr1 H =>
  eIf H (fun h2 H =>
    eRet (P := fun r => Wc X 7 0 _ _ (R7 r) (N7 r)) H <| runFin_ok T_ok mixed F7 (cmds := [.reg [],
    .reg [],
    .reg [{ i := 2, call := some { cl := true, ins := [], args := [sl 3 g55 a0, .int .i64 1048576], res := R14 r1, G' := N14 r1 } }],
    .reg [{ i := 1, dec := some true }],
    .reg []]) (by kernel_rfl) (PL g55 a0 <| PI (1048576 : Int) <| P1 (c14 hr1) <| P2 ((decide (r1 < 0)) = true) (decide_eq_true h2) <| PI true <| P0))
  (fun h2 H =>
    eBind H fun r3 hr3 H =>
    eBind H fun r4 hr4 H =>
    eBind H fun r5 hr5 H =>
    eBind H fun r6 hr6 H =>
    eIf H (fun h7 H =>
      eIf H (fun h8 H =>
        eRet (P := fun r => Wc X 7 0 _ _ (R7 r) (N7 r)) H <| runFin_ok T_ok mixed F7 (cmds := [.reg [],
    .reg [],
    .reg [{ i := 2, call := some { cl := true, ins := [], args := [sl 3 g55 a0, .int .i64 1048576], res := R14 r1, G' := N14 r1 } }],
    .reg [{ i := 1, dec := some false }],
    .reg [{ i := 1, call := some { cl := true, ins := [], args := [sl 3 g55 a0], res := R16 r3, G' := N16 r3 } }, { i := 2, call := some { cl := false, ins := [], args := [sl 3 g53 r3], res := R23 r4, G' := N23 r4 } }],
    .reg [{ i := 1, call := some { cl := true, ins := [], args := [sl 3 g55 a0], res := R16 r5, G' := N16 r5 } }],
    .reg [{ i := 1, call := some { cl := false, ins := [], args := [sl 3 g53 r5], res := R24 r6, G' := N24 r6 } }],
    .reg [{ i := 2, dec := some false }, { i := 6, dec := some true }],
    .reg []]) (by kernel_rfl) (PL g55 a0 <| PI (1048576 : Int) <| P1 (c14 hr1) <| P2 ((decide (r1 < 0)) = false) (decide_eq_false h2) <| PL g55 a0 <| P1 (c16 hr3) <| PL g53 r3 <| P1 (c23 hr4) <| PL g55 a0 <| P1 (c16 hr5) <| PL g53 r5 <| P1 (c24 hr6) <| P2 (((r6.1 : Int) != r4.1) = false) (bneF h7) <| P2 ((!(r6.2 == r4.2)) = true) (h8) <| PI false <| P0))
      (fun h8 H =>
        eBind H fun r9 hr9 H =>
        eBind H fun r10 hr10 H =>
        eIf H (fun h11 H =>
          eRet (P := fun r => Wc X 7 0 _ _ (R7 r) (N7 r)) H <| runFin_ok T_ok mixed F7 (cmds := [.reg [],
    .reg [],
    .reg [{ i := 2, call := some { cl := true, ins := [], args := [sl 3 g55 a0, .int .i64 1048576], res := R14 r1, G' := N14 r1 } }],
    .reg [{ i := 1, dec := some false }],
    .reg [{ i := 1, call := some { cl := true, ins := [], args := [sl 3 g55 a0], res := R16 r3, G' := N16 r3 } }, { i := 2, call := some { cl := false, ins := [], args := [sl 3 g53 r3], res := R23 r4, G' := N23 r4 } }],
    .reg [{ i := 1, call := some { cl := true, ins := [], args := [sl 3 g55 a0], res := R16 r5, G' := N16 r5 } }],
    .reg [{ i := 1, call := some { cl := false, ins := [], args := [sl 3 g53 r5], res := R24 r6, G' := N24 r6 } }],
    .reg [{ i := 2, dec := some false }, { i := 6, dec := some false }],
    .reg [{ i := 2, call := some { cl := true, ins := [], args := [sl 3 g55 a0], res := R16 r9, G' := N16 r9 } }, { i := 3, call := some { cl := false, ins := [], args := [sl 3 g53 r5, sl 3 g53 r9], res := R18 r10, G' := N18 r10 }, dec := some true }],
    .reg []]) (by kernel_rfl) (PL g55 a0 <| PI (1048576 : Int) <| P1 (c14 hr1) <| P2 ((decide (r1 < 0)) = false) (decide_eq_false h2) <| PL g55 a0 <| P1 (c16 hr3) <| PL g53 r3 <| P1 (c23 hr4) <| PL g55 a0 <| P1 (c16 hr5) <| PL g53 r5 <| P1 (c24 hr6) <| P2 (((r6.1 : Int) != r4.1) = false) (bneF h7) <| P2 ((!(r6.2 == r4.2)) = false) (eqF h8) <| PL g55 a0 <| P1 (c16 hr9) <| PL g53 r5 <| PL g53 r9 <| P1 (c18 hr10) <| P2 (r10 = true) (h11) <| PI true <| P0))
        (fun h11 H =>
          eRet (P := fun r => Wc X 7 0 _ _ (R7 r) (N7 r)) H <| runFin_ok T_ok mixed F7 (cmds := [.reg [],
    .reg [],
    .reg [{ i := 2, call := some { cl := true, ins := [], args := [sl 3 g55 a0, .int .i64 1048576], res := R14 r1, G' := N14 r1 } }],
    .reg [{ i := 1, dec := some false }],
    .reg [{ i := 1, call := some { cl := true, ins := [], args := [sl 3 g55 a0], res := R16 r3, G' := N16 r3 } }, { i := 2, call := some { cl := false, ins := [], args := [sl 3 g53 r3], res := R23 r4, G' := N23 r4 } }],
    .reg [{ i := 1, call := some { cl := true, ins := [], args := [sl 3 g55 a0], res := R16 r5, G' := N16 r5 } }],
    .reg [{ i := 1, call := some { cl := false, ins := [], args := [sl 3 g53 r5], res := R24 r6, G' := N24 r6 } }],
    .reg [{ i := 2, dec := some false }, { i := 6, dec := some false }],
    .reg [{ i := 2, call := some { cl := true, ins := [], args := [sl 3 g55 a0], res := R16 r9, G' := N16 r9 } }, { i := 3, call := some { cl := false, ins := [], args := [sl 3 g53 r5, sl 3 g53 r9], res := R18 r10, G' := N18 r10 }, dec := some false }],
    .reg []]) (by kernel_rfl) (PL g55 a0 <| PI (1048576 : Int) <| P1 (c14 hr1) <| P2 ((decide (r1 < 0)) = false) (decide_eq_false h2) <| PL g55 a0 <| P1 (c16 hr3) <| PL g53 r3 <| P1 (c23 hr4) <| PL g55 a0 <| P1 (c16 hr5) <| PL g53 r5 <| P1 (c24 hr6) <| P2 (((r6.1 : Int) != r4.1) = false) (bneF h7) <| P2 ((!(r6.2 == r4.2)) = false) (eqF h8) <| PL g55 a0 <| P1 (c16 hr9) <| PL g53 r5 <| PL g53 r9 <| P1 (c18 hr10) <| P2 (r10 = false) (eqF h11) <| PI false <| P0))))
    (fun h7 H =>
      eRet (P := fun r => Wc X 7 0 _ _ (R7 r) (N7 r)) H <| runFin_ok T_ok mixed F7 (cmds := [.reg [],
    .reg [],
    .reg [{ i := 2, call := some { cl := true, ins := [], args := [sl 3 g55 a0, .int .i64 1048576], res := R14 r1, G' := N14 r1 } }],
    .reg [{ i := 1, dec := some false }],
    .reg [{ i := 1, call := some { cl := true, ins := [], args := [sl 3 g55 a0], res := R16 r3, G' := N16 r3 } }, { i := 2, call := some { cl := false, ins := [], args := [sl 3 g53 r3], res := R23 r4, G' := N23 r4 } }],
    .reg [{ i := 1, call := some { cl := true, ins := [], args := [sl 3 g55 a0], res := R16 r5, G' := N16 r5 } }],
    .reg [{ i := 1, call := some { cl := false, ins := [], args := [sl 3 g53 r5], res := R24 r6, G' := N24 r6 } }],
    .reg [{ i := 2, dec := some true }],
    .reg []]) (by kernel_rfl) (PL g55 a0 <| PI (1048576 : Int) <| P1 (c14 hr1) <| P2 ((decide (r1 < 0)) = false) (decide_eq_false h2) <| PL g55 a0 <| P1 (c16 hr3) <| PL g53 r3 <| P1 (c23 hr4) <| PL g55 a0 <| P1 (c16 hr5) <| PL g53 r5 <| P1 (c24 hr6) <| P2 (((r6.1 : Int) != r4.1) = true) (bneT h7) <| PI false <| P0)))
/-! loop example/g00886/spec nAdd -/
noncomputable def b49 : Code := match Go.Proofs.Try.f49.body with | some c => c | none => .skip
theorem F49 : X.P.funcs[49]? = some Go.Proofs.Try.f49 := by kernel_rfl
def R49 (r : (List G53) × Int × Bool) : List D := [ow 3 g53 r.1, .int .i64 r.2.1, .bool r.2.2]
def N49 (r : (List G53) × Int × Bool) : List Root := []
theorem c49 {a0 : (List G53)} {a1 : Int} {a2 : Int} {r : (List G53) × Int × Bool} (H : D49 a0 a1 a2 = some r) : Ct X.P X.gl 49 [sl 3 g53 a0, .int .i64 a1, .int .i64 a2] [] (R49 r) (N49 r) :=
  Ct.of F49 (c := b49) (by kernel_rfl) (by kernel_rfl) <|
  eBind H fun r1 hr1 H =>
  eIf H (fun h2 H =>
    eCk H fun h3 H =>
    eRet (P := fun r => Wc X 49 0 _ _ (R49 r) (N49 r)) H <| runFin_ok T_ok mixed F49 (cmds := [.reg [],
    .reg [{ i := 3, call := some { cl := true, ins := [], args := [sl 3 g53 a0, .int .i64 a1, .int .i64 a2], res := R53 r1, G' := N53 r1 } }],
    .reg [{ i := 1, dec := some true }],
    .reg [{ i := 2, n := List.length a0, xs := List.map g53 a0 }]]) (by kernel_rfl) (PL g53 a0 <| PI (a1 : Int) <| PI (a2 : Int) <| P1 (c53 hr1) <| P2 ((decide (r1 ≥ 0)) = true) (decide_eq_true h2) <| P2 (AllFl (List.map g53 a0)) (allFl_53 _) <| P2 (List.length a0 = List.length ([] : List G53) + List.length a0) (by simp <;> omega) <| P2 ((List.length ([] : List G53) + List.length a0) * 24 ≤ 70368744177664) (by have := h3; simp at this ⊢ <;> omega) <| P2 (List.map g53 ([] : List G53) ++ List.map g53 a0 = List.map g53 a0) (by simp) <| PR g53 a0 <| PI (r1 : Int) <| PI true <| P0))
  (fun h2 H =>
    eIf H (fun h3 H =>
      eRet (P := fun r => Wc X 49 0 _ _ (R49 r) (N49 r)) H <| runFin_ok T_ok mixed F49 (cmds := [.reg [],
    .reg [{ i := 3, call := some { cl := true, ins := [], args := [sl 3 g53 a0, .int .i64 a1, .int .i64 a2], res := R53 r1, G' := N53 r1 } }],
    .reg [{ i := 1, dec := some false }],
    .reg [{ i := 2, dec := some true }],
    .reg []]) (by kernel_rfl) (PL g53 a0 <| PI (a1 : Int) <| PI (a2 : Int) <| P1 (c53 hr1) <| P2 ((decide (r1 ≥ 0)) = false) (decide_eq_false h2) <| P2 (((((List.length a0 : Nat) : Int) : Int) == 40) = true) (beqT h3) <| PI (0 : Nat) <| PI ([] : List D) <| PI (0 : Int) <| PI false <| P0))
    (fun h3 H =>
      eCk H fun h4 H =>
      eBind H fun x5 hx5 H =>
      eIf H (fun h6 H =>
        eRet (P := fun r => Wc X 49 0 _ _ (R49 r) (N49 r)) H <| runFin_ok T_ok mixed F49 (cmds := [.reg [],
    .reg [{ i := 3, call := some { cl := true, ins := [], args := [sl 3 g53 a0, .int .i64 a1, .int .i64 a2], res := R53 r1, G' := N53 r1 } }],
    .reg [{ i := 1, dec := some false }],
    .reg [{ i := 2, dec := some false }, { i := 8, xs := [.int .i64 x5.Turn] }, { i := 9, dec := some true }],
    .reg []]) (by kernel_rfl) (PL g53 a0 <| PI (a1 : Int) <| PI (a2 : Int) <| P1 (c53 hr1) <| P2 ((decide (r1 ≥ 0)) = false) (decide_eq_false h2) <| P2 (((((List.length a0 : Nat) : Int) : Int) == 40) = false) (beqF h3) <| P2 ((0 : Int) ≤ a1) h4 <| P2 (a1 < (List.length a0 : Int)) (int_lt_of_at (h4) hx5) <| P2 (getCells (List.map g53 a0) (Int.toNat a1) 1 1 = some [.int .i64 x5.Turn]) (getCells_map hx5 rfl) <| P2 (((x5.Turn : Int) == 30) = true) (beqT h6) <| PI (0 : Nat) <| PI ([] : List D) <| PI (0 : Int) <| PI false <| P0))
      (fun h6 H =>
        eCk H fun h7 H =>
        eCk H fun h8 H =>
        eBind H fun x9 hx9 H =>
        eCk H fun h10 H =>
        eRet (P := fun r => Wc X 49 0 _ _ (R49 r) (N49 r)) H <| runFin_ok T_ok mixed F49 (cmds := [.reg [],
    .reg [{ i := 3, call := some { cl := true, ins := [], args := [sl 3 g53 a0, .int .i64 a1, .int .i64 a2], res := R53 r1, G' := N53 r1 } }],
    .reg [{ i := 1, dec := some false }],
    .reg [{ i := 2, dec := some false }, { i := 8, xs := [.int .i64 x5.Turn] }, { i := 9, dec := some false }],
    .reg [{ i := 2, n := List.length a0, xs := List.map g53 a0 }],
    .reg [{ i := 6, xs := [.int .i64 x9.Turn] }, { i := 11, n := List.length (a0 ++ [(G53.mk a1 (IntKind.wrap .i64 (x9.Turn + 1)) a2)]), xs := List.map g53 (a0 ++ [(G53.mk a1 (IntKind.wrap .i64 (x9.Turn + 1)) a2)]) }]]) (by kernel_rfl) (PL g53 a0 <| PI (a1 : Int) <| PI (a2 : Int) <| P1 (c53 hr1) <| P2 ((decide (r1 ≥ 0)) = false) (decide_eq_false h2) <| P2 (((((List.length a0 : Nat) : Int) : Int) == 40) = false) (beqF h3) <| P2 ((0 : Int) ≤ a1) h4 <| P2 (a1 < (List.length a0 : Int)) (int_lt_of_at (h4) hx5) <| P2 (getCells (List.map g53 a0) (Int.toNat a1) 1 1 = some [.int .i64 x5.Turn]) (getCells_map hx5 rfl) <| P2 (((x5.Turn : Int) == 30) = false) (beqF h6) <| P2 (AllFl (List.map g53 a0)) (allFl_53 _) <| P2 (List.length a0 = List.length ([] : List G53) + List.length a0) (by simp <;> omega) <| P2 ((List.length ([] : List G53) + List.length a0) * 24 ≤ 70368744177664) (by have := h7; simp at this ⊢ <;> omega) <| P2 (List.map g53 ([] : List G53) ++ List.map g53 a0 = List.map g53 a0) (by simp) <| P2 ((0 : Int) ≤ a1) h8 <| P2 (a1 < (List.length a0 : Int)) (int_lt_of_at (h8) hx9) <| P2 (getCells (List.map g53 a0) (Int.toNat a1) 1 1 = some [.int .i64 x9.Turn]) (getCells_map hx9 rfl) <| P2 (List.length (a0 ++ [(G53.mk a1 (IntKind.wrap .i64 (x9.Turn + 1)) a2)]) = List.length a0 + List.length [(G53.mk a1 (IntKind.wrap .i64 (x9.Turn + 1)) a2)]) (by simp <;> omega) <| P2 ((List.length a0 + List.length [(G53.mk a1 (IntKind.wrap .i64 (x9.Turn + 1)) a2)]) * 24 ≤ 70368744177664) (by have := h10; simp at this ⊢ <;> omega) <| P2 (List.map g53 a0 ++ List.map g53 [(G53.mk a1 (IntKind.wrap .i64 (x9.Turn + 1)) a2)] = List.map g53 (a0 ++ [(G53.mk a1 (IntKind.wrap .i64 (x9.Turn + 1)) a2)])) (by simp) <| PR g53 (a0 ++ [(G53.mk a1 (IntKind.wrap .i64 (x9.Turn + 1)) a2)]) <| PI (((List.length a0 : Nat) : Int) : Int) <| PI true <| P0))))
end Go.Proofs.Ytipolkdlaepcaaa.Ab
