/- Part of the proof of FnExactIsMailbox: no condition of its own. -/
import Derived.Test.YtipolkdlaepcaaaChecked
import Derived.Test.YtipolkdlaepcaaaAb3
set_option linter.unusedVariables false
open Go Go.Proofs
namespace Go.Proofs.Ytipolkdlaepcaaa.Ab
structure G48 where
  mk ::
  Turn : Int
  Side : Int
  Seal : Int
def g48 (x : G48) : D := .agg [.int .i64 x.Turn, .int .i64 x.Side, .int .i64 x.Seal]
structure G46 where
  mk ::
  Turn : Int
  Side : Int
  Seal : Int
def g46 (x : G46) : D := .agg [.int .i64 x.Turn, .int .i64 x.Side, .int .i64 x.Seal]
def T : Tab := [(3, ⟨(Ab.TK.int IntKind.i64), 1, 8, (Ab.D.int IntKind.i64 (Int.ofNat 0))⟩),
  (4, ⟨Ab.TK.bool, 1, 1, (Ab.D.bool Bool.false)⟩),
  (22, ⟨(Ab.TK.slice 48), 1, 24, Ab.D.nil⟩),
  (25, ⟨(Ab.TK.slice 46), 1, 24, Ab.D.nil⟩),
  (46, ⟨(Ab.TK.strct [(Ab.FI.mk 0 1 Bool.false), (Ab.FI.mk 1 1 Bool.false), (Ab.FI.mk 2 1 Bool.false)] (Option.some [(Ab.LK.int IntKind.i64), (Ab.LK.int IntKind.i64), (Ab.LK.int IntKind.i64)])), 3, 24, (Ab.D.agg [(Ab.D.int IntKind.i64 (Int.ofNat 0)), (Ab.D.int IntKind.i64 (Int.ofNat 0)), (Ab.D.int IntKind.i64 (Int.ofNat 0))])⟩),
  (48, ⟨(Ab.TK.strct [(Ab.FI.mk 0 1 Bool.false), (Ab.FI.mk 1 1 Bool.false), (Ab.FI.mk 2 1 Bool.false)] (Option.some [(Ab.LK.int IntKind.i64), (Ab.LK.int IntKind.i64), (Ab.LK.int IntKind.i64)])), 3, 24, (Ab.D.agg [(Ab.D.int IntKind.i64 (Int.ofNat 0)), (Ab.D.int IntKind.i64 (Int.ofNat 0)), (Ab.D.int IntKind.i64 (Int.ofNat 0))])⟩)]
noncomputable def X : Ctx := ⟨Go.Proofs.Try.prog, T, []⟩
theorem T_ok : TabOK X.P X.T := ⟨(by kernel_rfl), (by kernel_rfl), (by kernel_rfl), (by kernel_rfl), (by kernel_rfl), (by kernel_rfl), trivial⟩
theorem mixed : X.P.follows .mixedOrders = true := Go.Proofs.Try.checked.mixed
/-! loop example/g00886/impl compareMails -/
noncomputable def b34 : Code := match Go.Proofs.Try.f34.body with | some c => c | none => .skip
theorem F34 : X.P.funcs[34]? = some Go.Proofs.Try.f34 := by kernel_rfl
def s34e (a0 : G46) (a1 : G46) : St := ⟨[.agg [.int .i64 a0.Turn, .int .i64 a0.Side, .int .i64 a0.Seal], .agg [.int .i64 a1.Turn, .int .i64 a1.Side, .int .i64 a1.Seal], .undef, .undef, .undef, .undef, .undef, .undef, .undef, .undef, .undef, .undef, .undef, .undef, .undef, .undef, .undef, .undef, .undef, .undef], []⟩
noncomputable def k34e : List Item := [.code b34]
theorem p34e_1 (a0 : G46) (a1 : G46) (h1 : ¬ a0.Turn = a1.Turn) : Wc X 34 0 k34e (s34e a0 a1) [.int .i64 (IntKind.wrap .i64 (a0.Turn - a1.Turn))] [] :=
  runFin_ok T_ok mixed F34 (cmds := [.reg [],
    .reg [{ i := 1, xs := [.int .i64 a0.Turn] }, { i := 3, xs := [.int .i64 a1.Turn] }, { i := 4, dec := some true }],
    .reg [{ i := 1, xs := [.int .i64 a0.Turn] }, { i := 3, xs := [.int .i64 a1.Turn] }]]) (ps := [(some [.int .i64 a0.Turn] : Option (List D)) = some [.int .i64 a0.Turn],
    (some [.int .i64 a1.Turn] : Option (List D)) = some [.int .i64 a1.Turn],
    (a0.Turn != a1.Turn) = true,
    (some [.int .i64 a0.Turn] : Option (List D)) = some [.int .i64 a0.Turn],
    (some [.int .i64 a1.Turn] : Option (List D)) = some [.int .i64 a1.Turn],
    (IntKind.wrap .i64 (a0.Turn - a1.Turn) : Int) = (IntKind.wrap .i64 (a0.Turn - a1.Turn))]) (by kernel_rfl) ⟨rfl, rfl, bneT h1, rfl, rfl, rfl, trivial⟩
theorem p34e_2 (a0 : G46) (a1 : G46) (h1 : a0.Turn = a1.Turn) : Wc X 34 0 k34e (s34e a0 a1) [.int .i64 (IntKind.wrap .i64 (a0.Side - a1.Side))] [] :=
  runFin_ok T_ok mixed F34 (cmds := [.reg [],
    .reg [{ i := 1, xs := [.int .i64 a0.Turn] }, { i := 3, xs := [.int .i64 a1.Turn] }, { i := 4, dec := some false }],
    .reg [{ i := 1, xs := [.int .i64 a0.Side] }, { i := 3, xs := [.int .i64 a1.Side] }]]) (ps := [(some [.int .i64 a0.Turn] : Option (List D)) = some [.int .i64 a0.Turn],
    (some [.int .i64 a1.Turn] : Option (List D)) = some [.int .i64 a1.Turn],
    (a0.Turn != a1.Turn) = false,
    (some [.int .i64 a0.Side] : Option (List D)) = some [.int .i64 a0.Side],
    (some [.int .i64 a1.Side] : Option (List D)) = some [.int .i64 a1.Side],
    (IntKind.wrap .i64 (a0.Side - a1.Side) : Int) = (IntKind.wrap .i64 (a0.Side - a1.Side))]) (by kernel_rfl) ⟨rfl, rfl, bneF h1, rfl, rfl, rfl, trivial⟩
theorem c34 {res : List D} (a0 : G46) (a1 : G46) (h : Wc X 34 0 k34e (s34e a0 a1) res []) : Ct X.P X.gl 34 [.agg [.int .i64 a0.Turn, .int .i64 a0.Side, .int .i64 a0.Seal], .agg [.int .i64 a1.Turn, .int .i64 a1.Side, .int .i64 a1.Seal]] [] res [] :=
  Ct.of F34 (c := b34) (by kernel_rfl) (by kernel_rfl) h
/-! loop example/g00886/impl inRange -/
noncomputable def b38 : Code := match Go.Proofs.Try.f38.body with | some c => c | none => .skip
theorem F38 : X.P.funcs[38]? = some Go.Proofs.Try.f38 := by kernel_rfl
def s38e (a0 : Int) (a1 : Int) (a2 : Int) : St := ⟨[.int .i64 a0, .int .i64 a1, .int .i64 a2, .undef, .undef, .undef, .undef, .undef, .undef, .undef, .undef, .undef, .undef, .undef, .undef], []⟩
noncomputable def k38e : List Item := [.code b38]
theorem p38e_1 (a0 : Int) (a1 : Int) (a2 : Int) (h1 : a1 ≤ a0) : Wc X 38 0 k38e (s38e a0 a1 a2) [.bool (decide (a0 ≤ a2))] [] :=
  runFin_ok T_ok mixed F38 (cmds := [.reg [],
    .reg [{ i := 2, dec := some true }]]) (ps := [(decide (a1 ≤ a0)) = true,
    (decide (a0 ≤ a2)) = (decide (a0 ≤ a2))]) (by kernel_rfl) ⟨decide_eq_true h1, rfl, trivial⟩
theorem p38e_2 (a0 : Int) (a1 : Int) (a2 : Int) (h1 : ¬ (a1 ≤ a0)) : Wc X 38 0 k38e (s38e a0 a1 a2) [.bool false] [] :=
  runFin_ok T_ok mixed F38 (cmds := [.reg [],
    .reg [{ i := 2, dec := some false }]]) (ps := [(decide (a1 ≤ a0)) = false,
    false = false]) (by kernel_rfl) ⟨decide_eq_false h1, rfl, trivial⟩
theorem c38 {res : List D} (a0 : Int) (a1 : Int) (a2 : Int) (h : Wc X 38 0 k38e (s38e a0 a1 a2) res []) : Ct X.P X.gl 38 [.int .i64 a0, .int .i64 a1, .int .i64 a2] [] res [] :=
  Ct.of F38 (c := b38) (by kernel_rfl) (by kernel_rfl) h
/-! loop example/g00886/impl isTurn -/
noncomputable def b31 : Code := match Go.Proofs.Try.f31.body with | some c => c | none => .skip
theorem F31 : X.P.funcs[31]? = some Go.Proofs.Try.f31 := by kernel_rfl
def s31e (a0 : Int) : St := ⟨[.int .i64 a0, .undef, .undef, .undef, .undef], []⟩
noncomputable def k31e : List Item := [.code b31]
theorem p31e_1 (a0 : Int) (x1 : Bool) (h2 : Ct X.P X.gl 38 [.int .i64 a0, .int .i64 0, .int .i64 30] [] [.bool x1] []) : Wc X 31 0 k31e (s31e a0) [.bool x1] [] :=
  runFin_ok T_ok mixed F31 (cmds := [.reg [],
    .reg [{ i := 1, call := some { cl := true, ins := [], args := [.int .i64 a0, .int .i64 0, .int .i64 30], res := [.bool x1], G' := [] } }]]) (ps := [(a0 : Int) = a0,
    (0 : Int) = 0,
    (30 : Int) = 30,
    Ct X.P X.gl 38 [.int .i64 a0, .int .i64 0, .int .i64 30] [] [.bool x1] [],
    x1 = x1]) (by kernel_rfl) ⟨rfl, rfl, rfl, h2, rfl, trivial⟩
theorem c31 {res : List D} (a0 : Int) (h : Wc X 31 0 k31e (s31e a0) res []) : Ct X.P X.gl 31 [.int .i64 a0] [] res [] :=
  Ct.of F31 (c := b31) (by kernel_rfl) (by kernel_rfl) h
/-! loop example/g00886/impl isSide -/
noncomputable def b32 : Code := match Go.Proofs.Try.f32.body with | some c => c | none => .skip
theorem F32 : X.P.funcs[32]? = some Go.Proofs.Try.f32 := by kernel_rfl
def s32e (a0 : Int) : St := ⟨[.int .i64 a0, .undef, .undef, .undef, .undef], []⟩
noncomputable def k32e : List Item := [.code b32]
theorem p32e_1 (a0 : Int) (x1 : Bool) (h2 : Ct X.P X.gl 38 [.int .i64 a0, .int .i64 0, .int .i64 1] [] [.bool x1] []) : Wc X 32 0 k32e (s32e a0) [.bool x1] [] :=
  runFin_ok T_ok mixed F32 (cmds := [.reg [],
    .reg [{ i := 1, call := some { cl := true, ins := [], args := [.int .i64 a0, .int .i64 0, .int .i64 1], res := [.bool x1], G' := [] } }]]) (ps := [(a0 : Int) = a0,
    (0 : Int) = 0,
    (1 : Int) = 1,
    Ct X.P X.gl 38 [.int .i64 a0, .int .i64 0, .int .i64 1] [] [.bool x1] [],
    x1 = x1]) (by kernel_rfl) ⟨rfl, rfl, rfl, h2, rfl, trivial⟩
theorem c32 {res : List D} (a0 : Int) (h : Wc X 32 0 k32e (s32e a0) res []) : Ct X.P X.gl 32 [.int .i64 a0] [] res [] :=
  Ct.of F32 (c := b32) (by kernel_rfl) (by kernel_rfl) h
/-! loop example/g00886/impl isSeed -/
noncomputable def b33 : Code := match Go.Proofs.Try.f33.body with | some c => c | none => .skip
theorem F33 : X.P.funcs[33]? = some Go.Proofs.Try.f33 := by kernel_rfl
def s33e (a0 : Int) : St := ⟨[.int .i64 a0, .undef, .undef, .undef, .undef], []⟩
noncomputable def k33e : List Item := [.code b33]
theorem p33e_1 (a0 : Int) (x1 : Bool) (h2 : Ct X.P X.gl 38 [.int .i64 a0, .int .i64 0, .int .i64 4611686016279904236] [] [.bool x1] []) : Wc X 33 0 k33e (s33e a0) [.bool x1] [] :=
  runFin_ok T_ok mixed F33 (cmds := [.reg [],
    .reg [{ i := 1, call := some { cl := true, ins := [], args := [.int .i64 a0, .int .i64 0, .int .i64 4611686016279904236], res := [.bool x1], G' := [] } }]]) (ps := [(a0 : Int) = a0,
    (0 : Int) = 0,
    (4611686016279904236 : Int) = 4611686016279904236,
    Ct X.P X.gl 38 [.int .i64 a0, .int .i64 0, .int .i64 4611686016279904236] [] [.bool x1] [],
    x1 = x1]) (by kernel_rfl) ⟨rfl, rfl, rfl, h2, rfl, trivial⟩
theorem c33 {res : List D} (a0 : Int) (h : Wc X 33 0 k33e (s33e a0) res []) : Ct X.P X.gl 33 [.int .i64 a0] [] res [] :=
  Ct.of F33 (c := b33) (by kernel_rfl) (by kernel_rfl) h
/-! loop example/g00886/spec l1In -/
noncomputable def b51 : Code := match Go.Proofs.Try.f51.body with | some c => c | none => .skip
theorem F51 : X.P.funcs[51]? = some Go.Proofs.Try.f51 := by kernel_rfl
def s51e (a0 : Int) (a1 : Int) (a2 : Int) : St := ⟨[.int .i64 a0, .int .i64 a1, .int .i64 a2, .undef, .undef, .undef, .undef, .undef, .undef, .undef, .undef, .undef, .undef, .undef, .undef], []⟩
noncomputable def k51e : List Item := [.code b51]
theorem p51e_1 (a0 : Int) (a1 : Int) (a2 : Int) (h1 : a0 ≥ a1) : Wc X 51 0 k51e (s51e a0 a1 a2) [.bool (decide (a0 ≤ a2))] [] :=
  runFin_ok T_ok mixed F51 (cmds := [.reg [],
    .reg [{ i := 2, dec := some true }]]) (ps := [(decide (a0 ≥ a1)) = true,
    (decide (a0 ≤ a2)) = (decide (a0 ≤ a2))]) (by kernel_rfl) ⟨decide_eq_true h1, rfl, trivial⟩
theorem p51e_2 (a0 : Int) (a1 : Int) (a2 : Int) (h1 : ¬ (a0 ≥ a1)) : Wc X 51 0 k51e (s51e a0 a1 a2) [.bool false] [] :=
  runFin_ok T_ok mixed F51 (cmds := [.reg [],
    .reg [{ i := 2, dec := some false }]]) (ps := [(decide (a0 ≥ a1)) = false,
    false = false]) (by kernel_rfl) ⟨decide_eq_false h1, rfl, trivial⟩
theorem c51 {res : List D} (a0 : Int) (a1 : Int) (a2 : Int) (h : Wc X 51 0 k51e (s51e a0 a1 a2) res []) : Ct X.P X.gl 51 [.int .i64 a0, .int .i64 a1, .int .i64 a2] [] res [] :=
  Ct.of F51 (c := b51) (by kernel_rfl) (by kernel_rfl) h
/-! loop example/g00886/spec nKey -/
noncomputable def b52 : Code := match Go.Proofs.Try.f52.body with | some c => c | none => .skip
theorem F52 : X.P.funcs[52]? = some Go.Proofs.Try.f52 := by kernel_rfl
def s52e (a0 : G46) : St := ⟨[.agg [.int .i64 a0.Turn, .int .i64 a0.Side, .int .i64 a0.Seal], .undef, .undef, .undef, .undef, .undef, .undef, .undef, .undef], []⟩
noncomputable def k52e : List Item := [.code b52]
theorem p52e_1 (a0 : G46)  : Wc X 52 0 k52e (s52e a0) [.int .i64 (IntKind.wrap .i64 ((IntKind.wrap .i64 (2 * a0.Turn)) + a0.Side))] [] :=
  runFin_ok T_ok mixed F52 (cmds := [.reg [],
    .reg [{ i := 1, xs := [.int .i64 a0.Turn] }, { i := 4, xs := [.int .i64 a0.Side] }]]) (ps := [(some [.int .i64 a0.Turn] : Option (List D)) = some [.int .i64 a0.Turn],
    (some [.int .i64 a0.Side] : Option (List D)) = some [.int .i64 a0.Side],
    (IntKind.wrap .i64 ((IntKind.wrap .i64 (2 * a0.Turn)) + a0.Side) : Int) = (IntKind.wrap .i64 ((IntKind.wrap .i64 (2 * a0.Turn)) + a0.Side))]) (by kernel_rfl) ⟨rfl, rfl, rfl, trivial⟩
theorem c52 {res : List D} (a0 : G46) (h : Wc X 52 0 k52e (s52e a0) res []) : Ct X.P X.gl 52 [.agg [.int .i64 a0.Turn, .int .i64 a0.Side, .int .i64 a0.Seal]] [] res [] :=
  Ct.of F52 (c := b52) (by kernel_rfl) (by kernel_rfl) h
/-! loop example/g00886/spec dSeed -/
noncomputable def b48 : Code := match Go.Proofs.Try.f48.body with | some c => c | none => .skip
theorem F48 : X.P.funcs[48]? = some Go.Proofs.Try.f48 := by kernel_rfl
def s48e (a0 : Int) : St := ⟨[.int .i64 a0, .undef, .undef, .undef, .undef], []⟩
noncomputable def k48e : List Item := [.code b48]
theorem p48e_1 (a0 : Int) (x1 : Bool) (h2 : Ct X.P X.gl 51 [.int .i64 a0, .int .i64 0, .int .i64 4611686016279904236] [] [.bool x1] []) : Wc X 48 0 k48e (s48e a0) [.bool x1] [] :=
  runFin_ok T_ok mixed F48 (cmds := [.reg [],
    .reg [{ i := 1, call := some { cl := true, ins := [], args := [.int .i64 a0, .int .i64 0, .int .i64 4611686016279904236], res := [.bool x1], G' := [] } }]]) (ps := [(a0 : Int) = a0,
    (0 : Int) = 0,
    (4611686016279904236 : Int) = 4611686016279904236,
    Ct X.P X.gl 51 [.int .i64 a0, .int .i64 0, .int .i64 4611686016279904236] [] [.bool x1] [],
    x1 = x1]) (by kernel_rfl) ⟨rfl, rfl, rfl, h2, rfl, trivial⟩
theorem c48 {res : List D} (a0 : Int) (h : Wc X 48 0 k48e (s48e a0) res []) : Ct X.P X.gl 48 [.int .i64 a0] [] res [] :=
  Ct.of F48 (c := b48) (by kernel_rfl) (by kernel_rfl) h
/-! loop example/g00886/laws toMail -/
noncomputable def b30 : Code := match Go.Proofs.Try.f30.body with | some c => c | none => .skip
theorem F30 : X.P.funcs[30]? = some Go.Proofs.Try.f30 := by kernel_rfl
def s30e (a0 : G48) : St := ⟨[.agg [.int .i64 a0.Turn, .int .i64 a0.Side, .int .i64 a0.Seal], .undef, .undef, .undef, .undef, .undef, .undef, .undef, .undef, .undef, .undef, .undef, .undef, .undef], []⟩
noncomputable def k30e : List Item := [.code b30]
theorem p30e_1 (a0 : G48)  : Wc X 30 0 k30e (s30e a0) [.agg [.int .i64 a0.Turn, .int .i64 a0.Side, .int .i64 a0.Seal]] [] :=
  runFin_ok T_ok mixed F30 (cmds := [.reg [],
    .reg [],
    .reg [{ i := 1, xs := [.int .i64 a0.Turn] }],
    .reg [{ i := 1, xs := [.int .i64 a0.Side] }],
    .reg [{ i := 1, xs := [.int .i64 a0.Seal] }],
    .reg [{ i := 0, xs := [.int .i64 a0.Turn, .int .i64 a0.Side, .int .i64 a0.Seal] }]]) (ps := [(some [.int .i64 a0.Turn] : Option (List D)) = some [.int .i64 a0.Turn],
    (some [.int .i64 a0.Side] : Option (List D)) = some [.int .i64 a0.Side],
    (some [.int .i64 a0.Seal] : Option (List D)) = some [.int .i64 a0.Seal],
    (some [.int .i64 a0.Turn, .int .i64 a0.Side, .int .i64 a0.Seal] : Option (List D)) = some [.int .i64 a0.Turn, .int .i64 a0.Side, .int .i64 a0.Seal],
    (a0.Turn : Int) = a0.Turn,
    (a0.Side : Int) = a0.Side,
    (a0.Seal : Int) = a0.Seal]) (by kernel_rfl) ⟨rfl, rfl, rfl, rfl, rfl, rfl, rfl, trivial⟩
theorem c30 {res : List D} (a0 : G48) (h : Wc X 30 0 k30e (s30e a0) res []) : Ct X.P X.gl 30 [.agg [.int .i64 a0.Turn, .int .i64 a0.Side, .int .i64 a0.Seal]] [] res [] :=
  Ct.of F30 (c := b30) (by kernel_rfl) (by kernel_rfl) h
/-! loop example/g00886/laws eqMail -/
noncomputable def b35 : Code := match Go.Proofs.Try.f35.body with | some c => c | none => .skip
theorem F35 : X.P.funcs[35]? = some Go.Proofs.Try.f35 := by kernel_rfl
def s35e (a0 : G46) (a1 : G46) : St := ⟨[.agg [.int .i64 a0.Turn, .int .i64 a0.Side, .int .i64 a0.Seal], .agg [.int .i64 a1.Turn, .int .i64 a1.Side, .int .i64 a1.Seal], .undef, .undef, .undef, .undef, .undef, .undef, .undef, .undef, .undef, .undef, .undef, .undef, .undef, .undef, .undef, .undef, .undef, .undef], []⟩
noncomputable def k35e : List Item := [.code b35]
theorem p35e_1 (a0 : G46) (a1 : G46) (h1 : ¬ a0.Turn = a1.Turn) : Wc X 35 0 k35e (s35e a0 a1) [.bool false] [] :=
  runFin_ok T_ok mixed F35 (cmds := [.reg [],
    .reg [{ i := 1, xs := [.int .i64 a0.Turn] }, { i := 3, xs := [.int .i64 a1.Turn] }, { i := 4, dec := some true }],
    .reg []]) (ps := [(some [.int .i64 a0.Turn] : Option (List D)) = some [.int .i64 a0.Turn],
    (some [.int .i64 a1.Turn] : Option (List D)) = some [.int .i64 a1.Turn],
    (a0.Turn != a1.Turn) = true,
    false = false]) (by kernel_rfl) ⟨rfl, rfl, bneT h1, rfl, trivial⟩
theorem p35e_2 (a0 : G46) (a1 : G46) (h1 : a0.Turn = a1.Turn) (h2 : ¬ a0.Side = a1.Side) : Wc X 35 0 k35e (s35e a0 a1) [.bool false] [] :=
  runFin_ok T_ok mixed F35 (cmds := [.reg [],
    .reg [{ i := 1, xs := [.int .i64 a0.Turn] }, { i := 3, xs := [.int .i64 a1.Turn] }, { i := 4, dec := some false }],
    .reg [{ i := 1, xs := [.int .i64 a0.Side] }, { i := 3, xs := [.int .i64 a1.Side] }, { i := 4, dec := some true }],
    .reg []]) (ps := [(some [.int .i64 a0.Turn] : Option (List D)) = some [.int .i64 a0.Turn],
    (some [.int .i64 a1.Turn] : Option (List D)) = some [.int .i64 a1.Turn],
    (a0.Turn != a1.Turn) = false,
    (some [.int .i64 a0.Side] : Option (List D)) = some [.int .i64 a0.Side],
    (some [.int .i64 a1.Side] : Option (List D)) = some [.int .i64 a1.Side],
    (a0.Side != a1.Side) = true,
    false = false]) (by kernel_rfl) ⟨rfl, rfl, bneF h1, rfl, rfl, bneT h2, rfl, trivial⟩
theorem p35e_3 (a0 : G46) (a1 : G46) (h1 : a0.Turn = a1.Turn) (h2 : a0.Side = a1.Side) (h3 : ¬ a0.Seal = a1.Seal) : Wc X 35 0 k35e (s35e a0 a1) [.bool false] [] :=
  runFin_ok T_ok mixed F35 (cmds := [.reg [],
    .reg [{ i := 1, xs := [.int .i64 a0.Turn] }, { i := 3, xs := [.int .i64 a1.Turn] }, { i := 4, dec := some false }],
    .reg [{ i := 1, xs := [.int .i64 a0.Side] }, { i := 3, xs := [.int .i64 a1.Side] }, { i := 4, dec := some false }],
    .reg [{ i := 1, xs := [.int .i64 a0.Seal] }, { i := 3, xs := [.int .i64 a1.Seal] }, { i := 4, dec := some true }],
    .reg []]) (ps := [(some [.int .i64 a0.Turn] : Option (List D)) = some [.int .i64 a0.Turn],
    (some [.int .i64 a1.Turn] : Option (List D)) = some [.int .i64 a1.Turn],
    (a0.Turn != a1.Turn) = false,
    (some [.int .i64 a0.Side] : Option (List D)) = some [.int .i64 a0.Side],
    (some [.int .i64 a1.Side] : Option (List D)) = some [.int .i64 a1.Side],
    (a0.Side != a1.Side) = false,
    (some [.int .i64 a0.Seal] : Option (List D)) = some [.int .i64 a0.Seal],
    (some [.int .i64 a1.Seal] : Option (List D)) = some [.int .i64 a1.Seal],
    (a0.Seal != a1.Seal) = true,
    false = false]) (by kernel_rfl) ⟨rfl, rfl, bneF h1, rfl, rfl, bneF h2, rfl, rfl, bneT h3, rfl, trivial⟩
theorem p35e_4 (a0 : G46) (a1 : G46) (h1 : a0.Turn = a1.Turn) (h2 : a0.Side = a1.Side) (h3 : a0.Seal = a1.Seal) : Wc X 35 0 k35e (s35e a0 a1) [.bool true] [] :=
  runFin_ok T_ok mixed F35 (cmds := [.reg [],
    .reg [{ i := 1, xs := [.int .i64 a0.Turn] }, { i := 3, xs := [.int .i64 a1.Turn] }, { i := 4, dec := some false }],
    .reg [{ i := 1, xs := [.int .i64 a0.Side] }, { i := 3, xs := [.int .i64 a1.Side] }, { i := 4, dec := some false }],
    .reg [{ i := 1, xs := [.int .i64 a0.Seal] }, { i := 3, xs := [.int .i64 a1.Seal] }, { i := 4, dec := some false }],
    .reg []]) (ps := [(some [.int .i64 a0.Turn] : Option (List D)) = some [.int .i64 a0.Turn],
    (some [.int .i64 a1.Turn] : Option (List D)) = some [.int .i64 a1.Turn],
    (a0.Turn != a1.Turn) = false,
    (some [.int .i64 a0.Side] : Option (List D)) = some [.int .i64 a0.Side],
    (some [.int .i64 a1.Side] : Option (List D)) = some [.int .i64 a1.Side],
    (a0.Side != a1.Side) = false,
    (some [.int .i64 a0.Seal] : Option (List D)) = some [.int .i64 a0.Seal],
    (some [.int .i64 a1.Seal] : Option (List D)) = some [.int .i64 a1.Seal],
    (a0.Seal != a1.Seal) = false,
    true = true]) (by kernel_rfl) ⟨rfl, rfl, bneF h1, rfl, rfl, bneF h2, rfl, rfl, bneF h3, rfl, trivial⟩
theorem c35 {res : List D} (a0 : G46) (a1 : G46) (h : Wc X 35 0 k35e (s35e a0 a1) res []) : Ct X.P X.gl 35 [.agg [.int .i64 a0.Turn, .int .i64 a0.Side, .int .i64 a0.Seal], .agg [.int .i64 a1.Turn, .int .i64 a1.Side, .int .i64 a1.Seal]] [] res [] :=
  Ct.of F35 (c := b35) (by kernel_rfl) (by kernel_rfl) h
/-! loop example/g00886/laws szMailS -/
noncomputable def b9 : Code := match Go.Proofs.Try.f9.body with | some c => c | none => .skip
theorem F9 : X.P.funcs[9]? = some Go.Proofs.Try.f9 := by kernel_rfl
def s9e (a0 : (List G48)) (a1 : Int) : St := ⟨[sl 3 g48 a0, .int .i64 a1, .undef, .undef, .undef, .undef, .undef, .undef, .undef, .undef, .undef, .undef], []⟩
noncomputable def k9e : List Item := [.code b9]
theorem p9e_1 (a0 : (List G48)) (a1 : Int) (h1 : (IntKind.wrap .i64 (a1 - (List.length a0 : Int))) < 0) : Wc X 9 0 k9e (s9e a0 a1) [.int .i64 (-1)] [] :=
  runFin_ok T_ok mixed F9 (cmds := [.reg [],
    .reg [],
    .reg [{ i := 1, dec := some true }],
    .reg []]) (ps := [(decide ((IntKind.wrap .i64 (a1 - (List.length a0 : Int))) < 0)) = true,
    ((-1) : Int) = (-1)]) (by kernel_rfl) ⟨decide_eq_true h1, rfl, trivial⟩
theorem p9e_2 (a0 : (List G48)) (a1 : Int) (h1 : ¬ ((IntKind.wrap .i64 (a1 - (List.length a0 : Int))) < 0)) : Wc X 9 0 k9e (s9e a0 a1) [.int .i64 (IntKind.wrap .i64 (a1 - (List.length a0 : Int)))] [] :=
  runFin_ok T_ok mixed F9 (cmds := [.reg [],
    .reg [],
    .reg [{ i := 1, dec := some false }],
    .reg []]) (ps := [(decide ((IntKind.wrap .i64 (a1 - (List.length a0 : Int))) < 0)) = false,
    (IntKind.wrap .i64 (a1 - (List.length a0 : Int)) : Int) = (IntKind.wrap .i64 (a1 - (List.length a0 : Int)))]) (by kernel_rfl) ⟨decide_eq_false h1, rfl, trivial⟩
theorem c9 {res : List D} (a0 : (List G48)) (a1 : Int) (h : Wc X 9 0 k9e (s9e a0 a1) res []) : Ct X.P X.gl 9 [sl 3 g48 a0, .int .i64 a1] [] res [] :=
  Ct.of F9 (c := b9) (by kernel_rfl) (by kernel_rfl) h
/-! loop example/g00886/laws toMailS -/
noncomputable def b11 : Code := match Go.Proofs.Try.f11.body with | some c => c | none => .skip
theorem F11 : X.P.funcs[11]? = some Go.Proofs.Try.f11 := by kernel_rfl
def s11e (a0 : (List G48)) : St := ⟨[sl 3 g48 a0, .undef, .undef, .undef, .undef, .undef, .undef, .undef, .undef, .undef, .undef, .undef, .undef, .undef, .undef, .undef, .undef, .undef, .undef, .undef, .undef, .undef, .undef], []⟩
noncomputable def k11e : List Item := [.code b11]
def s11_1 (va0 : (List G48)) (i1 : Int) (l2 : (List G46)) : St := ⟨[sl 3 g48 va0, .undef, .undef, .ref 0 3 none, .int .i64 i1, .undef, .undef, .undef, .undef, .undef, .undef, .undef, .undef, .undef, .undef, .undef, .undef, .undef, .undef, .undef, .undef, .undef, .undef], [some ⟨false, false, 3, List.length l2, List.map g46 l2⟩]⟩
noncomputable def k11_1 : List Item := nav 300 3 [] [.code b11]
theorem p11e_1 {res : List D} {G' : List Root} (a0 : (List G48)) (h1 : Int.toNat (List.length a0 : Int) * 24 ≤ 140737488355328) (hn : Wc X 11 0 k11_1 (s11_1 a0 0 (List.replicate (Int.toNat (List.length a0 : Int)) (G46.mk 0 0 0))) res G') : Wc X 11 0 k11e (s11e a0) res G' :=
  run_ok T_ok mixed (cmds := [.reg [],
    .reg [{ i := 2, n := List.length (List.replicate (Int.toNat (List.length a0 : Int)) (G46.mk 0 0 0)), xs := List.map g46 (List.replicate (Int.toNat (List.length a0 : Int)) (G46.mk 0 0 0)) }],
    .reg [],
    .canon [0] [0, 3, 4]]) (k' := k11_1) (σ' := (s11_1 a0 0 (List.replicate (Int.toNat (List.length a0 : Int)) (G46.mk 0 0 0)))) (ps := [(List.length a0 : Int) = (List.length a0 : Int),
    0 ≤ (List.length a0 : Int),
    Int.toNat (List.length a0 : Int) * 24 ≤ 140737488355328,
    List.length (List.replicate (Int.toNat (List.length a0 : Int)) (G46.mk 0 0 0)) = Int.toNat (List.length a0 : Int),
    List.replicate (Int.toNat (List.length a0 : Int)) (.agg [.int .i64 0, .int .i64 0, .int .i64 0]) = List.map g46 (List.replicate (Int.toNat (List.length a0 : Int)) (G46.mk 0 0 0))]) (by kernel_rfl) ⟨rfl, (by omega), h1, (by simp), (by rw [List.map_replicate]; rfl), trivial⟩ hn
theorem p11_1_1 {res : List D} {G' : List Root} (va0 : (List G48)) (i1 : Int) (l2 : (List G46)) (h1 : i1 < (List.length va0 : Int)) (x2 : G48) (h3 : va0[(Int.toNat i1)]? = some x2) (h4 : 0 ≤ i1) (x5 : G46) (h6 : Ct X.P X.gl 30 [.agg [.int .i64 x2.Turn, .int .i64 x2.Side, .int .i64 x2.Seal]] [] [.agg [.int .i64 x5.Turn, .int .i64 x5.Side, .int .i64 x5.Seal]] []) (x7 : G46) (h8 : l2[(Int.toNat i1)]? = some x7) (h9 : 0 ≤ i1) (hn : Wc X 11 0 k11_1 (s11_1 va0 (IntKind.wrap .i64 (i1 + 1)) (List.set l2 (Int.toNat i1) x5)) res G') : Wc X 11 0 k11_1 (s11_1 va0 i1 l2) res G' :=
  run_ok T_ok mixed (cmds := [.reg [{ i := 3, dec := some true }],
    .reg [{ i := 5, xs := [.int .i64 x2.Turn, .int .i64 x2.Side, .int .i64 x2.Seal] }, { i := 6, call := some { cl := true, ins := [], args := [.agg [.int .i64 x2.Turn, .int .i64 x2.Side, .int .i64 x2.Seal]], res := [.agg [.int .i64 x5.Turn, .int .i64 x5.Side, .int .i64 x5.Seal]], G' := [] } }, { i := 8, xs := List.map g46 (List.set l2 (Int.toNat i1) x5), n := List.length (List.set l2 (Int.toNat i1) x5) }],
    .reg [],
    .canon [0] [0, 3, 4]]) (k' := k11_1) (σ' := (s11_1 va0 (IntKind.wrap .i64 (i1 + 1)) (List.set l2 (Int.toNat i1) x5))) (ps := [(decide (i1 < (List.length va0 : Int))) = true,
    0 ≤ i1,
    i1 < (List.length va0 : Int),
    getCells (List.map g48 va0) (Int.toNat i1) 0 3 = some [.int .i64 x2.Turn, .int .i64 x2.Side, .int .i64 x2.Seal],
    (x2.Turn : Int) = x2.Turn,
    (x2.Side : Int) = x2.Side,
    (x2.Seal : Int) = x2.Seal,
    Ct X.P X.gl 30 [.agg [.int .i64 x2.Turn, .int .i64 x2.Side, .int .i64 x2.Seal]] [] [.agg [.int .i64 x5.Turn, .int .i64 x5.Side, .int .i64 x5.Seal]] [],
    0 ≤ i1,
    i1 < (List.length l2 : Int),
    (Int.toNat i1) < List.length l2,
    setCells (List.map g46 l2) (Int.toNat i1) 0 [.int .i64 x5.Turn, .int .i64 x5.Side, .int .i64 x5.Seal] = List.map g46 (List.set l2 (Int.toNat i1) x5),
    List.length l2 = List.length (List.set l2 (Int.toNat i1) x5)]) (by kernel_rfl) ⟨decide_eq_true h1, h4, int_lt_of_at h4 h3, getCells_map h3 rfl, rfl, rfl, rfl, h6, h9, int_lt_of_at h9 h8, lt_of_at h8, setCells_map h8 rfl, (by simp), trivial⟩ hn
theorem p11_1_2 (va0 : (List G48)) (i1 : Int) (l2 : (List G46)) (h1 : ¬ (i1 < (List.length va0 : Int))) : Wc X 11 0 k11_1 (s11_1 va0 i1 l2) [ow 3 g46 l2] [] :=
  runFin_ok T_ok mixed F11 (cmds := [.reg [{ i := 3, dec := some false }],
    .reg []]) (ps := [(decide (i1 < (List.length va0 : Int))) = false,
    List.length l2 = List.length l2,
    List.map g46 l2 = List.map g46 l2]) (by kernel_rfl) ⟨decide_eq_false h1, rfl, rfl, trivial⟩
theorem c11 {res : List D} (a0 : (List G48)) (h : Wc X 11 0 k11e (s11e a0) res []) : Ct X.P X.gl 11 [sl 3 g48 a0] [] res [] :=
  Ct.of F11 (c := b11) (by kernel_rfl) (by kernel_rfl) h
/-! loop example/g00886/laws eqMailS -/
noncomputable def b13 : Code := match Go.Proofs.Try.f13.body with | some c => c | none => .skip
theorem F13 : X.P.funcs[13]? = some Go.Proofs.Try.f13 := by kernel_rfl
def s13e (a0 : (List G46)) (a1 : (List G46)) : St := ⟨[sl 3 g46 a0, sl 3 g46 a1, .undef, .undef, .undef, .undef, .undef, .undef, .undef, .undef, .undef, .undef, .undef, .undef, .undef, .undef, .undef, .undef, .undef, .undef, .undef, .undef, .undef, .undef, .undef, .undef, .undef], []⟩
noncomputable def k13e : List Item := [.code b13]
def s13_1 (va0 : (List G46)) (b1 : (List G46)) (i2 : Int) : St := ⟨[sl 3 g46 va0, sl 3 g46 b1, .undef, .undef, .undef, .int .i64 i2, .undef, .undef, .undef, .undef, .undef, .undef, .undef, .undef, .undef, .undef, .undef, .undef, .undef, .undef, .undef, .undef, .undef, .undef, .undef, .undef, .undef], []⟩
noncomputable def k13_1 : List Item := nav 300 3 [false] [.code b13]
theorem p13e_1 (a0 : (List G46)) (a1 : (List G46)) (h1 : ¬ (List.length a0 : Int) = (List.length a1 : Int)) : Wc X 13 0 k13e (s13e a0 a1) [.bool false] [] :=
  runFin_ok T_ok mixed F13 (cmds := [.reg [],
    .reg [{ i := 4, dec := some true }],
    .reg []]) (ps := [((List.length a0 : Int) != (List.length a1 : Int)) = true,
    false = false]) (by kernel_rfl) ⟨bneT h1, rfl, trivial⟩
theorem p13e_2 {res : List D} {G' : List Root} (a0 : (List G46)) (a1 : (List G46)) (h1 : (List.length a0 : Int) = (List.length a1 : Int)) (hn : Wc X 13 0 k13_1 (s13_1 a0 a1 0) res G') : Wc X 13 0 k13e (s13e a0 a1) res G' :=
  run_ok T_ok mixed (cmds := [.reg [],
    .reg [{ i := 4, dec := some false }],
    .reg [],
    .canon [] [0, 1, 5]]) (k' := k13_1) (σ' := (s13_1 a0 a1 0)) (ps := [((List.length a0 : Int) != (List.length a1 : Int)) = false]) (by kernel_rfl) ⟨bneF h1, trivial⟩ hn
theorem p13_1_1 {res : List D} {G' : List Root} (va0 : (List G46)) (b1 : (List G46)) (i2 : Int) (h1 : i2 < (List.length va0 : Int)) (x2 : G46) (h3 : va0[(Int.toNat i2)]? = some x2) (h4 : 0 ≤ i2) (x5 : G46) (h6 : b1[(Int.toNat i2)]? = some x5) (h7 : 0 ≤ i2) (h8 : Ct X.P X.gl 35 [.agg [.int .i64 x2.Turn, .int .i64 x2.Side, .int .i64 x2.Seal], .agg [.int .i64 x5.Turn, .int .i64 x5.Side, .int .i64 x5.Seal]] [] [.bool true] []) (hn : Wc X 13 0 k13_1 (s13_1 va0 b1 (IntKind.wrap .i64 (i2 + 1))) res G') : Wc X 13 0 k13_1 (s13_1 va0 b1 i2) res G' :=
  run_ok T_ok mixed (cmds := [.reg [{ i := 3, dec := some true }],
    .reg [{ i := 3, xs := [.int .i64 x2.Turn, .int .i64 x2.Side, .int .i64 x2.Seal] }, { i := 7, xs := [.int .i64 x5.Turn, .int .i64 x5.Side, .int .i64 x5.Seal] }, { i := 8, call := some { cl := true, ins := [], args := [.agg [.int .i64 x2.Turn, .int .i64 x2.Side, .int .i64 x2.Seal], .agg [.int .i64 x5.Turn, .int .i64 x5.Side, .int .i64 x5.Seal]], res := [.bool true], G' := [] } }],
    .reg [],
    .canon [] [0, 1, 5]]) (k' := k13_1) (σ' := (s13_1 va0 b1 (IntKind.wrap .i64 (i2 + 1)))) (ps := [(decide (i2 < (List.length va0 : Int))) = true,
    0 ≤ i2,
    i2 < (List.length va0 : Int),
    getCells (List.map g46 va0) (Int.toNat i2) 0 3 = some [.int .i64 x2.Turn, .int .i64 x2.Side, .int .i64 x2.Seal],
    0 ≤ i2,
    i2 < (List.length b1 : Int),
    getCells (List.map g46 b1) (Int.toNat i2) 0 3 = some [.int .i64 x5.Turn, .int .i64 x5.Side, .int .i64 x5.Seal],
    (x2.Turn : Int) = x2.Turn,
    (x2.Side : Int) = x2.Side,
    (x2.Seal : Int) = x2.Seal,
    (x5.Turn : Int) = x5.Turn,
    (x5.Side : Int) = x5.Side,
    (x5.Seal : Int) = x5.Seal,
    Ct X.P X.gl 35 [.agg [.int .i64 x2.Turn, .int .i64 x2.Side, .int .i64 x2.Seal], .agg [.int .i64 x5.Turn, .int .i64 x5.Side, .int .i64 x5.Seal]] [] [.bool true] []]) (by kernel_rfl) ⟨decide_eq_true h1, h4, int_lt_of_at h4 h3, getCells_map h3 rfl, h7, int_lt_of_at h7 h6, getCells_map h6 rfl, rfl, rfl, rfl, rfl, rfl, rfl, h8, trivial⟩ hn
theorem p13_1_2 (va0 : (List G46)) (b1 : (List G46)) (i2 : Int) (h1 : i2 < (List.length va0 : Int)) (x2 : G46) (h3 : va0[(Int.toNat i2)]? = some x2) (h4 : 0 ≤ i2) (x5 : G46) (h6 : b1[(Int.toNat i2)]? = some x5) (h7 : 0 ≤ i2) (h8 : Ct X.P X.gl 35 [.agg [.int .i64 x2.Turn, .int .i64 x2.Side, .int .i64 x2.Seal], .agg [.int .i64 x5.Turn, .int .i64 x5.Side, .int .i64 x5.Seal]] [] [.bool false] []) : Wc X 13 0 k13_1 (s13_1 va0 b1 i2) [.bool false] [] :=
  runFin_ok T_ok mixed F13 (cmds := [.reg [{ i := 3, dec := some true }],
    .reg [{ i := 3, xs := [.int .i64 x2.Turn, .int .i64 x2.Side, .int .i64 x2.Seal] }, { i := 7, xs := [.int .i64 x5.Turn, .int .i64 x5.Side, .int .i64 x5.Seal] }, { i := 8, call := some { cl := true, ins := [], args := [.agg [.int .i64 x2.Turn, .int .i64 x2.Side, .int .i64 x2.Seal], .agg [.int .i64 x5.Turn, .int .i64 x5.Side, .int .i64 x5.Seal]], res := [.bool false], G' := [] } }],
    .reg []]) (ps := [(decide (i2 < (List.length va0 : Int))) = true,
    0 ≤ i2,
    i2 < (List.length va0 : Int),
    getCells (List.map g46 va0) (Int.toNat i2) 0 3 = some [.int .i64 x2.Turn, .int .i64 x2.Side, .int .i64 x2.Seal],
    0 ≤ i2,
    i2 < (List.length b1 : Int),
    getCells (List.map g46 b1) (Int.toNat i2) 0 3 = some [.int .i64 x5.Turn, .int .i64 x5.Side, .int .i64 x5.Seal],
    (x2.Turn : Int) = x2.Turn,
    (x2.Side : Int) = x2.Side,
    (x2.Seal : Int) = x2.Seal,
    (x5.Turn : Int) = x5.Turn,
    (x5.Side : Int) = x5.Side,
    (x5.Seal : Int) = x5.Seal,
    Ct X.P X.gl 35 [.agg [.int .i64 x2.Turn, .int .i64 x2.Side, .int .i64 x2.Seal], .agg [.int .i64 x5.Turn, .int .i64 x5.Side, .int .i64 x5.Seal]] [] [.bool false] [],
    false = false]) (by kernel_rfl) ⟨decide_eq_true h1, h4, int_lt_of_at h4 h3, getCells_map h3 rfl, h7, int_lt_of_at h7 h6, getCells_map h6 rfl, rfl, rfl, rfl, rfl, rfl, rfl, h8, rfl, trivial⟩
theorem p13_1_3 (va0 : (List G46)) (b1 : (List G46)) (i2 : Int) (h1 : ¬ (i2 < (List.length va0 : Int))) : Wc X 13 0 k13_1 (s13_1 va0 b1 i2) [.bool true] [] :=
  runFin_ok T_ok mixed F13 (cmds := [.reg [{ i := 3, dec := some false }],
    .reg []]) (ps := [(decide (i2 < (List.length va0 : Int))) = false,
    true = true]) (by kernel_rfl) ⟨decide_eq_false h1, rfl, trivial⟩
theorem c13 {res : List D} (a0 : (List G46)) (a1 : (List G46)) (h : Wc X 13 0 k13e (s13e a0 a1) res []) : Ct X.P X.gl 13 [sl 3 g46 a0, sl 3 g46 a1] [] res [] :=
  Ct.of F13 (c := b13) (by kernel_rfl) (by kernel_rfl) h
/-! loop example/g00886/spec nMails -/
noncomputable def b29 : Code := match Go.Proofs.Try.f29.body with | some c => c | none => .skip
theorem F29 : X.P.funcs[29]? = some Go.Proofs.Try.f29 := by kernel_rfl
def s29e (a0 : (List G46)) : St := ⟨[sl 3 g46 a0, .undef, .undef, .undef, .undef, .undef, .undef, .undef, .undef, .undef, .undef, .undef, .undef, .undef, .undef, .undef, .undef, .undef, .undef, .undef, .undef, .undef, .undef, .undef, .undef, .undef, .undef, .undef, .undef, .undef, .undef, .undef, .undef, .undef, .undef, .undef, .undef, .undef, .undef, .undef, .undef, .undef, .undef, .undef, .undef, .undef, .undef], []⟩
noncomputable def k29e : List Item := [.code b29]
def s29_1 (l0 : (List G46)) (t1 : (List G46)) (t2 : Int) (t3 : Int) : St := ⟨[sl 3 g46 l0, .undef, .undef, .undef, .undef, sl 3 g46 t1, .int .i64 t2, .int .i64 t3, .undef, .undef, .undef, .undef, .undef, .undef, .undef, .undef, .undef, .undef, .undef, .undef, .undef, .undef, .undef, .undef, .undef, .undef, .undef, .undef, .undef, .undef, .undef, .undef, .undef, .undef, .undef, .undef, .undef, .undef, .undef, .undef, .undef, .undef, .undef, .undef, .undef, .undef, .undef], []⟩
noncomputable def k29_1 : List Item := nav 300 2 [] [.code b29]
theorem p29e_1 {res : List D} {G' : List Root} (a0 : (List G46))  (hn : Wc X 29 0 k29_1 (s29_1 a0 a0 (List.length a0 : Int) 0) res G') : Wc X 29 0 k29e (s29e a0) res G' :=
  run_ok T_ok mixed (cmds := [.reg [],
    .reg [],
    .canon [] [0, 5, 6, 7]]) (k' := k29_1) (σ' := (s29_1 a0 a0 (List.length a0 : Int) 0)) (ps := []) (by kernel_rfl) trivial hn
theorem p29_1_1 (l0 : (List G46)) (t1 : (List G46)) (t2 : Int) (t3 : Int) (h1 : t3 < t2) (x2 : G46) (h3 : t1[(Int.toNat t3)]? = some x2) (h4 : 0 ≤ t3) (h5 : Ct X.P X.gl 51 [.int .i64 x2.Turn, .int .i64 0, .int .i64 30] [] [.bool true] []) (h6 : Ct X.P X.gl 51 [.int .i64 x2.Side, .int .i64 0, .int .i64 1] [] [.bool true] []) (h7 : Ct X.P X.gl 48 [.int .i64 x2.Seal] [] [.bool true] []) (h8 : t3 > 0) (x9 : G46) (h10 : l0[(Int.toNat (IntKind.wrap .i64 (t3 - 1)))]? = some x9) (h11 : 0 ≤ IntKind.wrap .i64 (t3 - 1)) (x12 : Int) (h13 : Ct X.P X.gl 52 [.agg [.int .i64 x9.Turn, .int .i64 x9.Side, .int .i64 x9.Seal]] [] [.int .i64 x12] []) (x14 : Int) (h15 : Ct X.P X.gl 52 [.agg [.int .i64 x2.Turn, .int .i64 x2.Side, .int .i64 x2.Seal]] [] [.int .i64 x14] []) (h16 : x12 ≥ x14) : Wc X 29 0 k29_1 (s29_1 l0 t1 t2 t3) [.bool false] [] :=
  runFin_ok T_ok mixed F29 (cmds := [.reg [{ i := 0, dec := some true }],
    .reg [{ i := 2, xs := [.int .i64 x2.Turn, .int .i64 x2.Side, .int .i64 x2.Seal] }],
    .reg [{ i := 1, xs := [.int .i64 x2.Turn] }, { i := 2, call := some { cl := true, ins := [], args := [.int .i64 x2.Turn, .int .i64 0, .int .i64 30], res := [.bool true], G' := [] } }, { i := 6, xs := [.int .i64 x2.Side] }, { i := 7, call := some { cl := true, ins := [], args := [.int .i64 x2.Side, .int .i64 0, .int .i64 1], res := [.bool true], G' := [] } }, { i := 12, xs := [.int .i64 x2.Seal] }, { i := 13, call := some { cl := true, ins := [], args := [.int .i64 x2.Seal], res := [.bool true], G' := [] } }, { i := 18, dec := some true }, { i := 24, xs := [.int .i64 x9.Turn, .int .i64 x9.Side, .int .i64 x9.Seal] }, { i := 25, call := some { cl := true, ins := [], args := [.agg [.int .i64 x9.Turn, .int .i64 x9.Side, .int .i64 x9.Seal]], res := [.int .i64 x12], G' := [] } }, { i := 26, xs := [.int .i64 x2.Turn, .int .i64 x2.Side, .int .i64 x2.Seal] }, { i := 27, call := some { cl := true, ins := [], args := [.agg [.int .i64 x2.Turn, .int .i64 x2.Side, .int .i64 x2.Seal]], res := [.int .i64 x14], G' := [] } }, { i := 28, dec := some true }],
    .reg []]) (ps := [(decide (t3 < t2)) = true,
    0 ≤ t3,
    t3 < (List.length t1 : Int),
    getCells (List.map g46 t1) (Int.toNat t3) 0 3 = some [.int .i64 x2.Turn, .int .i64 x2.Side, .int .i64 x2.Seal],
    (some [.int .i64 x2.Turn] : Option (List D)) = some [.int .i64 x2.Turn],
    (x2.Turn : Int) = x2.Turn,
    (0 : Int) = 0,
    (30 : Int) = 30,
    Ct X.P X.gl 51 [.int .i64 x2.Turn, .int .i64 0, .int .i64 30] [] [.bool true] [],
    (some [.int .i64 x2.Side] : Option (List D)) = some [.int .i64 x2.Side],
    (x2.Side : Int) = x2.Side,
    (0 : Int) = 0,
    (1 : Int) = 1,
    Ct X.P X.gl 51 [.int .i64 x2.Side, .int .i64 0, .int .i64 1] [] [.bool true] [],
    (some [.int .i64 x2.Seal] : Option (List D)) = some [.int .i64 x2.Seal],
    (x2.Seal : Int) = x2.Seal,
    Ct X.P X.gl 48 [.int .i64 x2.Seal] [] [.bool true] [],
    (decide (t3 > 0)) = true,
    0 ≤ (IntKind.wrap .i64 (t3 - 1)),
    (IntKind.wrap .i64 (t3 - 1)) < (List.length l0 : Int),
    getCells (List.map g46 l0) (Int.toNat (IntKind.wrap .i64 (t3 - 1))) 0 3 = some [.int .i64 x9.Turn, .int .i64 x9.Side, .int .i64 x9.Seal],
    (x9.Turn : Int) = x9.Turn,
    (x9.Side : Int) = x9.Side,
    (x9.Seal : Int) = x9.Seal,
    Ct X.P X.gl 52 [.agg [.int .i64 x9.Turn, .int .i64 x9.Side, .int .i64 x9.Seal]] [] [.int .i64 x12] [],
    (some [.int .i64 x2.Turn, .int .i64 x2.Side, .int .i64 x2.Seal] : Option (List D)) = some [.int .i64 x2.Turn, .int .i64 x2.Side, .int .i64 x2.Seal],
    (x2.Turn : Int) = x2.Turn,
    (x2.Side : Int) = x2.Side,
    (x2.Seal : Int) = x2.Seal,
    Ct X.P X.gl 52 [.agg [.int .i64 x2.Turn, .int .i64 x2.Side, .int .i64 x2.Seal]] [] [.int .i64 x14] [],
    (decide (x12 ≥ x14)) = true,
    false = false]) (by kernel_rfl) ⟨decide_eq_true h1, h4, int_lt_of_at h4 h3, getCells_map h3 rfl, rfl, rfl, rfl, rfl, h5, rfl, rfl, rfl, rfl, h6, rfl, rfl, h7, decide_eq_true h8, h11, int_lt_of_at h11 h10, getCells_map h10 rfl, rfl, rfl, rfl, h13, rfl, rfl, rfl, rfl, h15, decide_eq_true h16, rfl, trivial⟩
theorem p29_1_2 {res : List D} {G' : List Root} (l0 : (List G46)) (t1 : (List G46)) (t2 : Int) (t3 : Int) (h1 : t3 < t2) (x2 : G46) (h3 : t1[(Int.toNat t3)]? = some x2) (h4 : 0 ≤ t3) (h5 : Ct X.P X.gl 51 [.int .i64 x2.Turn, .int .i64 0, .int .i64 30] [] [.bool true] []) (h6 : Ct X.P X.gl 51 [.int .i64 x2.Side, .int .i64 0, .int .i64 1] [] [.bool true] []) (h7 : Ct X.P X.gl 48 [.int .i64 x2.Seal] [] [.bool true] []) (h8 : t3 > 0) (x9 : G46) (h10 : l0[(Int.toNat (IntKind.wrap .i64 (t3 - 1)))]? = some x9) (h11 : 0 ≤ IntKind.wrap .i64 (t3 - 1)) (x12 : Int) (h13 : Ct X.P X.gl 52 [.agg [.int .i64 x9.Turn, .int .i64 x9.Side, .int .i64 x9.Seal]] [] [.int .i64 x12] []) (x14 : Int) (h15 : Ct X.P X.gl 52 [.agg [.int .i64 x2.Turn, .int .i64 x2.Side, .int .i64 x2.Seal]] [] [.int .i64 x14] []) (h16 : ¬ (x12 ≥ x14)) (hn : Wc X 29 0 k29_1 (s29_1 l0 t1 t2 (IntKind.wrap .i64 (t3 + 1))) res G') : Wc X 29 0 k29_1 (s29_1 l0 t1 t2 t3) res G' :=
  run_ok T_ok mixed (cmds := [.reg [{ i := 0, dec := some true }],
    .reg [{ i := 2, xs := [.int .i64 x2.Turn, .int .i64 x2.Side, .int .i64 x2.Seal] }],
    .reg [{ i := 1, xs := [.int .i64 x2.Turn] }, { i := 2, call := some { cl := true, ins := [], args := [.int .i64 x2.Turn, .int .i64 0, .int .i64 30], res := [.bool true], G' := [] } }, { i := 6, xs := [.int .i64 x2.Side] }, { i := 7, call := some { cl := true, ins := [], args := [.int .i64 x2.Side, .int .i64 0, .int .i64 1], res := [.bool true], G' := [] } }, { i := 12, xs := [.int .i64 x2.Seal] }, { i := 13, call := some { cl := true, ins := [], args := [.int .i64 x2.Seal], res := [.bool true], G' := [] } }, { i := 18, dec := some true }, { i := 24, xs := [.int .i64 x9.Turn, .int .i64 x9.Side, .int .i64 x9.Seal] }, { i := 25, call := some { cl := true, ins := [], args := [.agg [.int .i64 x9.Turn, .int .i64 x9.Side, .int .i64 x9.Seal]], res := [.int .i64 x12], G' := [] } }, { i := 26, xs := [.int .i64 x2.Turn, .int .i64 x2.Side, .int .i64 x2.Seal] }, { i := 27, call := some { cl := true, ins := [], args := [.agg [.int .i64 x2.Turn, .int .i64 x2.Side, .int .i64 x2.Seal]], res := [.int .i64 x14], G' := [] } }, { i := 28, dec := some false }],
    .reg [],
    .canon [] [0, 5, 6, 7]]) (k' := k29_1) (σ' := (s29_1 l0 t1 t2 (IntKind.wrap .i64 (t3 + 1)))) (ps := [(decide (t3 < t2)) = true,
    0 ≤ t3,
    t3 < (List.length t1 : Int),
    getCells (List.map g46 t1) (Int.toNat t3) 0 3 = some [.int .i64 x2.Turn, .int .i64 x2.Side, .int .i64 x2.Seal],
    (some [.int .i64 x2.Turn] : Option (List D)) = some [.int .i64 x2.Turn],
    (x2.Turn : Int) = x2.Turn,
    (0 : Int) = 0,
    (30 : Int) = 30,
    Ct X.P X.gl 51 [.int .i64 x2.Turn, .int .i64 0, .int .i64 30] [] [.bool true] [],
    (some [.int .i64 x2.Side] : Option (List D)) = some [.int .i64 x2.Side],
    (x2.Side : Int) = x2.Side,
    (0 : Int) = 0,
    (1 : Int) = 1,
    Ct X.P X.gl 51 [.int .i64 x2.Side, .int .i64 0, .int .i64 1] [] [.bool true] [],
    (some [.int .i64 x2.Seal] : Option (List D)) = some [.int .i64 x2.Seal],
    (x2.Seal : Int) = x2.Seal,
    Ct X.P X.gl 48 [.int .i64 x2.Seal] [] [.bool true] [],
    (decide (t3 > 0)) = true,
    0 ≤ (IntKind.wrap .i64 (t3 - 1)),
    (IntKind.wrap .i64 (t3 - 1)) < (List.length l0 : Int),
    getCells (List.map g46 l0) (Int.toNat (IntKind.wrap .i64 (t3 - 1))) 0 3 = some [.int .i64 x9.Turn, .int .i64 x9.Side, .int .i64 x9.Seal],
    (x9.Turn : Int) = x9.Turn,
    (x9.Side : Int) = x9.Side,
    (x9.Seal : Int) = x9.Seal,
    Ct X.P X.gl 52 [.agg [.int .i64 x9.Turn, .int .i64 x9.Side, .int .i64 x9.Seal]] [] [.int .i64 x12] [],
    (some [.int .i64 x2.Turn, .int .i64 x2.Side, .int .i64 x2.Seal] : Option (List D)) = some [.int .i64 x2.Turn, .int .i64 x2.Side, .int .i64 x2.Seal],
    (x2.Turn : Int) = x2.Turn,
    (x2.Side : Int) = x2.Side,
    (x2.Seal : Int) = x2.Seal,
    Ct X.P X.gl 52 [.agg [.int .i64 x2.Turn, .int .i64 x2.Side, .int .i64 x2.Seal]] [] [.int .i64 x14] [],
    (decide (x12 ≥ x14)) = false]) (by kernel_rfl) ⟨decide_eq_true h1, h4, int_lt_of_at h4 h3, getCells_map h3 rfl, rfl, rfl, rfl, rfl, h5, rfl, rfl, rfl, rfl, h6, rfl, rfl, h7, decide_eq_true h8, h11, int_lt_of_at h11 h10, getCells_map h10 rfl, rfl, rfl, rfl, h13, rfl, rfl, rfl, rfl, h15, decide_eq_false h16, trivial⟩ hn
theorem p29_1_3 {res : List D} {G' : List Root} (l0 : (List G46)) (t1 : (List G46)) (t2 : Int) (t3 : Int) (h1 : t3 < t2) (x2 : G46) (h3 : t1[(Int.toNat t3)]? = some x2) (h4 : 0 ≤ t3) (h5 : Ct X.P X.gl 51 [.int .i64 x2.Turn, .int .i64 0, .int .i64 30] [] [.bool true] []) (h6 : Ct X.P X.gl 51 [.int .i64 x2.Side, .int .i64 0, .int .i64 1] [] [.bool true] []) (h7 : Ct X.P X.gl 48 [.int .i64 x2.Seal] [] [.bool true] []) (h8 : ¬ (t3 > 0)) (hn : Wc X 29 0 k29_1 (s29_1 l0 t1 t2 (IntKind.wrap .i64 (t3 + 1))) res G') : Wc X 29 0 k29_1 (s29_1 l0 t1 t2 t3) res G' :=
  run_ok T_ok mixed (cmds := [.reg [{ i := 0, dec := some true }],
    .reg [{ i := 2, xs := [.int .i64 x2.Turn, .int .i64 x2.Side, .int .i64 x2.Seal] }],
    .reg [{ i := 1, xs := [.int .i64 x2.Turn] }, { i := 2, call := some { cl := true, ins := [], args := [.int .i64 x2.Turn, .int .i64 0, .int .i64 30], res := [.bool true], G' := [] } }, { i := 6, xs := [.int .i64 x2.Side] }, { i := 7, call := some { cl := true, ins := [], args := [.int .i64 x2.Side, .int .i64 0, .int .i64 1], res := [.bool true], G' := [] } }, { i := 12, xs := [.int .i64 x2.Seal] }, { i := 13, call := some { cl := true, ins := [], args := [.int .i64 x2.Seal], res := [.bool true], G' := [] } }, { i := 18, dec := some false }],
    .reg [],
    .canon [] [0, 5, 6, 7]]) (k' := k29_1) (σ' := (s29_1 l0 t1 t2 (IntKind.wrap .i64 (t3 + 1)))) (ps := [(decide (t3 < t2)) = true,
    0 ≤ t3,
    t3 < (List.length t1 : Int),
    getCells (List.map g46 t1) (Int.toNat t3) 0 3 = some [.int .i64 x2.Turn, .int .i64 x2.Side, .int .i64 x2.Seal],
    (some [.int .i64 x2.Turn] : Option (List D)) = some [.int .i64 x2.Turn],
    (x2.Turn : Int) = x2.Turn,
    (0 : Int) = 0,
    (30 : Int) = 30,
    Ct X.P X.gl 51 [.int .i64 x2.Turn, .int .i64 0, .int .i64 30] [] [.bool true] [],
    (some [.int .i64 x2.Side] : Option (List D)) = some [.int .i64 x2.Side],
    (x2.Side : Int) = x2.Side,
    (0 : Int) = 0,
    (1 : Int) = 1,
    Ct X.P X.gl 51 [.int .i64 x2.Side, .int .i64 0, .int .i64 1] [] [.bool true] [],
    (some [.int .i64 x2.Seal] : Option (List D)) = some [.int .i64 x2.Seal],
    (x2.Seal : Int) = x2.Seal,
    Ct X.P X.gl 48 [.int .i64 x2.Seal] [] [.bool true] [],
    (decide (t3 > 0)) = false]) (by kernel_rfl) ⟨decide_eq_true h1, h4, int_lt_of_at h4 h3, getCells_map h3 rfl, rfl, rfl, rfl, rfl, h5, rfl, rfl, rfl, rfl, h6, rfl, rfl, h7, decide_eq_false h8, trivial⟩ hn
theorem p29_1_4 (l0 : (List G46)) (t1 : (List G46)) (t2 : Int) (t3 : Int) (h1 : t3 < t2) (x2 : G46) (h3 : t1[(Int.toNat t3)]? = some x2) (h4 : 0 ≤ t3) (h5 : Ct X.P X.gl 51 [.int .i64 x2.Turn, .int .i64 0, .int .i64 30] [] [.bool true] []) (h6 : Ct X.P X.gl 51 [.int .i64 x2.Side, .int .i64 0, .int .i64 1] [] [.bool true] []) (h7 : Ct X.P X.gl 48 [.int .i64 x2.Seal] [] [.bool false] []) : Wc X 29 0 k29_1 (s29_1 l0 t1 t2 t3) [.bool false] [] :=
  runFin_ok T_ok mixed F29 (cmds := [.reg [{ i := 0, dec := some true }],
    .reg [{ i := 2, xs := [.int .i64 x2.Turn, .int .i64 x2.Side, .int .i64 x2.Seal] }],
    .reg [{ i := 1, xs := [.int .i64 x2.Turn] }, { i := 2, call := some { cl := true, ins := [], args := [.int .i64 x2.Turn, .int .i64 0, .int .i64 30], res := [.bool true], G' := [] } }, { i := 6, xs := [.int .i64 x2.Side] }, { i := 7, call := some { cl := true, ins := [], args := [.int .i64 x2.Side, .int .i64 0, .int .i64 1], res := [.bool true], G' := [] } }, { i := 12, xs := [.int .i64 x2.Seal] }, { i := 13, call := some { cl := true, ins := [], args := [.int .i64 x2.Seal], res := [.bool false], G' := [] } }],
    .reg []]) (ps := [(decide (t3 < t2)) = true,
    0 ≤ t3,
    t3 < (List.length t1 : Int),
    getCells (List.map g46 t1) (Int.toNat t3) 0 3 = some [.int .i64 x2.Turn, .int .i64 x2.Side, .int .i64 x2.Seal],
    (some [.int .i64 x2.Turn] : Option (List D)) = some [.int .i64 x2.Turn],
    (x2.Turn : Int) = x2.Turn,
    (0 : Int) = 0,
    (30 : Int) = 30,
    Ct X.P X.gl 51 [.int .i64 x2.Turn, .int .i64 0, .int .i64 30] [] [.bool true] [],
    (some [.int .i64 x2.Side] : Option (List D)) = some [.int .i64 x2.Side],
    (x2.Side : Int) = x2.Side,
    (0 : Int) = 0,
    (1 : Int) = 1,
    Ct X.P X.gl 51 [.int .i64 x2.Side, .int .i64 0, .int .i64 1] [] [.bool true] [],
    (some [.int .i64 x2.Seal] : Option (List D)) = some [.int .i64 x2.Seal],
    (x2.Seal : Int) = x2.Seal,
    Ct X.P X.gl 48 [.int .i64 x2.Seal] [] [.bool false] [],
    false = false]) (by kernel_rfl) ⟨decide_eq_true h1, h4, int_lt_of_at h4 h3, getCells_map h3 rfl, rfl, rfl, rfl, rfl, h5, rfl, rfl, rfl, rfl, h6, rfl, rfl, h7, rfl, trivial⟩
theorem p29_1_5 (l0 : (List G46)) (t1 : (List G46)) (t2 : Int) (t3 : Int) (h1 : t3 < t2) (x2 : G46) (h3 : t1[(Int.toNat t3)]? = some x2) (h4 : 0 ≤ t3) (h5 : Ct X.P X.gl 51 [.int .i64 x2.Turn, .int .i64 0, .int .i64 30] [] [.bool true] []) (h6 : Ct X.P X.gl 51 [.int .i64 x2.Side, .int .i64 0, .int .i64 1] [] [.bool false] []) : Wc X 29 0 k29_1 (s29_1 l0 t1 t2 t3) [.bool false] [] :=
  runFin_ok T_ok mixed F29 (cmds := [.reg [{ i := 0, dec := some true }],
    .reg [{ i := 2, xs := [.int .i64 x2.Turn, .int .i64 x2.Side, .int .i64 x2.Seal] }],
    .reg [{ i := 1, xs := [.int .i64 x2.Turn] }, { i := 2, call := some { cl := true, ins := [], args := [.int .i64 x2.Turn, .int .i64 0, .int .i64 30], res := [.bool true], G' := [] } }, { i := 6, xs := [.int .i64 x2.Side] }, { i := 7, call := some { cl := true, ins := [], args := [.int .i64 x2.Side, .int .i64 0, .int .i64 1], res := [.bool false], G' := [] } }],
    .reg []]) (ps := [(decide (t3 < t2)) = true,
    0 ≤ t3,
    t3 < (List.length t1 : Int),
    getCells (List.map g46 t1) (Int.toNat t3) 0 3 = some [.int .i64 x2.Turn, .int .i64 x2.Side, .int .i64 x2.Seal],
    (some [.int .i64 x2.Turn] : Option (List D)) = some [.int .i64 x2.Turn],
    (x2.Turn : Int) = x2.Turn,
    (0 : Int) = 0,
    (30 : Int) = 30,
    Ct X.P X.gl 51 [.int .i64 x2.Turn, .int .i64 0, .int .i64 30] [] [.bool true] [],
    (some [.int .i64 x2.Side] : Option (List D)) = some [.int .i64 x2.Side],
    (x2.Side : Int) = x2.Side,
    (0 : Int) = 0,
    (1 : Int) = 1,
    Ct X.P X.gl 51 [.int .i64 x2.Side, .int .i64 0, .int .i64 1] [] [.bool false] [],
    false = false]) (by kernel_rfl) ⟨decide_eq_true h1, h4, int_lt_of_at h4 h3, getCells_map h3 rfl, rfl, rfl, rfl, rfl, h5, rfl, rfl, rfl, rfl, h6, rfl, trivial⟩
theorem p29_1_6 (l0 : (List G46)) (t1 : (List G46)) (t2 : Int) (t3 : Int) (h1 : t3 < t2) (x2 : G46) (h3 : t1[(Int.toNat t3)]? = some x2) (h4 : 0 ≤ t3) (h5 : Ct X.P X.gl 51 [.int .i64 x2.Turn, .int .i64 0, .int .i64 30] [] [.bool false] []) : Wc X 29 0 k29_1 (s29_1 l0 t1 t2 t3) [.bool false] [] :=
  runFin_ok T_ok mixed F29 (cmds := [.reg [{ i := 0, dec := some true }],
    .reg [{ i := 2, xs := [.int .i64 x2.Turn, .int .i64 x2.Side, .int .i64 x2.Seal] }],
    .reg [{ i := 1, xs := [.int .i64 x2.Turn] }, { i := 2, call := some { cl := true, ins := [], args := [.int .i64 x2.Turn, .int .i64 0, .int .i64 30], res := [.bool false], G' := [] } }],
    .reg []]) (ps := [(decide (t3 < t2)) = true,
    0 ≤ t3,
    t3 < (List.length t1 : Int),
    getCells (List.map g46 t1) (Int.toNat t3) 0 3 = some [.int .i64 x2.Turn, .int .i64 x2.Side, .int .i64 x2.Seal],
    (some [.int .i64 x2.Turn] : Option (List D)) = some [.int .i64 x2.Turn],
    (x2.Turn : Int) = x2.Turn,
    (0 : Int) = 0,
    (30 : Int) = 30,
    Ct X.P X.gl 51 [.int .i64 x2.Turn, .int .i64 0, .int .i64 30] [] [.bool false] [],
    false = false]) (by kernel_rfl) ⟨decide_eq_true h1, h4, int_lt_of_at h4 h3, getCells_map h3 rfl, rfl, rfl, rfl, rfl, h5, rfl, trivial⟩
theorem p29_1_7 (l0 : (List G46)) (t1 : (List G46)) (t2 : Int) (t3 : Int) (h1 : ¬ (t3 < t2)) : Wc X 29 0 k29_1 (s29_1 l0 t1 t2 t3) [.bool (decide ((List.length l0 : Int) ≤ 20))] [] :=
  runFin_ok T_ok mixed F29 (cmds := [.reg [{ i := 0, dec := some false }],
    .reg []]) (ps := [(decide (t3 < t2)) = false,
    (decide ((List.length l0 : Int) ≤ 20)) = (decide ((List.length l0 : Int) ≤ 20))]) (by kernel_rfl) ⟨decide_eq_false h1, rfl, trivial⟩
theorem c29 {res : List D} (a0 : (List G46)) (h : Wc X 29 0 k29e (s29e a0) res []) : Ct X.P X.gl 29 [sl 3 g46 a0] [] res [] :=
  Ct.of F29 (c := b29) (by kernel_rfl) (by kernel_rfl) h
/-! loop example/g00886/spec IsMailbox -/
noncomputable def b10 : Code := match Go.Proofs.Try.f10.body with | some c => c | none => .skip
theorem F10 : X.P.funcs[10]? = some Go.Proofs.Try.f10 := by kernel_rfl
def s10e (a0 : (List G46)) : St := ⟨[sl 3 g46 a0, .undef, .undef, .undef, .undef], []⟩
noncomputable def k10e : List Item := [.code b10]
theorem p10e_1 (a0 : (List G46)) (x1 : Bool) (h2 : Ct X.P X.gl 29 [sl 3 g46 a0] [] [.bool x1] []) : Wc X 10 0 k10e (s10e a0) [.bool x1] [] :=
  runFin_ok T_ok mixed F10 (cmds := [.reg [],
    .reg [{ i := 1, call := some { cl := true, ins := [], args := [sl 3 g46 a0], res := [.bool x1], G' := [] } }]]) (ps := [List.length a0 = List.length a0,
    erL (List.map g46 a0) = erL (List.map g46 a0),
    Ct X.P X.gl 29 [sl 3 g46 a0] [] [.bool x1] [],
    x1 = x1]) (by kernel_rfl) ⟨rfl, rfl, h2, rfl, trivial⟩
theorem c10 {res : List D} (a0 : (List G46)) (h : Wc X 10 0 k10e (s10e a0) res []) : Ct X.P X.gl 10 [sl 3 g46 a0] [] res [] :=
  Ct.of F10 (c := b10) (by kernel_rfl) (by kernel_rfl) h
/-! loop example/g00886/impl IsMailbox -/
noncomputable def b12 : Code := match Go.Proofs.Try.f12.body with | some c => c | none => .skip
theorem F12 : X.P.funcs[12]? = some Go.Proofs.Try.f12 := by kernel_rfl
def s12e (a0 : (List G46)) : St := ⟨[sl 3 g46 a0, .undef, .undef, .undef, .undef, .undef, .undef, .undef, .undef, .undef, .undef, .undef, .undef, .undef, .undef, .undef, .undef, .undef, .undef, .undef, .undef, .undef, .undef, .undef, .undef, .undef, .undef, .undef, .undef, .undef, .undef, .undef, .undef, .undef, .undef, .undef, .undef, .undef, .undef, .undef, .undef, .undef, .undef, .undef, .undef, .undef], []⟩
noncomputable def k12e : List Item := [.code b12]
def s12_1 (l0 : (List G46)) (t1 : (List G46)) (t2 : Int) (t3 : Int) : St := ⟨[sl 3 g46 l0, .undef, .undef, .undef, .undef, .undef, .undef, .undef, sl 3 g46 t1, .int .i64 t2, .int .i64 t3, .undef, .undef, .undef, .undef, .undef, .undef, .undef, .undef, .undef, .undef, .undef, .undef, .undef, .undef, .undef, .undef, .undef, .undef, .undef, .undef, .undef, .undef, .undef, .undef, .undef, .undef, .undef, .undef, .undef, .undef, .undef, .undef, .undef, .undef, .undef], []⟩
noncomputable def k12_1 : List Item := nav 300 3 [false] [.code b12]
theorem p12e_1 (a0 : (List G46)) (h1 : (List.length a0 : Int) > 20) : Wc X 12 0 k12e (s12e a0) [.bool false] [] :=
  runFin_ok T_ok mixed F12 (cmds := [.reg [],
    .reg [{ i := 2, dec := some true }],
    .reg []]) (ps := [(decide ((List.length a0 : Int) > 20)) = true,
    false = false]) (by kernel_rfl) ⟨decide_eq_true h1, rfl, trivial⟩
theorem p12e_2 {res : List D} {G' : List Root} (a0 : (List G46)) (h1 : ¬ ((List.length a0 : Int) > 20)) (hn : Wc X 12 0 k12_1 (s12_1 a0 a0 (List.length a0 : Int) 0) res G') : Wc X 12 0 k12e (s12e a0) res G' :=
  run_ok T_ok mixed (cmds := [.reg [],
    .reg [{ i := 2, dec := some false }],
    .reg [],
    .canon [] [0, 8, 9, 10]]) (k' := k12_1) (σ' := (s12_1 a0 a0 (List.length a0 : Int) 0)) (ps := [(decide ((List.length a0 : Int) > 20)) = false]) (by kernel_rfl) ⟨decide_eq_false h1, trivial⟩ hn
theorem p12_1_1 (l0 : (List G46)) (t1 : (List G46)) (t2 : Int) (t3 : Int) (h1 : t3 < t2) (x2 : G46) (h3 : t1[(Int.toNat t3)]? = some x2) (h4 : 0 ≤ t3) (h5 : Ct X.P X.gl 31 [.int .i64 x2.Turn] [] [.bool true] []) (h6 : Ct X.P X.gl 32 [.int .i64 x2.Side] [] [.bool true] []) (h7 : Ct X.P X.gl 33 [.int .i64 x2.Seal] [] [.bool true] []) (h8 : t3 > 0) (x9 : G46) (h10 : l0[(Int.toNat (IntKind.wrap .i64 (t3 - 1)))]? = some x9) (h11 : 0 ≤ IntKind.wrap .i64 (t3 - 1)) (x12 : Int) (h13 : Ct X.P X.gl 34 [.agg [.int .i64 x9.Turn, .int .i64 x9.Side, .int .i64 x9.Seal], .agg [.int .i64 x2.Turn, .int .i64 x2.Side, .int .i64 x2.Seal]] [] [.int .i64 x12] []) (h14 : x12 ≥ 0) : Wc X 12 0 k12_1 (s12_1 l0 t1 t2 t3) [.bool false] [] :=
  runFin_ok T_ok mixed F12 (cmds := [.reg [{ i := 0, dec := some true }],
    .reg [{ i := 2, xs := [.int .i64 x2.Turn, .int .i64 x2.Side, .int .i64 x2.Seal] }],
    .reg [{ i := 1, xs := [.int .i64 x2.Turn] }, { i := 2, call := some { cl := true, ins := [], args := [.int .i64 x2.Turn], res := [.bool true], G' := [] } }, { i := 6, xs := [.int .i64 x2.Side] }, { i := 7, call := some { cl := true, ins := [], args := [.int .i64 x2.Side], res := [.bool true], G' := [] } }, { i := 12, xs := [.int .i64 x2.Seal] }, { i := 13, call := some { cl := true, ins := [], args := [.int .i64 x2.Seal], res := [.bool true], G' := [] } }, { i := 18, dec := some true }, { i := 24, xs := [.int .i64 x9.Turn, .int .i64 x9.Side, .int .i64 x9.Seal] }, { i := 25, xs := [.int .i64 x2.Turn, .int .i64 x2.Side, .int .i64 x2.Seal] }, { i := 26, call := some { cl := true, ins := [], args := [.agg [.int .i64 x9.Turn, .int .i64 x9.Side, .int .i64 x9.Seal], .agg [.int .i64 x2.Turn, .int .i64 x2.Side, .int .i64 x2.Seal]], res := [.int .i64 x12], G' := [] } }, { i := 27, dec := some true }],
    .reg []]) (ps := [(decide (t3 < t2)) = true,
    0 ≤ t3,
    t3 < (List.length t1 : Int),
    getCells (List.map g46 t1) (Int.toNat t3) 0 3 = some [.int .i64 x2.Turn, .int .i64 x2.Side, .int .i64 x2.Seal],
    (some [.int .i64 x2.Turn] : Option (List D)) = some [.int .i64 x2.Turn],
    (x2.Turn : Int) = x2.Turn,
    Ct X.P X.gl 31 [.int .i64 x2.Turn] [] [.bool true] [],
    (some [.int .i64 x2.Side] : Option (List D)) = some [.int .i64 x2.Side],
    (x2.Side : Int) = x2.Side,
    Ct X.P X.gl 32 [.int .i64 x2.Side] [] [.bool true] [],
    (some [.int .i64 x2.Seal] : Option (List D)) = some [.int .i64 x2.Seal],
    (x2.Seal : Int) = x2.Seal,
    Ct X.P X.gl 33 [.int .i64 x2.Seal] [] [.bool true] [],
    (decide (t3 > 0)) = true,
    0 ≤ (IntKind.wrap .i64 (t3 - 1)),
    (IntKind.wrap .i64 (t3 - 1)) < (List.length l0 : Int),
    getCells (List.map g46 l0) (Int.toNat (IntKind.wrap .i64 (t3 - 1))) 0 3 = some [.int .i64 x9.Turn, .int .i64 x9.Side, .int .i64 x9.Seal],
    (some [.int .i64 x2.Turn, .int .i64 x2.Side, .int .i64 x2.Seal] : Option (List D)) = some [.int .i64 x2.Turn, .int .i64 x2.Side, .int .i64 x2.Seal],
    (x9.Turn : Int) = x9.Turn,
    (x9.Side : Int) = x9.Side,
    (x9.Seal : Int) = x9.Seal,
    (x2.Turn : Int) = x2.Turn,
    (x2.Side : Int) = x2.Side,
    (x2.Seal : Int) = x2.Seal,
    Ct X.P X.gl 34 [.agg [.int .i64 x9.Turn, .int .i64 x9.Side, .int .i64 x9.Seal], .agg [.int .i64 x2.Turn, .int .i64 x2.Side, .int .i64 x2.Seal]] [] [.int .i64 x12] [],
    (decide (x12 ≥ 0)) = true,
    false = false]) (by kernel_rfl) ⟨decide_eq_true h1, h4, int_lt_of_at h4 h3, getCells_map h3 rfl, rfl, rfl, h5, rfl, rfl, h6, rfl, rfl, h7, decide_eq_true h8, h11, int_lt_of_at h11 h10, getCells_map h10 rfl, rfl, rfl, rfl, rfl, rfl, rfl, rfl, h13, decide_eq_true h14, rfl, trivial⟩
theorem p12_1_2 {res : List D} {G' : List Root} (l0 : (List G46)) (t1 : (List G46)) (t2 : Int) (t3 : Int) (h1 : t3 < t2) (x2 : G46) (h3 : t1[(Int.toNat t3)]? = some x2) (h4 : 0 ≤ t3) (h5 : Ct X.P X.gl 31 [.int .i64 x2.Turn] [] [.bool true] []) (h6 : Ct X.P X.gl 32 [.int .i64 x2.Side] [] [.bool true] []) (h7 : Ct X.P X.gl 33 [.int .i64 x2.Seal] [] [.bool true] []) (h8 : t3 > 0) (x9 : G46) (h10 : l0[(Int.toNat (IntKind.wrap .i64 (t3 - 1)))]? = some x9) (h11 : 0 ≤ IntKind.wrap .i64 (t3 - 1)) (x12 : Int) (h13 : Ct X.P X.gl 34 [.agg [.int .i64 x9.Turn, .int .i64 x9.Side, .int .i64 x9.Seal], .agg [.int .i64 x2.Turn, .int .i64 x2.Side, .int .i64 x2.Seal]] [] [.int .i64 x12] []) (h14 : ¬ (x12 ≥ 0)) (hn : Wc X 12 0 k12_1 (s12_1 l0 t1 t2 (IntKind.wrap .i64 (t3 + 1))) res G') : Wc X 12 0 k12_1 (s12_1 l0 t1 t2 t3) res G' :=
  run_ok T_ok mixed (cmds := [.reg [{ i := 0, dec := some true }],
    .reg [{ i := 2, xs := [.int .i64 x2.Turn, .int .i64 x2.Side, .int .i64 x2.Seal] }],
    .reg [{ i := 1, xs := [.int .i64 x2.Turn] }, { i := 2, call := some { cl := true, ins := [], args := [.int .i64 x2.Turn], res := [.bool true], G' := [] } }, { i := 6, xs := [.int .i64 x2.Side] }, { i := 7, call := some { cl := true, ins := [], args := [.int .i64 x2.Side], res := [.bool true], G' := [] } }, { i := 12, xs := [.int .i64 x2.Seal] }, { i := 13, call := some { cl := true, ins := [], args := [.int .i64 x2.Seal], res := [.bool true], G' := [] } }, { i := 18, dec := some true }, { i := 24, xs := [.int .i64 x9.Turn, .int .i64 x9.Side, .int .i64 x9.Seal] }, { i := 25, xs := [.int .i64 x2.Turn, .int .i64 x2.Side, .int .i64 x2.Seal] }, { i := 26, call := some { cl := true, ins := [], args := [.agg [.int .i64 x9.Turn, .int .i64 x9.Side, .int .i64 x9.Seal], .agg [.int .i64 x2.Turn, .int .i64 x2.Side, .int .i64 x2.Seal]], res := [.int .i64 x12], G' := [] } }, { i := 27, dec := some false }],
    .reg [],
    .canon [] [0, 8, 9, 10]]) (k' := k12_1) (σ' := (s12_1 l0 t1 t2 (IntKind.wrap .i64 (t3 + 1)))) (ps := [(decide (t3 < t2)) = true,
    0 ≤ t3,
    t3 < (List.length t1 : Int),
    getCells (List.map g46 t1) (Int.toNat t3) 0 3 = some [.int .i64 x2.Turn, .int .i64 x2.Side, .int .i64 x2.Seal],
    (some [.int .i64 x2.Turn] : Option (List D)) = some [.int .i64 x2.Turn],
    (x2.Turn : Int) = x2.Turn,
    Ct X.P X.gl 31 [.int .i64 x2.Turn] [] [.bool true] [],
    (some [.int .i64 x2.Side] : Option (List D)) = some [.int .i64 x2.Side],
    (x2.Side : Int) = x2.Side,
    Ct X.P X.gl 32 [.int .i64 x2.Side] [] [.bool true] [],
    (some [.int .i64 x2.Seal] : Option (List D)) = some [.int .i64 x2.Seal],
    (x2.Seal : Int) = x2.Seal,
    Ct X.P X.gl 33 [.int .i64 x2.Seal] [] [.bool true] [],
    (decide (t3 > 0)) = true,
    0 ≤ (IntKind.wrap .i64 (t3 - 1)),
    (IntKind.wrap .i64 (t3 - 1)) < (List.length l0 : Int),
    getCells (List.map g46 l0) (Int.toNat (IntKind.wrap .i64 (t3 - 1))) 0 3 = some [.int .i64 x9.Turn, .int .i64 x9.Side, .int .i64 x9.Seal],
    (some [.int .i64 x2.Turn, .int .i64 x2.Side, .int .i64 x2.Seal] : Option (List D)) = some [.int .i64 x2.Turn, .int .i64 x2.Side, .int .i64 x2.Seal],
    (x9.Turn : Int) = x9.Turn,
    (x9.Side : Int) = x9.Side,
    (x9.Seal : Int) = x9.Seal,
    (x2.Turn : Int) = x2.Turn,
    (x2.Side : Int) = x2.Side,
    (x2.Seal : Int) = x2.Seal,
    Ct X.P X.gl 34 [.agg [.int .i64 x9.Turn, .int .i64 x9.Side, .int .i64 x9.Seal], .agg [.int .i64 x2.Turn, .int .i64 x2.Side, .int .i64 x2.Seal]] [] [.int .i64 x12] [],
    (decide (x12 ≥ 0)) = false]) (by kernel_rfl) ⟨decide_eq_true h1, h4, int_lt_of_at h4 h3, getCells_map h3 rfl, rfl, rfl, h5, rfl, rfl, h6, rfl, rfl, h7, decide_eq_true h8, h11, int_lt_of_at h11 h10, getCells_map h10 rfl, rfl, rfl, rfl, rfl, rfl, rfl, rfl, h13, decide_eq_false h14, trivial⟩ hn
theorem p12_1_3 {res : List D} {G' : List Root} (l0 : (List G46)) (t1 : (List G46)) (t2 : Int) (t3 : Int) (h1 : t3 < t2) (x2 : G46) (h3 : t1[(Int.toNat t3)]? = some x2) (h4 : 0 ≤ t3) (h5 : Ct X.P X.gl 31 [.int .i64 x2.Turn] [] [.bool true] []) (h6 : Ct X.P X.gl 32 [.int .i64 x2.Side] [] [.bool true] []) (h7 : Ct X.P X.gl 33 [.int .i64 x2.Seal] [] [.bool true] []) (h8 : ¬ (t3 > 0)) (hn : Wc X 12 0 k12_1 (s12_1 l0 t1 t2 (IntKind.wrap .i64 (t3 + 1))) res G') : Wc X 12 0 k12_1 (s12_1 l0 t1 t2 t3) res G' :=
  run_ok T_ok mixed (cmds := [.reg [{ i := 0, dec := some true }],
    .reg [{ i := 2, xs := [.int .i64 x2.Turn, .int .i64 x2.Side, .int .i64 x2.Seal] }],
    .reg [{ i := 1, xs := [.int .i64 x2.Turn] }, { i := 2, call := some { cl := true, ins := [], args := [.int .i64 x2.Turn], res := [.bool true], G' := [] } }, { i := 6, xs := [.int .i64 x2.Side] }, { i := 7, call := some { cl := true, ins := [], args := [.int .i64 x2.Side], res := [.bool true], G' := [] } }, { i := 12, xs := [.int .i64 x2.Seal] }, { i := 13, call := some { cl := true, ins := [], args := [.int .i64 x2.Seal], res := [.bool true], G' := [] } }, { i := 18, dec := some false }],
    .reg [],
    .canon [] [0, 8, 9, 10]]) (k' := k12_1) (σ' := (s12_1 l0 t1 t2 (IntKind.wrap .i64 (t3 + 1)))) (ps := [(decide (t3 < t2)) = true,
    0 ≤ t3,
    t3 < (List.length t1 : Int),
    getCells (List.map g46 t1) (Int.toNat t3) 0 3 = some [.int .i64 x2.Turn, .int .i64 x2.Side, .int .i64 x2.Seal],
    (some [.int .i64 x2.Turn] : Option (List D)) = some [.int .i64 x2.Turn],
    (x2.Turn : Int) = x2.Turn,
    Ct X.P X.gl 31 [.int .i64 x2.Turn] [] [.bool true] [],
    (some [.int .i64 x2.Side] : Option (List D)) = some [.int .i64 x2.Side],
    (x2.Side : Int) = x2.Side,
    Ct X.P X.gl 32 [.int .i64 x2.Side] [] [.bool true] [],
    (some [.int .i64 x2.Seal] : Option (List D)) = some [.int .i64 x2.Seal],
    (x2.Seal : Int) = x2.Seal,
    Ct X.P X.gl 33 [.int .i64 x2.Seal] [] [.bool true] [],
    (decide (t3 > 0)) = false]) (by kernel_rfl) ⟨decide_eq_true h1, h4, int_lt_of_at h4 h3, getCells_map h3 rfl, rfl, rfl, h5, rfl, rfl, h6, rfl, rfl, h7, decide_eq_false h8, trivial⟩ hn
theorem p12_1_4 (l0 : (List G46)) (t1 : (List G46)) (t2 : Int) (t3 : Int) (h1 : t3 < t2) (x2 : G46) (h3 : t1[(Int.toNat t3)]? = some x2) (h4 : 0 ≤ t3) (h5 : Ct X.P X.gl 31 [.int .i64 x2.Turn] [] [.bool true] []) (h6 : Ct X.P X.gl 32 [.int .i64 x2.Side] [] [.bool true] []) (h7 : Ct X.P X.gl 33 [.int .i64 x2.Seal] [] [.bool false] []) : Wc X 12 0 k12_1 (s12_1 l0 t1 t2 t3) [.bool false] [] :=
  runFin_ok T_ok mixed F12 (cmds := [.reg [{ i := 0, dec := some true }],
    .reg [{ i := 2, xs := [.int .i64 x2.Turn, .int .i64 x2.Side, .int .i64 x2.Seal] }],
    .reg [{ i := 1, xs := [.int .i64 x2.Turn] }, { i := 2, call := some { cl := true, ins := [], args := [.int .i64 x2.Turn], res := [.bool true], G' := [] } }, { i := 6, xs := [.int .i64 x2.Side] }, { i := 7, call := some { cl := true, ins := [], args := [.int .i64 x2.Side], res := [.bool true], G' := [] } }, { i := 12, xs := [.int .i64 x2.Seal] }, { i := 13, call := some { cl := true, ins := [], args := [.int .i64 x2.Seal], res := [.bool false], G' := [] } }],
    .reg []]) (ps := [(decide (t3 < t2)) = true,
    0 ≤ t3,
    t3 < (List.length t1 : Int),
    getCells (List.map g46 t1) (Int.toNat t3) 0 3 = some [.int .i64 x2.Turn, .int .i64 x2.Side, .int .i64 x2.Seal],
    (some [.int .i64 x2.Turn] : Option (List D)) = some [.int .i64 x2.Turn],
    (x2.Turn : Int) = x2.Turn,
    Ct X.P X.gl 31 [.int .i64 x2.Turn] [] [.bool true] [],
    (some [.int .i64 x2.Side] : Option (List D)) = some [.int .i64 x2.Side],
    (x2.Side : Int) = x2.Side,
    Ct X.P X.gl 32 [.int .i64 x2.Side] [] [.bool true] [],
    (some [.int .i64 x2.Seal] : Option (List D)) = some [.int .i64 x2.Seal],
    (x2.Seal : Int) = x2.Seal,
    Ct X.P X.gl 33 [.int .i64 x2.Seal] [] [.bool false] [],
    false = false]) (by kernel_rfl) ⟨decide_eq_true h1, h4, int_lt_of_at h4 h3, getCells_map h3 rfl, rfl, rfl, h5, rfl, rfl, h6, rfl, rfl, h7, rfl, trivial⟩
theorem p12_1_5 (l0 : (List G46)) (t1 : (List G46)) (t2 : Int) (t3 : Int) (h1 : t3 < t2) (x2 : G46) (h3 : t1[(Int.toNat t3)]? = some x2) (h4 : 0 ≤ t3) (h5 : Ct X.P X.gl 31 [.int .i64 x2.Turn] [] [.bool true] []) (h6 : Ct X.P X.gl 32 [.int .i64 x2.Side] [] [.bool false] []) : Wc X 12 0 k12_1 (s12_1 l0 t1 t2 t3) [.bool false] [] :=
  runFin_ok T_ok mixed F12 (cmds := [.reg [{ i := 0, dec := some true }],
    .reg [{ i := 2, xs := [.int .i64 x2.Turn, .int .i64 x2.Side, .int .i64 x2.Seal] }],
    .reg [{ i := 1, xs := [.int .i64 x2.Turn] }, { i := 2, call := some { cl := true, ins := [], args := [.int .i64 x2.Turn], res := [.bool true], G' := [] } }, { i := 6, xs := [.int .i64 x2.Side] }, { i := 7, call := some { cl := true, ins := [], args := [.int .i64 x2.Side], res := [.bool false], G' := [] } }],
    .reg []]) (ps := [(decide (t3 < t2)) = true,
    0 ≤ t3,
    t3 < (List.length t1 : Int),
    getCells (List.map g46 t1) (Int.toNat t3) 0 3 = some [.int .i64 x2.Turn, .int .i64 x2.Side, .int .i64 x2.Seal],
    (some [.int .i64 x2.Turn] : Option (List D)) = some [.int .i64 x2.Turn],
    (x2.Turn : Int) = x2.Turn,
    Ct X.P X.gl 31 [.int .i64 x2.Turn] [] [.bool true] [],
    (some [.int .i64 x2.Side] : Option (List D)) = some [.int .i64 x2.Side],
    (x2.Side : Int) = x2.Side,
    Ct X.P X.gl 32 [.int .i64 x2.Side] [] [.bool false] [],
    false = false]) (by kernel_rfl) ⟨decide_eq_true h1, h4, int_lt_of_at h4 h3, getCells_map h3 rfl, rfl, rfl, h5, rfl, rfl, h6, rfl, trivial⟩
theorem p12_1_6 (l0 : (List G46)) (t1 : (List G46)) (t2 : Int) (t3 : Int) (h1 : t3 < t2) (x2 : G46) (h3 : t1[(Int.toNat t3)]? = some x2) (h4 : 0 ≤ t3) (h5 : Ct X.P X.gl 31 [.int .i64 x2.Turn] [] [.bool false] []) : Wc X 12 0 k12_1 (s12_1 l0 t1 t2 t3) [.bool false] [] :=
  runFin_ok T_ok mixed F12 (cmds := [.reg [{ i := 0, dec := some true }],
    .reg [{ i := 2, xs := [.int .i64 x2.Turn, .int .i64 x2.Side, .int .i64 x2.Seal] }],
    .reg [{ i := 1, xs := [.int .i64 x2.Turn] }, { i := 2, call := some { cl := true, ins := [], args := [.int .i64 x2.Turn], res := [.bool false], G' := [] } }],
    .reg []]) (ps := [(decide (t3 < t2)) = true,
    0 ≤ t3,
    t3 < (List.length t1 : Int),
    getCells (List.map g46 t1) (Int.toNat t3) 0 3 = some [.int .i64 x2.Turn, .int .i64 x2.Side, .int .i64 x2.Seal],
    (some [.int .i64 x2.Turn] : Option (List D)) = some [.int .i64 x2.Turn],
    (x2.Turn : Int) = x2.Turn,
    Ct X.P X.gl 31 [.int .i64 x2.Turn] [] [.bool false] [],
    false = false]) (by kernel_rfl) ⟨decide_eq_true h1, h4, int_lt_of_at h4 h3, getCells_map h3 rfl, rfl, rfl, h5, rfl, trivial⟩
theorem p12_1_7 (l0 : (List G46)) (t1 : (List G46)) (t2 : Int) (t3 : Int) (h1 : ¬ (t3 < t2)) : Wc X 12 0 k12_1 (s12_1 l0 t1 t2 t3) [.bool true] [] :=
  runFin_ok T_ok mixed F12 (cmds := [.reg [{ i := 0, dec := some false }],
    .reg []]) (ps := [(decide (t3 < t2)) = false,
    true = true]) (by kernel_rfl) ⟨decide_eq_false h1, rfl, trivial⟩
theorem c12 {res : List D} (a0 : (List G46)) (h : Wc X 12 0 k12e (s12e a0) res []) : Ct X.P X.gl 12 [sl 3 g46 a0] [] res [] :=
  Ct.of F12 (c := b12) (by kernel_rfl) (by kernel_rfl) h
/-! loop example/g00886/laws FnExactIsMailbox -/
noncomputable def b3 : Code := match Go.Proofs.Try.f3.body with | some c => c | none => .skip
theorem F3 : X.P.funcs[3]? = some Go.Proofs.Try.f3 := by kernel_rfl
def s3e (a0 : (List G48)) : St := ⟨[sl 3 g48 a0, .undef, .undef, .undef, .undef, .undef, .undef, .undef, .undef, .undef, .undef, .undef, .undef, .undef, .undef, .undef, .undef, .undef, .undef, .undef, .undef, .undef, .undef, .undef, .undef, .undef, .undef], []⟩
noncomputable def k3e : List Item := [.code b3]
theorem p3e_1 (a0 : (List G48)) (x1 : Int) (h2 : Ct X.P X.gl 9 [sl 3 g48 a0, .int .i64 1048576] [] [.int .i64 x1] []) (h3 : x1 < 0) : Wc X 3 0 k3e (s3e a0) [.bool true] [] :=
  runFin_ok T_ok mixed F3 (cmds := [.reg [],
    .reg [],
    .reg [{ i := 2, call := some { cl := true, ins := [], args := [sl 3 g48 a0, .int .i64 1048576], res := [.int .i64 x1], G' := [] } }],
    .reg [{ i := 1, dec := some true }],
    .reg []]) (ps := [List.length a0 = List.length a0,
    erL (List.map g48 a0) = erL (List.map g48 a0),
    (1048576 : Int) = 1048576,
    Ct X.P X.gl 9 [sl 3 g48 a0, .int .i64 1048576] [] [.int .i64 x1] [],
    (decide (x1 < 0)) = true,
    true = true]) (by kernel_rfl) ⟨rfl, rfl, rfl, h2, decide_eq_true h3, rfl, trivial⟩
theorem p3e_2 (a0 : (List G48)) (x1 : Int) (h2 : Ct X.P X.gl 9 [sl 3 g48 a0, .int .i64 1048576] [] [.int .i64 x1] []) (h3 : ¬ (x1 < 0)) (x4 : (List G46)) (h5 : Ct X.P X.gl 11 [sl 3 g48 a0] [] [ow 3 g46 x4] []) (x6 : Bool) (h7 : Ct X.P X.gl 10 [sl 3 g46 x4] [] [.bool x6] []) (x8 : (List G46)) (h9 : Ct X.P X.gl 11 [sl 3 g48 a0] [] [ow 3 g46 x8] []) (x10 : Bool) (h11 : Ct X.P X.gl 12 [sl 3 g46 x8] [] [.bool x10] []) (h12 : (!(x10 == x6)) = true) : Wc X 3 0 k3e (s3e a0) [.bool false] [] :=
  runFin_ok T_ok mixed F3 (cmds := [.reg [],
    .reg [],
    .reg [{ i := 2, call := some { cl := true, ins := [], args := [sl 3 g48 a0, .int .i64 1048576], res := [.int .i64 x1], G' := [] } }],
    .reg [{ i := 1, dec := some false }],
    .reg [{ i := 1, call := some { cl := true, ins := [], args := [sl 3 g48 a0], res := [ow 3 g46 x4], G' := [] } }, { i := 2, call := some { cl := false, ins := [], args := [sl 3 g46 x4], res := [.bool x6], G' := [] } }],
    .reg [{ i := 1, call := some { cl := true, ins := [], args := [sl 3 g48 a0], res := [ow 3 g46 x8], G' := [] } }],
    .reg [{ i := 1, call := some { cl := false, ins := [], args := [sl 3 g46 x8], res := [.bool x10], G' := [] } }],
    .reg [{ i := 2, dec := some true }],
    .reg []]) (ps := [List.length a0 = List.length a0,
    erL (List.map g48 a0) = erL (List.map g48 a0),
    (1048576 : Int) = 1048576,
    Ct X.P X.gl 9 [sl 3 g48 a0, .int .i64 1048576] [] [.int .i64 x1] [],
    (decide (x1 < 0)) = false,
    List.length a0 = List.length a0,
    erL (List.map g48 a0) = erL (List.map g48 a0),
    Ct X.P X.gl 11 [sl 3 g48 a0] [] [ow 3 g46 x4] [],
    List.length x4 = List.length x4,
    erL (List.map g46 x4) = erL (List.map g46 x4),
    Ct X.P X.gl 10 [sl 3 g46 x4] [] [.bool x6] [],
    List.length a0 = List.length a0,
    erL (List.map g48 a0) = erL (List.map g48 a0),
    Ct X.P X.gl 11 [sl 3 g48 a0] [] [ow 3 g46 x8] [],
    List.length x8 = List.length x8,
    erL (List.map g46 x8) = erL (List.map g46 x8),
    Ct X.P X.gl 12 [sl 3 g46 x8] [] [.bool x10] [],
    (!(x10 == x6)) = true,
    false = false]) (by kernel_rfl) ⟨rfl, rfl, rfl, h2, decide_eq_false h3, rfl, rfl, h5, rfl, rfl, h7, rfl, rfl, h9, rfl, rfl, h11, h12, rfl, trivial⟩
theorem p3e_3 (a0 : (List G48)) (x1 : Int) (h2 : Ct X.P X.gl 9 [sl 3 g48 a0, .int .i64 1048576] [] [.int .i64 x1] []) (h3 : ¬ (x1 < 0)) (x4 : (List G46)) (h5 : Ct X.P X.gl 11 [sl 3 g48 a0] [] [ow 3 g46 x4] []) (x6 : Bool) (h7 : Ct X.P X.gl 10 [sl 3 g46 x4] [] [.bool x6] []) (x8 : (List G46)) (h9 : Ct X.P X.gl 11 [sl 3 g48 a0] [] [ow 3 g46 x8] []) (x10 : Bool) (h11 : Ct X.P X.gl 12 [sl 3 g46 x8] [] [.bool x10] []) (h12 : (!(x10 == x6)) = false) (x13 : (List G46)) (h14 : Ct X.P X.gl 11 [sl 3 g48 a0] [] [ow 3 g46 x13] []) (h15 : Ct X.P X.gl 13 [sl 3 g46 x8, sl 3 g46 x13] [] [.bool true] []) : Wc X 3 0 k3e (s3e a0) [.bool true] [] :=
  runFin_ok T_ok mixed F3 (cmds := [.reg [],
    .reg [],
    .reg [{ i := 2, call := some { cl := true, ins := [], args := [sl 3 g48 a0, .int .i64 1048576], res := [.int .i64 x1], G' := [] } }],
    .reg [{ i := 1, dec := some false }],
    .reg [{ i := 1, call := some { cl := true, ins := [], args := [sl 3 g48 a0], res := [ow 3 g46 x4], G' := [] } }, { i := 2, call := some { cl := false, ins := [], args := [sl 3 g46 x4], res := [.bool x6], G' := [] } }],
    .reg [{ i := 1, call := some { cl := true, ins := [], args := [sl 3 g48 a0], res := [ow 3 g46 x8], G' := [] } }],
    .reg [{ i := 1, call := some { cl := false, ins := [], args := [sl 3 g46 x8], res := [.bool x10], G' := [] } }],
    .reg [{ i := 2, dec := some false }],
    .reg [{ i := 2, call := some { cl := true, ins := [], args := [sl 3 g48 a0], res := [ow 3 g46 x13], G' := [] } }, { i := 3, call := some { cl := false, ins := [], args := [sl 3 g46 x8, sl 3 g46 x13], res := [.bool true], G' := [] } }],
    .reg []]) (ps := [List.length a0 = List.length a0,
    erL (List.map g48 a0) = erL (List.map g48 a0),
    (1048576 : Int) = 1048576,
    Ct X.P X.gl 9 [sl 3 g48 a0, .int .i64 1048576] [] [.int .i64 x1] [],
    (decide (x1 < 0)) = false,
    List.length a0 = List.length a0,
    erL (List.map g48 a0) = erL (List.map g48 a0),
    Ct X.P X.gl 11 [sl 3 g48 a0] [] [ow 3 g46 x4] [],
    List.length x4 = List.length x4,
    erL (List.map g46 x4) = erL (List.map g46 x4),
    Ct X.P X.gl 10 [sl 3 g46 x4] [] [.bool x6] [],
    List.length a0 = List.length a0,
    erL (List.map g48 a0) = erL (List.map g48 a0),
    Ct X.P X.gl 11 [sl 3 g48 a0] [] [ow 3 g46 x8] [],
    List.length x8 = List.length x8,
    erL (List.map g46 x8) = erL (List.map g46 x8),
    Ct X.P X.gl 12 [sl 3 g46 x8] [] [.bool x10] [],
    (!(x10 == x6)) = false,
    List.length a0 = List.length a0,
    erL (List.map g48 a0) = erL (List.map g48 a0),
    Ct X.P X.gl 11 [sl 3 g48 a0] [] [ow 3 g46 x13] [],
    List.length x8 = List.length x8,
    erL (List.map g46 x8) = erL (List.map g46 x8),
    List.length x13 = List.length x13,
    erL (List.map g46 x13) = erL (List.map g46 x13),
    Ct X.P X.gl 13 [sl 3 g46 x8, sl 3 g46 x13] [] [.bool true] [],
    true = true]) (by kernel_rfl) ⟨rfl, rfl, rfl, h2, decide_eq_false h3, rfl, rfl, h5, rfl, rfl, h7, rfl, rfl, h9, rfl, rfl, h11, h12, rfl, rfl, h14, rfl, rfl, rfl, rfl, h15, rfl, trivial⟩
theorem p3e_4 (a0 : (List G48)) (x1 : Int) (h2 : Ct X.P X.gl 9 [sl 3 g48 a0, .int .i64 1048576] [] [.int .i64 x1] []) (h3 : ¬ (x1 < 0)) (x4 : (List G46)) (h5 : Ct X.P X.gl 11 [sl 3 g48 a0] [] [ow 3 g46 x4] []) (x6 : Bool) (h7 : Ct X.P X.gl 10 [sl 3 g46 x4] [] [.bool x6] []) (x8 : (List G46)) (h9 : Ct X.P X.gl 11 [sl 3 g48 a0] [] [ow 3 g46 x8] []) (x10 : Bool) (h11 : Ct X.P X.gl 12 [sl 3 g46 x8] [] [.bool x10] []) (h12 : (!(x10 == x6)) = false) (x13 : (List G46)) (h14 : Ct X.P X.gl 11 [sl 3 g48 a0] [] [ow 3 g46 x13] []) (h15 : Ct X.P X.gl 13 [sl 3 g46 x8, sl 3 g46 x13] [] [.bool false] []) : Wc X 3 0 k3e (s3e a0) [.bool false] [] :=
  runFin_ok T_ok mixed F3 (cmds := [.reg [],
    .reg [],
    .reg [{ i := 2, call := some { cl := true, ins := [], args := [sl 3 g48 a0, .int .i64 1048576], res := [.int .i64 x1], G' := [] } }],
    .reg [{ i := 1, dec := some false }],
    .reg [{ i := 1, call := some { cl := true, ins := [], args := [sl 3 g48 a0], res := [ow 3 g46 x4], G' := [] } }, { i := 2, call := some { cl := false, ins := [], args := [sl 3 g46 x4], res := [.bool x6], G' := [] } }],
    .reg [{ i := 1, call := some { cl := true, ins := [], args := [sl 3 g48 a0], res := [ow 3 g46 x8], G' := [] } }],
    .reg [{ i := 1, call := some { cl := false, ins := [], args := [sl 3 g46 x8], res := [.bool x10], G' := [] } }],
    .reg [{ i := 2, dec := some false }],
    .reg [{ i := 2, call := some { cl := true, ins := [], args := [sl 3 g48 a0], res := [ow 3 g46 x13], G' := [] } }, { i := 3, call := some { cl := false, ins := [], args := [sl 3 g46 x8, sl 3 g46 x13], res := [.bool false], G' := [] } }],
    .reg []]) (ps := [List.length a0 = List.length a0,
    erL (List.map g48 a0) = erL (List.map g48 a0),
    (1048576 : Int) = 1048576,
    Ct X.P X.gl 9 [sl 3 g48 a0, .int .i64 1048576] [] [.int .i64 x1] [],
    (decide (x1 < 0)) = false,
    List.length a0 = List.length a0,
    erL (List.map g48 a0) = erL (List.map g48 a0),
    Ct X.P X.gl 11 [sl 3 g48 a0] [] [ow 3 g46 x4] [],
    List.length x4 = List.length x4,
    erL (List.map g46 x4) = erL (List.map g46 x4),
    Ct X.P X.gl 10 [sl 3 g46 x4] [] [.bool x6] [],
    List.length a0 = List.length a0,
    erL (List.map g48 a0) = erL (List.map g48 a0),
    Ct X.P X.gl 11 [sl 3 g48 a0] [] [ow 3 g46 x8] [],
    List.length x8 = List.length x8,
    erL (List.map g46 x8) = erL (List.map g46 x8),
    Ct X.P X.gl 12 [sl 3 g46 x8] [] [.bool x10] [],
    (!(x10 == x6)) = false,
    List.length a0 = List.length a0,
    erL (List.map g48 a0) = erL (List.map g48 a0),
    Ct X.P X.gl 11 [sl 3 g48 a0] [] [ow 3 g46 x13] [],
    List.length x8 = List.length x8,
    erL (List.map g46 x8) = erL (List.map g46 x8),
    List.length x13 = List.length x13,
    erL (List.map g46 x13) = erL (List.map g46 x13),
    Ct X.P X.gl 13 [sl 3 g46 x8, sl 3 g46 x13] [] [.bool false] [],
    false = false]) (by kernel_rfl) ⟨rfl, rfl, rfl, h2, decide_eq_false h3, rfl, rfl, h5, rfl, rfl, h7, rfl, rfl, h9, rfl, rfl, h11, h12, rfl, rfl, h14, rfl, rfl, rfl, rfl, h15, rfl, trivial⟩
theorem c3 {res : List D} (a0 : (List G48)) (h : Wc X 3 0 k3e (s3e a0) res []) : Ct X.P X.gl 3 [sl 3 g48 a0] [] res [] :=
  Ct.of F3 (c := b3) (by kernel_rfl) (by kernel_rfl) h
end Go.Proofs.Ytipolkdlaepcaaa.Ab
