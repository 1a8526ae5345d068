/- Part of the proof of FnStepsCard: no condition of its own. -/
import Derived.Test.YtlniejjcejackaaDoorAb4
set_option linter.unusedVariables false
set_option linter.unusedSimpArgs false
open Go
namespace Go.Proofs.YtlniejjcejackaaDoor.Ab
structure Gi_Hex where
  mk ::
  Q : Int
  R : Int
def gi_Hex (x : Gi_Hex) : D := .agg [I x.Q, I x.R]
structure Gs_l1Cur where
  mk ::
  code : (List Int)
  at_ : Int
  seed : Int
def gs_l1Cur (x : Gs_l1Cur) : D := .agg [sl 1 (D.int .u8) x.code, I x.at_, .int .u64 x.seed]
def gv0 : List Gi_Hex := [⟨1, 0⟩, ⟨1, (-1)⟩, ⟨0, (-1)⟩, ⟨(-1), 0⟩, ⟨(-1), 1⟩, ⟨0, 1⟩]
def gc0 : List D := [.agg (gv0.flatMap fun y => (gi_Hex y).cells)]
/-! loop example/g00886/laws big -/
noncomputable def Dw_big (a0 : (List Int)) (a1 : (List Int)) : Option (Bool) :=
  if ((a0.length : Nat) : Int) > 1048576 then
    some true
  else
    some (decide (((a1.length : Nat) : Int) > (IntKind.wrap .i64 (1048576 - ((a0.length : Nat) : Int)))))
/-!   loop example/g00886/spec l1Cur  next -/
noncomputable def Ds_l1Cur_next (a0 : Gs_l1Cur) : Option (Int × Gs_l1Cur) :=
  if a0.at_ < ((a0.code.length : Nat) : Int) then
    if 0 ≤ a0.at_ then
      Option.bind (a0.code[(Int.toNat a0.at_)]?) fun x3 =>
      if (IntKind.wrap .i64 (a0.at_ + 1)) ≤ ((a0.code.length : Nat) : Int) then
        some ((IntKind.wrap .i64 x3), (Gs_l1Cur.mk a0.code (IntKind.wrap .i64 (a0.at_ + 1)) (IntKind.wrap .u64 ((IntKind.wrap .u64 ((IntKind.wrap .u64 (a0.seed * 6364136223846793005)) + (IntKind.wrap .u64 (IntKind.wrap .i64 x3)))) + 1442695040888963407))))
      else
        some ((IntKind.wrap .i64 (IntKind.wrap .u64 ((BitVec.toNat (BitVec.ofInt (IntKind.bits .u64) (Int.fdiv (IntKind.wrap .u64 ((IntKind.wrap .u64 ((IntKind.wrap .u64 (a0.seed * 6364136223846793005)) + (IntKind.wrap .u64 (IntKind.wrap .i64 x3)))) + 1442695040888963407)) (2 ^ min (Int.toNat 40) (IntKind.bits .u64))) &&& BitVec.ofInt (IntKind.bits .u64) 255) : Nat) : Int))), (Gs_l1Cur.mk a0.code (IntKind.wrap .i64 (a0.at_ + 1)) (IntKind.wrap .u64 ((IntKind.wrap .u64 ((IntKind.wrap .u64 (a0.seed * 6364136223846793005)) + (IntKind.wrap .u64 (IntKind.wrap .i64 x3)))) + 1442695040888963407))))
    else none
  else
    if (IntKind.wrap .i64 (a0.at_ + 1)) ≤ ((a0.code.length : Nat) : Int) then
      some (0, (Gs_l1Cur.mk a0.code (IntKind.wrap .i64 (a0.at_ + 1)) (IntKind.wrap .u64 ((IntKind.wrap .u64 ((IntKind.wrap .u64 (a0.seed * 6364136223846793005)) + (IntKind.wrap .u64 0))) + 1442695040888963407))))
    else
      some ((IntKind.wrap .i64 (IntKind.wrap .u64 ((BitVec.toNat (BitVec.ofInt (IntKind.bits .u64) (Int.fdiv (IntKind.wrap .u64 ((IntKind.wrap .u64 ((IntKind.wrap .u64 (a0.seed * 6364136223846793005)) + (IntKind.wrap .u64 0))) + 1442695040888963407)) (2 ^ min (Int.toNat 40) (IntKind.bits .u64))) &&& BitVec.ofInt (IntKind.bits .u64) 255) : Nat) : Int))), (Gs_l1Cur.mk a0.code (IntKind.wrap .i64 (a0.at_ + 1)) (IntKind.wrap .u64 ((IntKind.wrap .u64 ((IntKind.wrap .u64 (a0.seed * 6364136223846793005)) + (IntKind.wrap .u64 0))) + 1442695040888963407))))
/-!   loop example/g00886/spec l1Cur  pick -/
noncomputable def Ds_l1Cur_pick (a0 : Gs_l1Cur) (a1 : Int) : Option (Int × Gs_l1Cur) :=
  if a1 ≤ 1 then
    some (0, a0)
  else
    Option.bind (Ds_l1Cur_next a0) fun r2 =>
    if a1 > 200 then
      Option.bind (Ds_l1Cur_next r2.2) fun r4 =>
      if ¬ a1 = 0 then
        some ((Int.tmod (IntKind.wrap .i64 ((IntKind.wrap .i64 (r2.1 * 256)) + r4.1)) a1), r4.2)
      else none
    else
      if ¬ a1 = 0 then
        some ((Int.tmod r2.1 a1), r2.2)
      else none
/-!   loop example/g00886/spec l1Cur  among -/
noncomputable def Ds_l1Cur_among (a0 : Gs_l1Cur) (a1 : (List Int)) : Option (Int × Gs_l1Cur) :=
  Option.bind (Ds_l1Cur_pick a0 ((a1.length : Nat) : Int)) fun r1 =>
  if 0 ≤ r1.1 then
    Option.bind (a1[(Int.toNat r1.1)]?) fun x3 =>
    some (x3, r1.2)
  else none
/-!   loop example/g00886/spec l1Cur  hex -/
noncomputable def Ds_l1Cur_hex (a0 : Gs_l1Cur) : Option (Gi_Hex × Gs_l1Cur) :=
  Option.bind (Ds_l1Cur_pick a0 13) fun r1 =>
  Option.bind (Ds_l1Cur_pick r1.2 13) fun r2 =>
  Option.bind (Ds_l1Cur_pick r2.2 16) fun r3 =>
  if (r3.1 : Int) = 0 then
    Option.bind (Ds_l1Cur_among r3.2 [40, (-40), 38]) fun r5 =>
    some ((Gi_Hex.mk r5.1 (IntKind.wrap .i64 (r2.1 - 6))), r5.2)
  else
    if (r3.1 : Int) = 1 then
      Option.bind (Ds_l1Cur_among r3.2 [40, (-40), 39]) fun r6 =>
      some ((Gi_Hex.mk (IntKind.wrap .i64 (r1.1 - 6)) r6.1), r6.2)
    else
      some ((Gi_Hex.mk (IntKind.wrap .i64 (r1.1 - 6)) (IntKind.wrap .i64 (r2.1 - 6))), r3.2)
/-!   loop example/g00886/spec l1Cur  one -/
noncomputable def Ds_l1Cur_one (a0 : Gs_l1Cur) (a1 : Int) : Option (Bool × Gs_l1Cur) :=
  Option.bind (Ds_l1Cur_pick a0 a1) fun r1 =>
  some (((r1.1 : Int) == 0), r1.2)
/-!   loop example/g00886/spec l1Cur  anyHex -/
noncomputable def Ds_l1Cur_anyHex (a0 : Gs_l1Cur) : Option (Gi_Hex × Gs_l1Cur) :=
  Option.bind (Ds_l1Cur_hex a0) fun r1 =>
  Option.bind (Ds_l1Cur_one r1.2 24) fun r2 =>
  if r2.1 = true then
    Option.bind (Ds_l1Cur_among r2.2 [41, (-41)]) fun r4 =>
    some ((Gi_Hex.mk r4.1 r1.1.R), r4.2)
  else
    some (r1.1, r2.2)
/-! loop example/g00886/spec hStep -/
noncomputable def Ds_hStep (a0 : Gi_Hex) (a1 : Int) : Option (Gi_Hex) :=
  if 0 ≤ a1 then
    Option.bind ([1, 1, 0, (-1), (-1), 0][(Int.toNat a1)]?) fun x2 =>
    if 0 ≤ a1 then
      Option.bind ([0, (-1), (-1), 0, 1, 1][(Int.toNat a1)]?) fun x4 =>
      some (Gi_Hex.mk (IntKind.wrap .i64 (a0.Q + x2)) (IntKind.wrap .i64 (a0.R + x4)))
    else none
  else none
/-! loop example/g00886/spec DrawDirectionTo -/
noncomputable def Ds_DrawDirectionTo (a0 : (List Int)) : Option (Gi_Hex × Gi_Hex) :=
  Option.bind (Ds_l1Cur_anyHex (Gs_l1Cur.mk a0 0 0)) fun r1 =>
  Option.bind (Ds_l1Cur_one r1.2 3) fun r2 =>
  if r2.1 = true then
    Option.bind (Ds_l1Cur_anyHex r2.2) fun r4 =>
    some (r1.1, r4.1)
  else
    Option.bind (Ds_l1Cur_pick r2.2 6) fun r4 =>
    Option.bind (Ds_hStep r1.1 r4.1) fun r5 =>
    some (r1.1, r5)
/-! loop example/g00886/impl inRange -/
noncomputable def Di_inRange (a0 : Int) (a1 : Int) (a2 : Int) : Option (Bool) :=
  if a1 ≤ a0 then
    some (decide (a0 ≤ a2))
  else
    some false
/-! loop example/g00886/impl IsHex -/
noncomputable def Di_IsHex (a0 : Gi_Hex) : Option (Bool) :=
  Option.bind (Di_inRange a0.Q (-40) 40) fun r1 =>
  if r1 = true then
    Option.bind (Di_inRange a0.R (-40) 40) fun r3 =>
    some r3
  else
    some false
/-! loop example/g00886/impl stepBy -/
noncomputable def Di_stepBy (a0 : Gi_Hex) (a1 : Int) (a2 : Int) : Option (Gi_Hex) :=
  if 0 ≤ a1 then
    Option.bind (gv0[Int.toNat a1]?) fun x2 =>
    if 0 ≤ a1 then
      Option.bind (gv0[Int.toNat a1]?) fun x4 =>
      some (Gi_Hex.mk (IntKind.wrap .i64 (a0.Q + (IntKind.wrap .i64 (a2 * x2.Q)))) (IntKind.wrap .i64 (a0.R + (IntKind.wrap .i64 (a2 * x4.R)))))
    else none
  else none
/-! loop example/g00886/impl DirectionTo -/
inductive Si_DirectionTo where
  | h1 (t0 : Int) (b1 : Gi_Hex) (b2 : Gi_Hex)
noncomputable def Bi_DirectionTo : Si_DirectionTo → Option (Si_DirectionTo ⊕ (Int × Bool))
  | .h1 t0 b1 b2 =>
    if t0 < 6 then
      Option.bind (Di_stepBy b1 t0 1) fun r2 =>
      if ((r2.Q == b2.Q) && (r2.R == b2.R)) = true then
        some (.inr (t0, true))
      else
        some (.inl (.h1 (IntKind.wrap .i64 (t0 + 1)) b1 b2))
    else
      some (.inr (0, false))
noncomputable def Di_DirectionTo (a0 : Gi_Hex) (a1 : Gi_Hex) : Option (Int × Bool) :=
  Option.bind (Di_IsHex a0) fun r1 =>
  if r1 = true then
    Option.bind (Di_IsHex a1) fun r3 =>
    if r3 = true then
      loop Bi_DirectionTo (.h1 0 a0 a1)
    else
      some (0, false)
  else
    some (0, false)
/-! loop example/g00886/spec l1In -/
noncomputable def Ds_l1In (a0 : Int) (a1 : Int) (a2 : Int) : Option (Bool) :=
  if a0 ≥ a1 then
    some (decide (a0 ≤ a2))
  else
    some false
/-! loop example/g00886/spec hGood -/
noncomputable def Ds_hGood (a0 : Gi_Hex) : Option (Bool) :=
  Option.bind (Ds_l1In a0.Q (-40) 40) fun r1 =>
  if r1 = true then
    Option.bind (Ds_l1In a0.R (-40) 40) fun r3 =>
    some r3
  else
    some false
/-! loop example/g00886/spec DirectionTo -/
inductive Ss_DirectionTo where
  | h1 (d0 : Int) (b1 : Gi_Hex) (b2 : Gi_Hex)
noncomputable def Bs_DirectionTo : Ss_DirectionTo → Option (Ss_DirectionTo ⊕ (Int × Bool))
  | .h1 d0 b1 b2 =>
    if d0 < 6 then
      Option.bind (Ds_hStep b1 d0) fun r2 =>
      if ((r2.Q == b2.Q) && (r2.R == b2.R)) = true then
        some (.inr (d0, true))
      else
        some (.inl (.h1 (IntKind.wrap .i64 (d0 + 1)) b1 b2))
    else
      some (.inr (0, false))
noncomputable def Ds_DirectionTo (a0 : Gi_Hex) (a1 : Gi_Hex) : Option (Int × Bool) :=
  Option.bind (Ds_hGood a0) fun r1 =>
  if r1 = true then
    Option.bind (Ds_hGood a1) fun r3 =>
    if r3 = true then
      loop Bs_DirectionTo (.h1 0 a0 a1)
    else
      some (0, false)
  else
    some (0, false)
/-! loop example/g00886/impl isDirection -/
noncomputable def Di_isDirection (a0 : Int) : Option (Bool) :=
  Option.bind (Di_inRange a0 0 5) fun r1 =>
  some r1
/-! loop example/g00886/impl checkedHex -/
noncomputable def Di_checkedHex (a0 : Gi_Hex) : Option (Gi_Hex × Bool) :=
  Option.bind (Di_IsHex a0) fun r1 =>
  if r1 = true then
    some (a0, true)
  else
    some ((Gi_Hex.mk 0 0), false)
/-! loop example/g00886/impl NeighbourOf -/
noncomputable def Di_NeighbourOf (a0 : Gi_Hex) (a1 : Int) : Option (Gi_Hex × Bool) :=
  Option.bind (Di_IsHex a0) fun r1 =>
  if r1 = true then
    Option.bind (Di_isDirection a1) fun r3 =>
    if r3 = true then
      Option.bind (Di_stepBy a0 a1 1) fun r5 =>
      Option.bind (Di_checkedHex r5) fun r6 =>
      some (r6.1, r6.2)
    else
      some ((Gi_Hex.mk 0 0), false)
  else
    some ((Gi_Hex.mk 0 0), false)
/-! loop example/g00886/spec DrawTurnHex -/
noncomputable def Ds_DrawTurnHex (a0 : (List Int)) : Option (Gi_Hex × Gi_Hex × Int) :=
  Option.bind (Ds_l1Cur_anyHex (Gs_l1Cur.mk a0 0 0)) fun r1 =>
  Option.bind (Ds_l1Cur_anyHex r1.2) fun r2 =>
  Option.bind (Ds_l1Cur_pick r2.2 7) fun r3 =>
  Option.bind (Ds_l1Cur_pick r3.2 20) fun r4 =>
  some (r1.1, r2.1, (IntKind.wrap .i64 (r3.1 - (IntKind.wrap .i64 (Int.tdiv r4.1 19)))))
/-! loop example/g00886/impl TurnHex -/
inductive Si_TurnHex where
  | h1 (q0 : Int) (vr1 : Int) (t2 : Int) (t3 : Int) (b4 : Gi_Hex) (b5 : Gi_Hex)
noncomputable def Bi_TurnHex : Si_TurnHex → Option (Si_TurnHex ⊕ (Gi_Hex × Bool))
  | .h1 q0 vr1 t2 t3 b4 b5 =>
    if t3 < t2 then
      some (.inl (.h1 (IntKind.wrap .i64 (0 - vr1)) (IntKind.wrap .i64 (q0 + vr1)) t2 (IntKind.wrap .i64 (t3 + 1)) b4 b5))
    else
      Option.bind (Di_checkedHex (Gi_Hex.mk (IntKind.wrap .i64 (b4.Q + q0)) (IntKind.wrap .i64 (b4.R + vr1)))) fun r2 =>
      some (.inr (r2.1, r2.2))
noncomputable def Di_TurnHex (a0 : Gi_Hex) (a1 : Gi_Hex) (a2 : Int) : Option (Gi_Hex × Bool) :=
  Option.bind (Di_IsHex a0) fun r1 =>
  if r1 = true then
    Option.bind (Di_IsHex a1) fun r3 =>
    if r3 = true then
      Option.bind (Di_inRange a2 0 5) fun r5 =>
      if r5 = true then
        loop Bi_TurnHex (.h1 (IntKind.wrap .i64 (a0.Q - a1.Q)) (IntKind.wrap .i64 (a0.R - a1.R)) a2 0 a1 (Gi_Hex.mk 0 0))
      else
        some ((Gi_Hex.mk 0 0), false)
    else
      some ((Gi_Hex.mk 0 0), false)
  else
    some ((Gi_Hex.mk 0 0), false)
/-! loop example/g00886/spec hIf -/
noncomputable def Ds_hIf (a0 : Gi_Hex) : Option (Gi_Hex × Bool) :=
  Option.bind (Ds_hGood a0) fun r1 =>
  if r1 = true then
    some (a0, true)
  else
    some ((Gi_Hex.mk 0 0), false)
/-! loop example/g00886/spec TurnHex -/
inductive Ss_TurnHex where
  | h1 (k0 : Int) (q1 : Int) (vr2 : Int) (b3 : Gi_Hex) (b4 : Gi_Hex)
noncomputable def Bs_TurnHex : Ss_TurnHex → Option (Ss_TurnHex ⊕ (Gi_Hex × Bool))
  | .h1 k0 q1 vr2 b3 b4 =>
    if k0 > 0 then
      some (.inl (.h1 (IntKind.wrap .i64 (k0 - 1)) (IntKind.wrap .i64 (0 - vr2)) (IntKind.wrap .i64 (q1 + vr2)) b3 b4))
    else
      Option.bind (Ds_hIf (Gi_Hex.mk (IntKind.wrap .i64 (b3.Q + q1)) (IntKind.wrap .i64 (b3.R + vr2)))) fun r2 =>
      some (.inr (r2.1, r2.2))
noncomputable def Ds_TurnHex (a0 : Gi_Hex) (a1 : Gi_Hex) (a2 : Int) : Option (Gi_Hex × Bool) :=
  Option.bind (Ds_hGood a0) fun r1 =>
  if r1 = true then
    Option.bind (Ds_hGood a1) fun r3 =>
    if r3 = true then
      Option.bind (Ds_l1In a2 0 5) fun r5 =>
      if r5 = true then
        loop Bs_TurnHex (.h1 a2 (IntKind.wrap .i64 (a0.Q - a1.Q)) (IntKind.wrap .i64 (a0.R - a1.R)) a1 (Gi_Hex.mk 0 0))
      else
        some ((Gi_Hex.mk 0 0), false)
    else
      some ((Gi_Hex.mk 0 0), false)
  else
    some ((Gi_Hex.mk 0 0), false)
/-! loop example/g00886/impl MirrorHex -/
noncomputable def Di_MirrorHex (a0 : Gi_Hex) (a1 : Gi_Hex) : Option (Gi_Hex × Bool) :=
  Option.bind (Di_IsHex a0) fun r1 =>
  if r1 = true then
    Option.bind (Di_IsHex a1) fun r3 =>
    if r3 = true then
      Option.bind (Di_checkedHex (Gi_Hex.mk (IntKind.wrap .i64 ((IntKind.wrap .i64 (a1.Q + a0.R)) - a1.R)) (IntKind.wrap .i64 ((IntKind.wrap .i64 (a1.R + a0.Q)) - a1.Q)))) fun r5 =>
      some (r5.1, r5.2)
    else
      some ((Gi_Hex.mk 0 0), false)
  else
    some ((Gi_Hex.mk 0 0), false)
/-! loop example/g00886/spec MirrorHex -/
noncomputable def Ds_MirrorHex (a0 : Gi_Hex) (a1 : Gi_Hex) : Option (Gi_Hex × Bool) :=
  Option.bind (Ds_hGood a0) fun r1 =>
  if r1 = true then
    Option.bind (Ds_hGood a1) fun r3 =>
    if r3 = true then
      Option.bind (Ds_hIf (Gi_Hex.mk (IntKind.wrap .i64 ((IntKind.wrap .i64 (a1.Q + a0.R)) - a1.R)) (IntKind.wrap .i64 ((IntKind.wrap .i64 (a1.R + a0.Q)) - a1.Q)))) fun r5 =>
      some (r5.1, r5.2)
    else
      some ((Gi_Hex.mk 0 0), false)
  else
    some ((Gi_Hex.mk 0 0), false)
/-! loop example/g00886/impl absOf -/
noncomputable def Di_absOf (a0 : Int) : Option (Int) :=
  if a0 < 0 then
    some (IntKind.wrap .i64 (0 - a0))
  else
    some a0
/-! loop example/g00886/impl distance -/
noncomputable def Di_distance (a0 : Gi_Hex) (a1 : Gi_Hex) : Option (Int) :=
  Option.bind (Di_absOf (IntKind.wrap .i64 (a1.Q - a0.Q))) fun r1 =>
  Option.bind (Di_absOf (IntKind.wrap .i64 (a1.R - a0.R))) fun r2 =>
  Option.bind (Di_absOf (IntKind.wrap .i64 ((IntKind.wrap .i64 (a1.Q - a0.Q)) + (IntKind.wrap .i64 (a1.R - a0.R))))) fun r3 =>
  some (IntKind.wrap .i64 (Int.tdiv (IntKind.wrap .i64 ((IntKind.wrap .i64 (r1 + r2)) + r3)) 2))
/-! loop example/g00886/impl DistanceOf -/
noncomputable def Di_DistanceOf (a0 : Gi_Hex) (a1 : Gi_Hex) : Option (Int × Bool) :=
  Option.bind (Di_IsHex a0) fun r1 =>
  if r1 = true then
    Option.bind (Di_IsHex a1) fun r3 =>
    if r3 = true then
      Option.bind (Di_distance a0 a1) fun r5 =>
      some (r5, true)
    else
      some (0, false)
  else
    some (0, false)
/-! loop example/g00886/spec l1Most -/
noncomputable def Ds_l1Most (a0 : Int) (a1 : Int) : Option (Int) :=
  if a0 > a1 then
    some a0
  else
    some a1
/-! loop example/g00886/spec l1Abs -/
noncomputable def Ds_l1Abs (a0 : Int) : Option (Int) :=
  Option.bind (Ds_l1Most a0 (IntKind.wrap .i64 (0 - a0))) fun r1 =>
  some r1
/-! loop example/g00886/spec hDistance -/
noncomputable def Ds_hDistance (a0 : Gi_Hex) (a1 : Gi_Hex) : Option (Int) :=
  Option.bind (Ds_l1Abs (IntKind.wrap .i64 (a1.Q - a0.Q))) fun r1 =>
  Option.bind (Ds_l1Abs (IntKind.wrap .i64 (a1.R - a0.R))) fun r2 =>
  Option.bind (Ds_l1Abs (IntKind.wrap .i64 ((IntKind.wrap .i64 (a1.Q - a0.Q)) + (IntKind.wrap .i64 (a1.R - a0.R))))) fun r3 =>
  some (IntKind.wrap .i64 (Int.tdiv (IntKind.wrap .i64 ((IntKind.wrap .i64 (r1 + r2)) + r3)) 2))
/-! loop example/g00886/spec DistanceOf -/
noncomputable def Ds_DistanceOf (a0 : Gi_Hex) (a1 : Gi_Hex) : Option (Int × Bool) :=
  Option.bind (Ds_hGood a0) fun r1 =>
  if r1 = true then
    Option.bind (Ds_hGood a1) fun r3 =>
    if r3 = true then
      Option.bind (Ds_hDistance a0 a1) fun r5 =>
      some (r5, true)
    else
      some (0, false)
  else
    some (0, false)
/-! loop example/g00886/laws FnSteps -/
inductive Sw_FnSteps where
  | h1 (t0 : (List Int))
  | h2 (t0 : Bool) (t1 : Int) (b2 : Gi_Hex) (b3 : Gi_Hex)
noncomputable def Bw_FnSteps : Sw_FnSteps → Option (Sw_FnSteps ⊕ (Bool))
  | .h1 t0 =>
    Option.bind (Ds_DrawTurnHex t0) fun r1 =>
    Option.bind (Di_TurnHex r1.1 r1.2.1 r1.2.2) fun r2 =>
    if r2.2 = true then
      Option.bind (Ds_TurnHex r1.1 r1.2.1 r1.2.2) fun r4 =>
      Option.bind (Di_MirrorHex r1.1 r1.2.1) fun r5 =>
      Option.bind (Ds_MirrorHex r1.1 r1.2.1) fun r6 =>
      if (!(true == r4.2)) = true then
        some (.inr false)
      else
        if (!((r2.1.Q == r4.1.Q) && (r2.1.R == r4.1.R))) = true then
          some (.inr false)
        else
          if (!(r5.2 == r6.2)) = true then
            some (.inr false)
          else
            if (!((r5.1.Q == r6.1.Q) && (r5.1.R == r6.1.R))) = true then
              some (.inr false)
            else
              Option.bind (Di_DistanceOf r1.1 r1.2.1) fun r11 =>
              Option.bind (Ds_DistanceOf r1.1 r1.2.1) fun r12 =>
              if (!(r11.2 == r12.2)) = true then
                some (.inr false)
              else
                if (r11.1 : Int) = r12.1 then
                  Option.bind (Di_DistanceOf r2.1 r1.2.1) fun r15 =>
                  if r15.2 = true then
                    if (r15.1 : Int) = r12.1 then
                      some (.inl (.h2 r5.2 r12.1 r1.2.1 r5.1))
                    else
                      some (.inr false)
                  else
                    some (.inr false)
                else
                  some (.inr false)
    else
      Option.bind (Ds_TurnHex r1.1 r1.2.1 r1.2.2) fun r4 =>
      Option.bind (Di_MirrorHex r1.1 r1.2.1) fun r5 =>
      Option.bind (Ds_MirrorHex r1.1 r1.2.1) fun r6 =>
      if (!(false == r4.2)) = true then
        some (.inr false)
      else
        if (!((r2.1.Q == r4.1.Q) && (r2.1.R == r4.1.R))) = true then
          some (.inr false)
        else
          if (!(r5.2 == r6.2)) = true then
            some (.inr false)
          else
            if (!((r5.1.Q == r6.1.Q) && (r5.1.R == r6.1.R))) = true then
              some (.inr false)
            else
              Option.bind (Di_DistanceOf r1.1 r1.2.1) fun r11 =>
              Option.bind (Ds_DistanceOf r1.1 r1.2.1) fun r12 =>
              if (!(r11.2 == r12.2)) = true then
                some (.inr false)
              else
                if (r11.1 : Int) = r12.1 then
                  some (.inl (.h2 r5.2 r12.1 r1.2.1 r5.1))
                else
                  some (.inr false)
  | .h2 true t1 b2 b3 =>
    Option.bind (Di_DistanceOf b3 b2) fun r1 =>
    if r1.2 = true then
      some (.inr ((r1.1 : Int) == t1))
    else
      some (.inr false)
  | .h2 false t1 b2 b3 =>
    some (.inr true)
noncomputable def Dw_FnSteps (a0 : (List Int)) (a1 : (List Int)) : Option (Bool) :=
  Option.bind (Dw_big a0 a1) fun r1 =>
  if r1 = true then
    some true
  else
    Option.bind (Ds_DrawDirectionTo a0) fun r3 =>
    Option.bind (Di_DirectionTo r3.1 r3.2) fun r4 =>
    if r4.2 = true then
      Option.bind (Ds_DirectionTo r3.1 r3.2) fun r6 =>
      if (!(true == r6.2)) = true then
        some false
      else
        if (r4.1 : Int) = r6.1 then
          Option.bind (Di_NeighbourOf r3.1 r4.1) fun r9 =>
          if r9.2 = true then
            Option.bind (Di_DirectionTo r3.2 r3.1) fun r11 =>
            if r11.2 = true then
              if (!((r9.1.Q == r3.2.Q) && (r9.1.R == r3.2.R))) = true then
                some false
              else
                if (r11.1 : Int) = (Int.tmod (IntKind.wrap .i64 (r6.1 + 3)) 6) then
                  loop Bw_FnSteps (.h1 a1)
                else
                  some false
            else
              if (!((r9.1.Q == r3.2.Q) && (r9.1.R == r3.2.R))) = true then
                some false
              else
                some false
          else
            Option.bind (Di_DirectionTo r3.2 r3.1) fun r11 =>
            if r11.2 = true then
              some false
            else
              some false
        else
          some false
    else
      Option.bind (Ds_DirectionTo r3.1 r3.2) fun r6 =>
      if (!(false == r6.2)) = true then
        some false
      else
        if (r4.1 : Int) = r6.1 then
          loop Bw_FnSteps (.h1 a1)
        else
          some false
end Go.Proofs.YtlniejjcejackaaDoor.Ab
