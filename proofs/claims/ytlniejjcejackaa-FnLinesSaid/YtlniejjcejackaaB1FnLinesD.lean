/- Part of the proof of FnLines: no condition of its own. -/
import Derived.Test.YtlniejjcejackaaAb4
set_option linter.unusedVariables false
set_option linter.unusedSimpArgs false
open Go
namespace Go.Proofs.Ytlniejjcejackaa.Ab
structure Gi_Hex where
  mk ::
  Q : Int
  R : Int
def gi_Hex (x : Gi_Hex) : D := .agg [I x.Q, I x.R]
structure Gs_l1Cur where
  mk ::
  code : (List Int)
  at_ : Int
  seed : Int
def gs_l1Cur (x : Gs_l1Cur) : D := .agg [sl 1 (D.int .u8) x.code, I x.at_, .int .u64 x.seed]

/-! loop example/g00886/laws big -/
noncomputable def Dw_big (a0 : (List Int)) (a1 : (List Int)) : Option (Bool) :=
  if ((a0.length : Nat) : Int) > 1048576 then
    some true
  else
    some (decide (((a1.length : Nat) : Int) > (IntKind.wrap .i64 (1048576 - ((a0.length : Nat) : Int)))))
/-!   loop example/g00886/spec l1Cur  next -/
noncomputable def Ds_l1Cur_next (a0 : Gs_l1Cur) : Option (Int × Gs_l1Cur) :=
  if a0.at_ < ((a0.code.length : Nat) : Int) then
    if 0 ≤ a0.at_ then
      Option.bind (a0.code[(Int.toNat a0.at_)]?) fun x3 =>
      if (IntKind.wrap .i64 (a0.at_ + 1)) ≤ ((a0.code.length : Nat) : Int) then
        some ((IntKind.wrap .i64 x3), (Gs_l1Cur.mk a0.code (IntKind.wrap .i64 (a0.at_ + 1)) (IntKind.wrap .u64 ((IntKind.wrap .u64 ((IntKind.wrap .u64 (a0.seed * 6364136223846793005)) + (IntKind.wrap .u64 (IntKind.wrap .i64 x3)))) + 1442695040888963407))))
      else
        some ((IntKind.wrap .i64 (IntKind.wrap .u64 ((BitVec.toNat (BitVec.ofInt (IntKind.bits .u64) (Int.fdiv (IntKind.wrap .u64 ((IntKind.wrap .u64 ((IntKind.wrap .u64 (a0.seed * 6364136223846793005)) + (IntKind.wrap .u64 (IntKind.wrap .i64 x3)))) + 1442695040888963407)) (2 ^ min (Int.toNat 40) (IntKind.bits .u64))) &&& BitVec.ofInt (IntKind.bits .u64) 255) : Nat) : Int))), (Gs_l1Cur.mk a0.code (IntKind.wrap .i64 (a0.at_ + 1)) (IntKind.wrap .u64 ((IntKind.wrap .u64 ((IntKind.wrap .u64 (a0.seed * 6364136223846793005)) + (IntKind.wrap .u64 (IntKind.wrap .i64 x3)))) + 1442695040888963407))))
    else none
  else
    if (IntKind.wrap .i64 (a0.at_ + 1)) ≤ ((a0.code.length : Nat) : Int) then
      some (0, (Gs_l1Cur.mk a0.code (IntKind.wrap .i64 (a0.at_ + 1)) (IntKind.wrap .u64 ((IntKind.wrap .u64 ((IntKind.wrap .u64 (a0.seed * 6364136223846793005)) + (IntKind.wrap .u64 0))) + 1442695040888963407))))
    else
      some ((IntKind.wrap .i64 (IntKind.wrap .u64 ((BitVec.toNat (BitVec.ofInt (IntKind.bits .u64) (Int.fdiv (IntKind.wrap .u64 ((IntKind.wrap .u64 ((IntKind.wrap .u64 (a0.seed * 6364136223846793005)) + (IntKind.wrap .u64 0))) + 1442695040888963407)) (2 ^ min (Int.toNat 40) (IntKind.bits .u64))) &&& BitVec.ofInt (IntKind.bits .u64) 255) : Nat) : Int))), (Gs_l1Cur.mk a0.code (IntKind.wrap .i64 (a0.at_ + 1)) (IntKind.wrap .u64 ((IntKind.wrap .u64 ((IntKind.wrap .u64 (a0.seed * 6364136223846793005)) + (IntKind.wrap .u64 0))) + 1442695040888963407))))
/-!   loop example/g00886/spec l1Cur  pick -/
noncomputable def Ds_l1Cur_pick (a0 : Gs_l1Cur) (a1 : Int) : Option (Int × Gs_l1Cur) :=
  if a1 ≤ 1 then
    some (0, a0)
  else
    Option.bind (Ds_l1Cur_next a0) fun r2 =>
    if a1 > 200 then
      Option.bind (Ds_l1Cur_next r2.2) fun r4 =>
      if ¬ a1 = 0 then
        some ((Int.tmod (IntKind.wrap .i64 ((IntKind.wrap .i64 (r2.1 * 256)) + r4.1)) a1), r4.2)
      else none
    else
      if ¬ a1 = 0 then
        some ((Int.tmod r2.1 a1), r2.2)
      else none
/-!   loop example/g00886/spec l1Cur  among -/
noncomputable def Ds_l1Cur_among (a0 : Gs_l1Cur) (a1 : (List Int)) : Option (Int × Gs_l1Cur) :=
  Option.bind (Ds_l1Cur_pick a0 ((a1.length : Nat) : Int)) fun r1 =>
  if 0 ≤ r1.1 then
    Option.bind (a1[(Int.toNat r1.1)]?) fun x3 =>
    some (x3, r1.2)
  else none
/-!   loop example/g00886/spec l1Cur  hex -/
noncomputable def Ds_l1Cur_hex (a0 : Gs_l1Cur) : Option (Gi_Hex × Gs_l1Cur) :=
  Option.bind (Ds_l1Cur_pick a0 13) fun r1 =>
  Option.bind (Ds_l1Cur_pick r1.2 13) fun r2 =>
  Option.bind (Ds_l1Cur_pick r2.2 16) fun r3 =>
  if (r3.1 : Int) = 0 then
    Option.bind (Ds_l1Cur_among r3.2 [40, (-40), 38]) fun r5 =>
    some ((Gi_Hex.mk r5.1 (IntKind.wrap .i64 (r2.1 - 6))), r5.2)
  else
    if (r3.1 : Int) = 1 then
      Option.bind (Ds_l1Cur_among r3.2 [40, (-40), 39]) fun r6 =>
      some ((Gi_Hex.mk (IntKind.wrap .i64 (r1.1 - 6)) r6.1), r6.2)
    else
      some ((Gi_Hex.mk (IntKind.wrap .i64 (r1.1 - 6)) (IntKind.wrap .i64 (r2.1 - 6))), r3.2)
/-!   loop example/g00886/spec l1Cur  one -/
noncomputable def Ds_l1Cur_one (a0 : Gs_l1Cur) (a1 : Int) : Option (Bool × Gs_l1Cur) :=
  Option.bind (Ds_l1Cur_pick a0 a1) fun r1 =>
  some (((r1.1 : Int) == 0), r1.2)
/-!   loop example/g00886/spec l1Cur  anyHex -/
noncomputable def Ds_l1Cur_anyHex (a0 : Gs_l1Cur) : Option (Gi_Hex × Gs_l1Cur) :=
  Option.bind (Ds_l1Cur_hex a0) fun r1 =>
  Option.bind (Ds_l1Cur_one r1.2 24) fun r2 =>
  if r2.1 = true then
    Option.bind (Ds_l1Cur_among r2.2 [41, (-41)]) fun r4 =>
    some ((Gi_Hex.mk r4.1 r1.1.R), r4.2)
  else
    some (r1.1, r2.2)
/-! loop example/g00886/spec DrawDistanceOf -/
noncomputable def Ds_DrawDistanceOf (a0 : (List Int)) : Option (Gi_Hex × Gi_Hex) :=
  Option.bind (Ds_l1Cur_anyHex (Gs_l1Cur.mk a0 0 0)) fun r1 =>
  Option.bind (Ds_l1Cur_anyHex r1.2) fun r2 =>
  some (r1.1, r2.1)
/-! loop example/g00886/spec DrawLineOf -/
noncomputable def Ds_DrawLineOf (a0 : (List Int)) : Option (Gi_Hex × Gi_Hex) :=
  Option.bind (Ds_DrawDistanceOf a0) fun r1 =>
  some (r1.1, r1.2)
/-! loop example/g00886/impl inRange -/
noncomputable def Di_inRange (a0 : Int) (a1 : Int) (a2 : Int) : Option (Bool) :=
  if a1 ≤ a0 then
    some (decide (a0 ≤ a2))
  else
    some false
/-! loop example/g00886/impl IsHex -/
noncomputable def Di_IsHex (a0 : Gi_Hex) : Option (Bool) :=
  Option.bind (Di_inRange a0.Q (-40) 40) fun r1 =>
  if r1 = true then
    Option.bind (Di_inRange a0.R (-40) 40) fun r3 =>
    some r3
  else
    some false
/-! loop example/g00886/impl absOf -/
noncomputable def Di_absOf (a0 : Int) : Option (Int) :=
  if a0 < 0 then
    some (IntKind.wrap .i64 (0 - a0))
  else
    some a0
/-! loop example/g00886/impl distance -/
noncomputable def Di_distance (a0 : Gi_Hex) (a1 : Gi_Hex) : Option (Int) :=
  Option.bind (Di_absOf (IntKind.wrap .i64 (a1.Q - a0.Q))) fun r1 =>
  Option.bind (Di_absOf (IntKind.wrap .i64 (a1.R - a0.R))) fun r2 =>
  Option.bind (Di_absOf (IntKind.wrap .i64 ((IntKind.wrap .i64 (a1.Q - a0.Q)) + (IntKind.wrap .i64 (a1.R - a0.R))))) fun r3 =>
  some (IntKind.wrap .i64 (Int.tdiv (IntKind.wrap .i64 ((IntKind.wrap .i64 (r1 + r2)) + r3)) 2))
/-! loop example/g00886/impl floorDiv -/
noncomputable def Di_floorDiv (a0 : Int) (a1 : Int) : Option (Int) :=
  if ¬ a1 = 0 then
    if ¬ a1 = 0 then
      if (Int.tmod a0 a1) < 0 then
        some (IntKind.wrap .i64 ((IntKind.wrap .i64 (Int.tdiv a0 a1)) - 1))
      else
        some (IntKind.wrap .i64 (Int.tdiv a0 a1))
    else none
  else none
/-! loop example/g00886/impl nearestTo -/
inductive Si_nearestTo where
  | h1 (t0 : Int) (t1 : Int) (t2 : Int) (t3 : Int) (t4 : Int) (l5 : (List Gi_Hex))
  | h2 (t0 : Int) (t1 : Int) (t2 : Int) (t3 : Int) (t4 : Int) (t5 : Int) (l6 : (List Gi_Hex))
noncomputable def Bi_nearestTo : Si_nearestTo → Option (Si_nearestTo ⊕ ((List Gi_Hex)))
  | .h1 t0 t1 t2 t3 t4 l5 =>
    Option.bind (Di_floorDiv t0 t2) fun r1 =>
    if t4 ≤ (IntKind.wrap .i64 (r1 + 2)) then
      Option.bind (Di_floorDiv t1 t2) fun r3 =>
      some (.inl (.h2 t0 t1 t2 t3 t4 (IntKind.wrap .i64 (r3 - 1)) l5))
    else
      some (.inr l5)
  | .h2 t0 t1 t2 t3 t4 t5 l6 =>
    Option.bind (Di_floorDiv t1 t2) fun r1 =>
    if t5 ≤ (IntKind.wrap .i64 (r1 + 2)) then
      if t3 < 0 then
        if (0 : Int) ≤ ((l6.length : Nat) : Int) then
          if ((IntKind.wrap .i64 ((IntKind.wrap .i64 ((IntKind.wrap .i64 ((IntKind.wrap .i64 ((IntKind.wrap .i64 (t2 * t4)) - t0)) * (IntKind.wrap .i64 ((IntKind.wrap .i64 (t2 * t4)) - t0)))) + (IntKind.wrap .i64 ((IntKind.wrap .i64 ((IntKind.wrap .i64 (t2 * t4)) - t0)) * (IntKind.wrap .i64 ((IntKind.wrap .i64 (t2 * t5)) - t1)))))) + (IntKind.wrap .i64 ((IntKind.wrap .i64 ((IntKind.wrap .i64 (t2 * t5)) - t1)) * (IntKind.wrap .i64 ((IntKind.wrap .i64 (t2 * t5)) - t1)))))) : Int) = (IntKind.wrap .i64 ((IntKind.wrap .i64 ((IntKind.wrap .i64 ((IntKind.wrap .i64 ((IntKind.wrap .i64 (t2 * t4)) - t0)) * (IntKind.wrap .i64 ((IntKind.wrap .i64 (t2 * t4)) - t0)))) + (IntKind.wrap .i64 ((IntKind.wrap .i64 ((IntKind.wrap .i64 (t2 * t4)) - t0)) * (IntKind.wrap .i64 ((IntKind.wrap .i64 (t2 * t5)) - t1)))))) + (IntKind.wrap .i64 ((IntKind.wrap .i64 ((IntKind.wrap .i64 (t2 * t5)) - t1)) * (IntKind.wrap .i64 ((IntKind.wrap .i64 (t2 * t5)) - t1)))))) then
            if ((List.take ((Int.toNat 0) - 0) (List.drop 0 l6)) ++ [(Gi_Hex.mk t4 t5)]).length * 16 ≤ 70368744177664 then
              some (.inl (.h2 t0 t1 t2 (IntKind.wrap .i64 ((IntKind.wrap .i64 ((IntKind.wrap .i64 ((IntKind.wrap .i64 ((IntKind.wrap .i64 (t2 * t4)) - t0)) * (IntKind.wrap .i64 ((IntKind.wrap .i64 (t2 * t4)) - t0)))) + (IntKind.wrap .i64 ((IntKind.wrap .i64 ((IntKind.wrap .i64 (t2 * t4)) - t0)) * (IntKind.wrap .i64 ((IntKind.wrap .i64 (t2 * t5)) - t1)))))) + (IntKind.wrap .i64 ((IntKind.wrap .i64 ((IntKind.wrap .i64 (t2 * t5)) - t1)) * (IntKind.wrap .i64 ((IntKind.wrap .i64 (t2 * t5)) - t1)))))) t4 (IntKind.wrap .i64 (t5 + 1)) ((List.take ((Int.toNat 0) - 0) (List.drop 0 l6)) ++ [(Gi_Hex.mk t4 t5)])))
            else none
          else
            some (.inl (.h2 t0 t1 t2 (IntKind.wrap .i64 ((IntKind.wrap .i64 ((IntKind.wrap .i64 ((IntKind.wrap .i64 ((IntKind.wrap .i64 (t2 * t4)) - t0)) * (IntKind.wrap .i64 ((IntKind.wrap .i64 (t2 * t4)) - t0)))) + (IntKind.wrap .i64 ((IntKind.wrap .i64 ((IntKind.wrap .i64 (t2 * t4)) - t0)) * (IntKind.wrap .i64 ((IntKind.wrap .i64 (t2 * t5)) - t1)))))) + (IntKind.wrap .i64 ((IntKind.wrap .i64 ((IntKind.wrap .i64 (t2 * t5)) - t1)) * (IntKind.wrap .i64 ((IntKind.wrap .i64 (t2 * t5)) - t1)))))) t4 (IntKind.wrap .i64 (t5 + 1)) (List.take ((Int.toNat 0) - 0) (List.drop 0 l6))))
        else none
      else
        if (IntKind.wrap .i64 ((IntKind.wrap .i64 ((IntKind.wrap .i64 ((IntKind.wrap .i64 ((IntKind.wrap .i64 (t2 * t4)) - t0)) * (IntKind.wrap .i64 ((IntKind.wrap .i64 (t2 * t4)) - t0)))) + (IntKind.wrap .i64 ((IntKind.wrap .i64 ((IntKind.wrap .i64 (t2 * t4)) - t0)) * (IntKind.wrap .i64 ((IntKind.wrap .i64 (t2 * t5)) - t1)))))) + (IntKind.wrap .i64 ((IntKind.wrap .i64 ((IntKind.wrap .i64 (t2 * t5)) - t1)) * (IntKind.wrap .i64 ((IntKind.wrap .i64 (t2 * t5)) - t1)))))) < t3 then
          if (0 : Int) ≤ ((l6.length : Nat) : Int) then
            if ((IntKind.wrap .i64 ((IntKind.wrap .i64 ((IntKind.wrap .i64 ((IntKind.wrap .i64 ((IntKind.wrap .i64 (t2 * t4)) - t0)) * (IntKind.wrap .i64 ((IntKind.wrap .i64 (t2 * t4)) - t0)))) + (IntKind.wrap .i64 ((IntKind.wrap .i64 ((IntKind.wrap .i64 (t2 * t4)) - t0)) * (IntKind.wrap .i64 ((IntKind.wrap .i64 (t2 * t5)) - t1)))))) + (IntKind.wrap .i64 ((IntKind.wrap .i64 ((IntKind.wrap .i64 (t2 * t5)) - t1)) * (IntKind.wrap .i64 ((IntKind.wrap .i64 (t2 * t5)) - t1)))))) : Int) = (IntKind.wrap .i64 ((IntKind.wrap .i64 ((IntKind.wrap .i64 ((IntKind.wrap .i64 ((IntKind.wrap .i64 (t2 * t4)) - t0)) * (IntKind.wrap .i64 ((IntKind.wrap .i64 (t2 * t4)) - t0)))) + (IntKind.wrap .i64 ((IntKind.wrap .i64 ((IntKind.wrap .i64 (t2 * t4)) - t0)) * (IntKind.wrap .i64 ((IntKind.wrap .i64 (t2 * t5)) - t1)))))) + (IntKind.wrap .i64 ((IntKind.wrap .i64 ((IntKind.wrap .i64 (t2 * t5)) - t1)) * (IntKind.wrap .i64 ((IntKind.wrap .i64 (t2 * t5)) - t1)))))) then
              if ((List.take ((Int.toNat 0) - 0) (List.drop 0 l6)) ++ [(Gi_Hex.mk t4 t5)]).length * 16 ≤ 70368744177664 then
                some (.inl (.h2 t0 t1 t2 (IntKind.wrap .i64 ((IntKind.wrap .i64 ((IntKind.wrap .i64 ((IntKind.wrap .i64 ((IntKind.wrap .i64 (t2 * t4)) - t0)) * (IntKind.wrap .i64 ((IntKind.wrap .i64 (t2 * t4)) - t0)))) + (IntKind.wrap .i64 ((IntKind.wrap .i64 ((IntKind.wrap .i64 (t2 * t4)) - t0)) * (IntKind.wrap .i64 ((IntKind.wrap .i64 (t2 * t5)) - t1)))))) + (IntKind.wrap .i64 ((IntKind.wrap .i64 ((IntKind.wrap .i64 (t2 * t5)) - t1)) * (IntKind.wrap .i64 ((IntKind.wrap .i64 (t2 * t5)) - t1)))))) t4 (IntKind.wrap .i64 (t5 + 1)) ((List.take ((Int.toNat 0) - 0) (List.drop 0 l6)) ++ [(Gi_Hex.mk t4 t5)])))
              else none
            else
              some (.inl (.h2 t0 t1 t2 (IntKind.wrap .i64 ((IntKind.wrap .i64 ((IntKind.wrap .i64 ((IntKind.wrap .i64 ((IntKind.wrap .i64 (t2 * t4)) - t0)) * (IntKind.wrap .i64 ((IntKind.wrap .i64 (t2 * t4)) - t0)))) + (IntKind.wrap .i64 ((IntKind.wrap .i64 ((IntKind.wrap .i64 (t2 * t4)) - t0)) * (IntKind.wrap .i64 ((IntKind.wrap .i64 (t2 * t5)) - t1)))))) + (IntKind.wrap .i64 ((IntKind.wrap .i64 ((IntKind.wrap .i64 (t2 * t5)) - t1)) * (IntKind.wrap .i64 ((IntKind.wrap .i64 (t2 * t5)) - t1)))))) t4 (IntKind.wrap .i64 (t5 + 1)) (List.take ((Int.toNat 0) - 0) (List.drop 0 l6))))
          else none
        else
          if ((IntKind.wrap .i64 ((IntKind.wrap .i64 ((IntKind.wrap .i64 ((IntKind.wrap .i64 ((IntKind.wrap .i64 (t2 * t4)) - t0)) * (IntKind.wrap .i64 ((IntKind.wrap .i64 (t2 * t4)) - t0)))) + (IntKind.wrap .i64 ((IntKind.wrap .i64 ((IntKind.wrap .i64 (t2 * t4)) - t0)) * (IntKind.wrap .i64 ((IntKind.wrap .i64 (t2 * t5)) - t1)))))) + (IntKind.wrap .i64 ((IntKind.wrap .i64 ((IntKind.wrap .i64 (t2 * t5)) - t1)) * (IntKind.wrap .i64 ((IntKind.wrap .i64 (t2 * t5)) - t1)))))) : Int) = t3 then
            if (l6 ++ [(Gi_Hex.mk t4 t5)]).length * 16 ≤ 70368744177664 then
              some (.inl (.h2 t0 t1 t2 t3 t4 (IntKind.wrap .i64 (t5 + 1)) (l6 ++ [(Gi_Hex.mk t4 t5)])))
            else none
          else
            some (.inl (.h2 t0 t1 t2 t3 t4 (IntKind.wrap .i64 (t5 + 1)) l6))
    else
      some (.inl (.h1 t0 t1 t2 t3 (IntKind.wrap .i64 (t4 + 1)) l6))
noncomputable def Di_nearestTo (a0 : Int) (a1 : Int) (a2 : Int) : Option ((List Gi_Hex)) :=
  Option.bind (Di_floorDiv a0 a2) fun r1 =>
  loop Bi_nearestTo (.h1 a0 a1 a2 (-1) (IntKind.wrap .i64 (r1 - 1)) ([] : List Gi_Hex))
/-! loop example/g00886/impl lineOf -/
inductive Si_lineOf where
  | h1 (n0 : Int) (i1 : Int) (b2 : Gi_Hex) (b3 : Gi_Hex) (l4 : (List (List Gi_Hex)))
noncomputable def Bi_lineOf : Si_lineOf → Option (Si_lineOf ⊕ ((List (List Gi_Hex))))
  | .h1 n0 i1 b2 b3 l4 =>
    if i1 ≤ n0 then
      Option.bind (Di_nearestTo (IntKind.wrap .i64 ((IntKind.wrap .i64 (b2.Q * n0)) + (IntKind.wrap .i64 (i1 * (IntKind.wrap .i64 (b3.Q - b2.Q)))))) (IntKind.wrap .i64 ((IntKind.wrap .i64 (b2.R * n0)) + (IntKind.wrap .i64 (i1 * (IntKind.wrap .i64 (b3.R - b2.R)))))) n0) fun r2 =>
      if (l4 ++ [r2]).length * 24 ≤ 70368744177664 then
        some (.inl (.h1 n0 (IntKind.wrap .i64 (i1 + 1)) b2 b3 (l4 ++ [r2])))
      else none
    else
      some (.inr l4)
noncomputable def Di_lineOf (a0 : Gi_Hex) (a1 : Gi_Hex) : Option ((List (List Gi_Hex))) :=
  Option.bind (Di_distance a0 a1) fun r1 =>
  if (r1 : Int) = 0 then
    some [[a0]]
  else
    loop Bi_lineOf (.h1 r1 0 a0 a1 ([] : List (List Gi_Hex)))
/-! loop example/g00886/impl allHexes -/
inductive Si_allHexes where
  | h1 (t0 : (List Gi_Hex)) (t1 : Int) (t2 : Int)
noncomputable def Bi_allHexes : Si_allHexes → Option (Si_allHexes ⊕ (Bool))
  | .h1 t0 t1 t2 =>
    if t2 < t1 then
      if 0 ≤ t2 then
        Option.bind (t0[(Int.toNat t2)]?) fun x3 =>
        Option.bind (Di_IsHex x3) fun r4 =>
        if r4 = true then
          some (.inl (.h1 t0 t1 (IntKind.wrap .i64 (t2 + 1))))
        else
          some (.inr false)
      else none
    else
      some (.inr true)
noncomputable def Di_allHexes (a0 : (List Gi_Hex)) : Option (Bool) :=
  loop Bi_allHexes (.h1 a0 ((a0.length : Nat) : Int) 0)
/-! loop example/g00886/impl LineOf -/
inductive Si_LineOf where
  | h1 (t0 : Int) (t1 : Int) (l2 : (List (List Gi_Hex)))
noncomputable def Bi_LineOf : Si_LineOf → Option (Si_LineOf ⊕ ((List (List Gi_Hex)) × Bool))
  | .h1 t0 t1 l2 =>
    if t1 < t0 then
      if 0 ≤ t1 then
        Option.bind (l2[(Int.toNat t1)]?) fun x3 =>
        Option.bind (Di_allHexes x3) fun r4 =>
        if r4 = true then
          some (.inl (.h1 t0 (IntKind.wrap .i64 (t1 + 1)) l2))
        else
          some (.inr ([], false))
      else none
    else
      some (.inr (l2, true))
noncomputable def Di_LineOf (a0 : Gi_Hex) (a1 : Gi_Hex) : Option ((List (List Gi_Hex)) × Bool) :=
  Option.bind (Di_IsHex a0) fun r1 =>
  if r1 = true then
    Option.bind (Di_IsHex a1) fun r3 =>
    if r3 = true then
      Option.bind (Di_lineOf a0 a1) fun r5 =>
      loop Bi_LineOf (.h1 ((r5.length : Nat) : Int) 0 r5)
    else
      some ([], false)
  else
    some ([], false)
/-! loop example/g00886/spec l1In -/
noncomputable def Ds_l1In (a0 : Int) (a1 : Int) (a2 : Int) : Option (Bool) :=
  if a0 ≥ a1 then
    some (decide (a0 ≤ a2))
  else
    some false
/-! loop example/g00886/spec hGood -/
noncomputable def Ds_hGood (a0 : Gi_Hex) : Option (Bool) :=
  Option.bind (Ds_l1In a0.Q (-40) 40) fun r1 =>
  if r1 = true then
    Option.bind (Ds_l1In a0.R (-40) 40) fun r3 =>
    some r3
  else
    some false
/-! loop example/g00886/spec l1Most -/
noncomputable def Ds_l1Most (a0 : Int) (a1 : Int) : Option (Int) :=
  if a0 > a1 then
    some a0
  else
    some a1
/-! loop example/g00886/spec l1Abs -/
noncomputable def Ds_l1Abs (a0 : Int) : Option (Int) :=
  Option.bind (Ds_l1Most a0 (IntKind.wrap .i64 (0 - a0))) fun r1 =>
  some r1
/-! loop example/g00886/spec hDistance -/
noncomputable def Ds_hDistance (a0 : Gi_Hex) (a1 : Gi_Hex) : Option (Int) :=
  Option.bind (Ds_l1Abs (IntKind.wrap .i64 (a1.Q - a0.Q))) fun r1 =>
  Option.bind (Ds_l1Abs (IntKind.wrap .i64 (a1.R - a0.R))) fun r2 =>
  Option.bind (Ds_l1Abs (IntKind.wrap .i64 ((IntKind.wrap .i64 (a1.Q - a0.Q)) + (IntKind.wrap .i64 (a1.R - a0.R))))) fun r3 =>
  some (IntKind.wrap .i64 (Int.tdiv (IntKind.wrap .i64 ((IntKind.wrap .i64 (r1 + r2)) + r3)) 2))
/-! loop example/g00886/spec hNear -/
noncomputable def Ds_hNear (a0 : Int) (a1 : Int) : Option ((List Int)) :=
  if ¬ a1 = 0 then
    if ¬ a1 = 0 then
      if (Int.tmod a0 a1) < 0 then
        if (IntKind.wrap .i64 (2 * (IntKind.wrap .i64 (a0 - (IntKind.wrap .i64 ((IntKind.wrap .i64 ((IntKind.wrap .i64 (Int.tdiv a0 a1)) - 1)) * a1)))))) < a1 then
          some [(IntKind.wrap .i64 ((IntKind.wrap .i64 (Int.tdiv a0 a1)) - 1))]
        else
          if (IntKind.wrap .i64 (2 * (IntKind.wrap .i64 (a0 - (IntKind.wrap .i64 ((IntKind.wrap .i64 ((IntKind.wrap .i64 (Int.tdiv a0 a1)) - 1)) * a1)))))) > a1 then
            some [(IntKind.wrap .i64 ((IntKind.wrap .i64 ((IntKind.wrap .i64 (Int.tdiv a0 a1)) - 1)) + 1))]
          else
            some [(IntKind.wrap .i64 ((IntKind.wrap .i64 (Int.tdiv a0 a1)) - 1)), (IntKind.wrap .i64 ((IntKind.wrap .i64 ((IntKind.wrap .i64 (Int.tdiv a0 a1)) - 1)) + 1))]
      else
        if (IntKind.wrap .i64 (2 * (IntKind.wrap .i64 (a0 - (IntKind.wrap .i64 ((IntKind.wrap .i64 (Int.tdiv a0 a1)) * a1)))))) < a1 then
          some [(IntKind.wrap .i64 (Int.tdiv a0 a1))]
        else
          if (IntKind.wrap .i64 (2 * (IntKind.wrap .i64 (a0 - (IntKind.wrap .i64 ((IntKind.wrap .i64 (Int.tdiv a0 a1)) * a1)))))) > a1 then
            some [(IntKind.wrap .i64 ((IntKind.wrap .i64 (Int.tdiv a0 a1)) + 1))]
          else
            some [(IntKind.wrap .i64 (Int.tdiv a0 a1)), (IntKind.wrap .i64 ((IntKind.wrap .i64 (Int.tdiv a0 a1)) + 1))]
    else none
  else none
/-! loop example/g00886/spec hCells -/
inductive Ss_hCells where
  | h1 (t0 : Int) (t1 : Int) (t2 : Int) (t3 : Int) (l4 : (List Gi_Hex)) (l5 : (List Int))
  | h2 (t0 : Int) (t1 : Int) (t2 : Int) (t3 : Int) (t4 : Int) (l5 : (List Gi_Hex)) (l6 : (List Int))
noncomputable def Bs_hCells : Ss_hCells → Option (Ss_hCells ⊕ ((List Gi_Hex)))
  | .h1 t0 t1 t2 t3 l4 l5 =>
    if t3 < t2 then
      if 0 ≤ t3 then
        Option.bind (l5[(Int.toNat t3)]?) fun x3 =>
        if ¬ t0 = 0 then
          if (l4 ++ [(Gi_Hex.mk (IntKind.wrap .i64 (Int.tdiv t1 t0)) x3)]).length * 16 ≤ 70368744177664 then
            some (.inl (.h1 t0 t1 t2 (IntKind.wrap .i64 (t3 + 1)) (l4 ++ [(Gi_Hex.mk (IntKind.wrap .i64 (Int.tdiv t1 t0)) x3)]) l5))
          else none
        else none
      else none
    else
      some (.inr l4)
  | .h2 t0 t1 t2 t3 t4 l5 l6 =>
    if t4 < t3 then
      if 0 ≤ t4 then
        Option.bind (l6[(Int.toNat t4)]?) fun x3 =>
        if ¬ t0 = 0 then
          if ((Int.tmod t2 t0) : Int) = 0 then
            if ¬ t0 = 0 then
              if (l5 ++ [(Gi_Hex.mk x3 (IntKind.wrap .i64 (Int.tdiv t2 t0)))]).length * 16 ≤ 70368744177664 then
                some (.inl (.h2 t0 t1 t2 t3 (IntKind.wrap .i64 (t4 + 1)) (l5 ++ [(Gi_Hex.mk x3 (IntKind.wrap .i64 (Int.tdiv t2 t0)))]) l6))
              else none
            else none
          else
            if ¬ t0 = 0 then
              if (l5 ++ [(Gi_Hex.mk x3 (IntKind.wrap .i64 ((IntKind.wrap .i64 (Int.tdiv (IntKind.wrap .i64 (t1 + t2)) t0)) - x3)))]).length * 16 ≤ 70368744177664 then
                some (.inl (.h2 t0 t1 t2 t3 (IntKind.wrap .i64 (t4 + 1)) (l5 ++ [(Gi_Hex.mk x3 (IntKind.wrap .i64 ((IntKind.wrap .i64 (Int.tdiv (IntKind.wrap .i64 (t1 + t2)) t0)) - x3)))]) l6))
              else none
            else none
        else none
      else none
    else
      some (.inr l5)
noncomputable def Ds_hCells (a0 : Gi_Hex) (a1 : Gi_Hex) (a2 : Int) (a3 : Int) : Option ((List Gi_Hex)) :=
  if ¬ a3 = 0 then
    if ((Int.tmod (IntKind.wrap .i64 ((IntKind.wrap .i64 (a0.Q * a3)) + (IntKind.wrap .i64 ((IntKind.wrap .i64 (a1.Q - a0.Q)) * a2)))) a3) : Int) = 0 then
      Option.bind (Ds_hNear (IntKind.wrap .i64 ((IntKind.wrap .i64 (a0.R * a3)) + (IntKind.wrap .i64 ((IntKind.wrap .i64 (a1.R - a0.R)) * a2)))) a3) fun r3 =>
      loop Bs_hCells (.h1 a3 (IntKind.wrap .i64 ((IntKind.wrap .i64 (a0.Q * a3)) + (IntKind.wrap .i64 ((IntKind.wrap .i64 (a1.Q - a0.Q)) * a2)))) ((r3.length : Nat) : Int) 0 ([] : List Gi_Hex) r3)
    else
      Option.bind (Ds_hNear (IntKind.wrap .i64 ((IntKind.wrap .i64 (a0.Q * a3)) + (IntKind.wrap .i64 ((IntKind.wrap .i64 (a1.Q - a0.Q)) * a2)))) a3) fun r3 =>
      loop Bs_hCells (.h2 a3 (IntKind.wrap .i64 ((IntKind.wrap .i64 (a0.Q * a3)) + (IntKind.wrap .i64 ((IntKind.wrap .i64 (a1.Q - a0.Q)) * a2)))) (IntKind.wrap .i64 ((IntKind.wrap .i64 (a0.R * a3)) + (IntKind.wrap .i64 ((IntKind.wrap .i64 (a1.R - a0.R)) * a2)))) ((r3.length : Nat) : Int) 0 ([] : List Gi_Hex) r3)
  else none
/-! loop example/g00886/spec hLine -/
inductive Ss_hLine where
  | h1 (n0 : Int) (i1 : Int) (b2 : Gi_Hex) (b3 : Gi_Hex) (l4 : (List (List Gi_Hex)))
noncomputable def Bs_hLine : Ss_hLine → Option (Ss_hLine ⊕ ((List (List Gi_Hex))))
  | .h1 n0 i1 b2 b3 l4 =>
    if i1 ≤ n0 then
      Option.bind (Ds_hCells b2 b3 i1 n0) fun r2 =>
      if (l4 ++ [r2]).length * 24 ≤ 70368744177664 then
        some (.inl (.h1 n0 (IntKind.wrap .i64 (i1 + 1)) b2 b3 (l4 ++ [r2])))
      else none
    else
      some (.inr l4)
noncomputable def Ds_hLine (a0 : Gi_Hex) (a1 : Gi_Hex) : Option ((List (List Gi_Hex))) :=
  Option.bind (Ds_hDistance a0 a1) fun r1 =>
  if (r1 : Int) = 0 then
    some [[a0]]
  else
    loop Bs_hLine (.h1 r1 0 a0 a1 ([] : List (List Gi_Hex)))
/-! loop example/g00886/spec LineOf -/
noncomputable def Ds_LineOf (a0 : Gi_Hex) (a1 : Gi_Hex) : Option ((List (List Gi_Hex)) × Bool) :=
  Option.bind (Ds_hGood a0) fun r1 =>
  if r1 = true then
    Option.bind (Ds_hGood a1) fun r3 =>
    if r3 = true then
      Option.bind (Ds_hLine a0 a1) fun r5 =>
      some (r5, true)
    else
      some ([], false)
  else
    some ([], false)
/-! loop example/g00886/laws pSameHexes -/
inductive Sw_pSameHexes where
  | h1 (va0 : (List Gi_Hex)) (b1 : (List Gi_Hex)) (t2 : Int) (t3 : Int)
noncomputable def Bw_pSameHexes : Sw_pSameHexes → Option (Sw_pSameHexes ⊕ (Bool))
  | .h1 va0 b1 t2 t3 =>
    if t3 < t2 then
      if 0 ≤ t3 then
        Option.bind (va0[(Int.toNat t3)]?) fun x3 =>
        if 0 ≤ t3 then
          Option.bind (b1[(Int.toNat t3)]?) fun x5 =>
          if (!((x3.Q == x5.Q) && (x3.R == x5.R))) = true then
            some (.inr false)
          else
            some (.inl (.h1 va0 b1 t2 (IntKind.wrap .i64 (t3 + 1))))
        else none
      else none
    else
      some (.inr true)
noncomputable def Dw_pSameHexes (a0 : (List Gi_Hex)) (a1 : (List Gi_Hex)) : Option (Bool) :=
  if (((a0.length : Nat) : Int) : Int) = ((a1.length : Nat) : Int) then
    loop Bw_pSameHexes (.h1 a0 a1 ((a0.length : Nat) : Int) 0)
  else
    some false
/-! loop example/g00886/laws pSameLines -/
inductive Sw_pSameLines where
  | h1 (va0 : (List (List Gi_Hex))) (b1 : (List (List Gi_Hex))) (t2 : Int) (t3 : Int)
noncomputable def Bw_pSameLines : Sw_pSameLines → Option (Sw_pSameLines ⊕ (Bool))
  | .h1 va0 b1 t2 t3 =>
    if t3 < t2 then
      if 0 ≤ t3 then
        Option.bind (va0[(Int.toNat t3)]?) fun x3 =>
        if 0 ≤ t3 then
          Option.bind (b1[(Int.toNat t3)]?) fun x5 =>
          Option.bind (Dw_pSameHexes x3 x5) fun r6 =>
          if r6 = true then
            some (.inl (.h1 va0 b1 t2 (IntKind.wrap .i64 (t3 + 1))))
          else
            some (.inr false)
        else none
      else none
    else
      some (.inr true)
noncomputable def Dw_pSameLines (a0 : (List (List Gi_Hex))) (a1 : (List (List Gi_Hex))) : Option (Bool) :=
  if (((a0.length : Nat) : Int) : Int) = ((a1.length : Nat) : Int) then
    loop Bw_pSameLines (.h1 a0 a1 ((a0.length : Nat) : Int) 0)
  else
    some false
/-! loop example/g00886/impl DistanceOf -/
noncomputable def Di_DistanceOf (a0 : Gi_Hex) (a1 : Gi_Hex) : Option (Int × Bool) :=
  Option.bind (Di_IsHex a0) fun r1 =>
  if r1 = true then
    Option.bind (Di_IsHex a1) fun r3 =>
    if r3 = true then
      Option.bind (Di_distance a0 a1) fun r5 =>
      some (r5, true)
    else
      some (0, false)
  else
    some (0, false)
/-! loop example/g00886/laws FnLines -/
inductive Sw_FnLines where
  | h1 (t0 : Int) (t1 : Int) (b2 : Gi_Hex) (b3 : Gi_Hex) (l4 : (List (List Gi_Hex))) (l5 : (List (List Gi_Hex)))
  | h2 (t0 : Int) (t1 : Int) (t2 : Int) (t3 : (List Gi_Hex)) (t4 : Int) (t5 : Int) (b6 : Gi_Hex) (b7 : Gi_Hex) (l8 : (List (List Gi_Hex))) (l9 : (List (List Gi_Hex)))
noncomputable def Bw_FnLines : Sw_FnLines → Option (Sw_FnLines ⊕ (Bool))
  | .h1 t0 t1 b2 b3 l4 l5 =>
    if t1 < t0 then
      if 0 ≤ t1 then
        Option.bind (l4[(Int.toNat t1)]?) fun x3 =>
        if 0 ≤ (IntKind.wrap .i64 ((IntKind.wrap .i64 (((l4.length : Nat) : Int) - 1)) - t1)) then
          Option.bind (l5[(Int.toNat (IntKind.wrap .i64 ((IntKind.wrap .i64 (((l4.length : Nat) : Int) - 1)) - t1)))]?) fun x5 =>
          Option.bind (Dw_pSameHexes x5 x3) fun r6 =>
          if r6 = true then
            some (.inl (.h2 t1 t0 t1 x3 ((x3.length : Nat) : Int) 0 b2 b3 l4 l5))
          else
            some (.inr false)
        else none
      else none
    else
      some (.inr true)
  | .h2 t0 t1 t2 t3 t4 t5 b6 b7 l8 l9 =>
    if t5 < t4 then
      if 0 ≤ t5 then
        Option.bind (t3[(Int.toNat t5)]?) fun x3 =>
        Option.bind (Di_DistanceOf b6 x3) fun r4 =>
        if r4.2 = true then
          Option.bind (Di_DistanceOf x3 b7) fun r6 =>
          if r6.2 = true then
            if ((IntKind.wrap .i64 (r4.1 + r6.1)) : Int) = (IntKind.wrap .i64 (((l8.length : Nat) : Int) - 1)) then
              if (r4.1 : Int) = t0 then
                some (.inl (.h2 t0 t1 t2 t3 t4 (IntKind.wrap .i64 (t5 + 1)) b6 b7 l8 l9))
              else
                some (.inr false)
            else
              some (.inr false)
          else
            some (.inr false)
        else
          Option.bind (Di_DistanceOf x3 b7) fun r6 =>
          some (.inr false)
      else none
    else
      some (.inl (.h1 t1 (IntKind.wrap .i64 (t2 + 1)) b6 b7 l8 l9))
noncomputable def Dw_FnLines (a0 : (List Int)) (a1 : (List Int)) : Option (Bool) :=
  Option.bind (Dw_big a0 a1) fun r1 =>
  if r1 = true then
    some true
  else
    Option.bind (Ds_DrawLineOf a0) fun r3 =>
    Option.bind (Di_LineOf r3.1 r3.2) fun r4 =>
    if r4.2 = true then
      Option.bind (Ds_LineOf r3.1 r3.2) fun r6 =>
      if (!(true == r6.2)) = true then
        some false
      else
        Option.bind (Dw_pSameLines r4.1 r6.1) fun r8 =>
        if r8 = true then
          Option.bind (Di_LineOf r3.2 r3.1) fun r10 =>
          if r10.2 = true then
            if (((r10.1.length : Nat) : Int) : Int) = ((r6.1.length : Nat) : Int) then
              loop Bw_FnLines (.h1 ((r6.1.length : Nat) : Int) 0 r3.1 r3.2 r6.1 r10.1)
            else
              some false
          else
            some false
        else
          some false
    else
      Option.bind (Ds_LineOf r3.1 r3.2) fun r6 =>
      if (!(false == r6.2)) = true then
        some false
      else
        Option.bind (Dw_pSameLines r4.1 r6.1) fun r8 =>
        if r8 = true then
          some true
        else
          some false
end Go.Proofs.Ytlniejjcejackaa.Ab
