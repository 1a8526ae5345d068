/- Part of the proof of FnDice: no condition of its own. -/
import Derived.Test.YtlniejjcejackaaAb4
set_option linter.unusedVariables false
set_option linter.unusedSimpArgs false
open Go
namespace Go.Proofs.Ytlniejjcejackaa.Ab
structure Gs_l1Cur where
  mk ::
  code : (List Int)
  at_ : Int
  seed : Int
def gs_l1Cur (x : Gs_l1Cur) : D := .agg [sl 1 (D.int .u8) x.code, I x.at_, .int .u64 x.seed]
/-! loop example/g00886/laws big -/
noncomputable def Dw_big (a0 : (List Int)) (a1 : (List Int)) : Option (Bool) :=
  if ((a0.length : Nat) : Int) > 1048576 then
    some true
  else
    some (decide (((a1.length : Nat) : Int) > (IntKind.wrap .i64 (1048576 - ((a0.length : Nat) : Int)))))
/-!   loop example/g00886/spec l1Cur  next -/
noncomputable def Ds_l1Cur_next (a0 : Gs_l1Cur) : Option (Int × Gs_l1Cur) :=
  if a0.at_ < ((a0.code.length : Nat) : Int) then
    if 0 ≤ a0.at_ then
      Option.bind (a0.code[(Int.toNat a0.at_)]?) fun x3 =>
      if (IntKind.wrap .i64 (a0.at_ + 1)) ≤ ((a0.code.length : Nat) : Int) then
        some ((IntKind.wrap .i64 x3), (Gs_l1Cur.mk a0.code (IntKind.wrap .i64 (a0.at_ + 1)) (IntKind.wrap .u64 ((IntKind.wrap .u64 ((IntKind.wrap .u64 (a0.seed * 6364136223846793005)) + (IntKind.wrap .u64 (IntKind.wrap .i64 x3)))) + 1442695040888963407))))
      else
        some ((IntKind.wrap .i64 (IntKind.wrap .u64 ((BitVec.toNat (BitVec.ofInt (IntKind.bits .u64) (Int.fdiv (IntKind.wrap .u64 ((IntKind.wrap .u64 ((IntKind.wrap .u64 (a0.seed * 6364136223846793005)) + (IntKind.wrap .u64 (IntKind.wrap .i64 x3)))) + 1442695040888963407)) (2 ^ min (Int.toNat 40) (IntKind.bits .u64))) &&& BitVec.ofInt (IntKind.bits .u64) 255) : Nat) : Int))), (Gs_l1Cur.mk a0.code (IntKind.wrap .i64 (a0.at_ + 1)) (IntKind.wrap .u64 ((IntKind.wrap .u64 ((IntKind.wrap .u64 (a0.seed * 6364136223846793005)) + (IntKind.wrap .u64 (IntKind.wrap .i64 x3)))) + 1442695040888963407))))
    else none
  else
    if (IntKind.wrap .i64 (a0.at_ + 1)) ≤ ((a0.code.length : Nat) : Int) then
      some (0, (Gs_l1Cur.mk a0.code (IntKind.wrap .i64 (a0.at_ + 1)) (IntKind.wrap .u64 ((IntKind.wrap .u64 ((IntKind.wrap .u64 (a0.seed * 6364136223846793005)) + (IntKind.wrap .u64 0))) + 1442695040888963407))))
    else
      some ((IntKind.wrap .i64 (IntKind.wrap .u64 ((BitVec.toNat (BitVec.ofInt (IntKind.bits .u64) (Int.fdiv (IntKind.wrap .u64 ((IntKind.wrap .u64 ((IntKind.wrap .u64 (a0.seed * 6364136223846793005)) + (IntKind.wrap .u64 0))) + 1442695040888963407)) (2 ^ min (Int.toNat 40) (IntKind.bits .u64))) &&& BitVec.ofInt (IntKind.bits .u64) 255) : Nat) : Int))), (Gs_l1Cur.mk a0.code (IntKind.wrap .i64 (a0.at_ + 1)) (IntKind.wrap .u64 ((IntKind.wrap .u64 ((IntKind.wrap .u64 (a0.seed * 6364136223846793005)) + (IntKind.wrap .u64 0))) + 1442695040888963407))))
/-!   loop example/g00886/spec l1Cur  pick -/
noncomputable def Ds_l1Cur_pick (a0 : Gs_l1Cur) (a1 : Int) : Option (Int × Gs_l1Cur) :=
  if a1 ≤ 1 then
    some (0, a0)
  else
    Option.bind (Ds_l1Cur_next a0) fun r2 =>
    if a1 > 200 then
      Option.bind (Ds_l1Cur_next r2.2) fun r4 =>
      if ¬ a1 = 0 then
        some ((Int.tmod (IntKind.wrap .i64 ((IntKind.wrap .i64 (r2.1 * 256)) + r4.1)) a1), r4.2)
      else none
    else
      if ¬ a1 = 0 then
        some ((Int.tmod r2.1 a1), r2.2)
      else none
/-!   loop example/g00886/spec l1Cur  one -/
noncomputable def Ds_l1Cur_one (a0 : Gs_l1Cur) (a1 : Int) : Option (Bool × Gs_l1Cur) :=
  Option.bind (Ds_l1Cur_pick a0 a1) fun r1 =>
  some (((r1.1 : Int) == 0), r1.2)
/-!   loop example/g00886/spec l1Cur  among -/
noncomputable def Ds_l1Cur_among (a0 : Gs_l1Cur) (a1 : (List Int)) : Option (Int × Gs_l1Cur) :=
  Option.bind (Ds_l1Cur_pick a0 ((a1.length : Nat) : Int)) fun r1 =>
  if 0 ≤ r1.1 then
    Option.bind (a1[(Int.toNat r1.1)]?) fun x3 =>
    some (x3, r1.2)
  else none
/-!   loop example/g00886/spec l1Cur  seedOf -/
noncomputable def Ds_l1Cur_seedOf (a0 : Gs_l1Cur) : Option (Int × Gs_l1Cur) :=
  Option.bind (Ds_l1Cur_pick a0 12) fun r1 =>
  if (r1.1 : Int) = 0 then
    some (0, r1.2)
  else
    if (r1.1 : Int) = 1 then
      Option.bind (Ds_l1Cur_among r1.2 [4611686016279904236, 123456789012]) fun r4 =>
      some (r4.1, r4.2)
    else
      Option.bind (Ds_l1Cur_pick r1.2 60000) fun r4 =>
      some (r4.1, r4.2)
/-!   loop example/g00886/spec l1Cur  anySeed -/
noncomputable def Ds_l1Cur_anySeed (a0 : Gs_l1Cur) : Option (Int × Gs_l1Cur) :=
  Option.bind (Ds_l1Cur_one a0 24) fun r1 =>
  if r1.1 = true then
    Option.bind (Ds_l1Cur_among r1.2 [(-1), 4611686016279904237]) fun r3 =>
    some (r3.1, r3.2)
  else
    Option.bind (Ds_l1Cur_seedOf r1.2) fun r3 =>
    some (r3.1, r3.2)
/-! loop example/g00886/spec DrawDiceFrom -/
noncomputable def Ds_DrawDiceFrom (a0 : (List Int)) : Option (Int × Int × Int) :=
  Option.bind (Ds_l1Cur_anySeed (Gs_l1Cur.mk a0 0 0)) fun r1 =>
  Option.bind (Ds_l1Cur_among r1.2 [0, 3, 999995, 1000000, 1000001]) fun r2 =>
  Option.bind (Ds_l1Cur_pick r2.2 10) fun r3 =>
  Option.bind (Ds_l1Cur_pick r3.2 20) fun r4 =>
  some (r1.1, r2.1, (IntKind.wrap .i64 (r3.1 - (IntKind.wrap .i64 (Int.tdiv r4.1 19)))))
/-! loop example/g00886/impl inRange -/
noncomputable def Di_inRange (a0 : Int) (a1 : Int) (a2 : Int) : Option (Bool) :=
  if a1 ≤ a0 then
    some (decide (a0 ≤ a2))
  else
    some false
/-! loop example/g00886/impl isSeed -/
noncomputable def Di_isSeed (a0 : Int) : Option (Bool) :=
  Option.bind (Di_inRange a0 0 4611686016279904236) fun r1 =>
  some r1
/-! loop example/g00886/impl isPlaceOfDie -/
noncomputable def Di_isPlaceOfDie (a0 : Int) : Option (Bool) :=
  Option.bind (Di_inRange a0 0 1000000) fun r1 =>
  some r1
/-! loop example/g00886/impl residue -/
noncomputable def Di_residue (a0 : Int) (a1 : Int) : Option (Int) :=
  if ¬ a1 = 0 then
    if ¬ a1 = 0 then
      some (Int.tmod (IntKind.wrap .i64 ((Int.tmod a0 a1) + a1)) a1)
    else none
  else none
/-! loop example/g00886/impl mixParts 1 -/
noncomputable def Di_mixParts_1 (a0 : Int) (a1 : Int) (a2 : Int) : Option (Int × Int) :=
  Option.bind (Di_residue a0 2147483647) fun r1 =>
  Option.bind (Di_residue a0 2147483629) fun r2 =>
  some ((Int.tmod (IntKind.wrap .i64 ((IntKind.wrap .i64 ((IntKind.wrap .i64 (16807 * a1)) + r1)) + a2)) 2147483647), (Int.tmod (IntKind.wrap .i64 ((IntKind.wrap .i64 ((IntKind.wrap .i64 (39373 * a2)) + r2)) + (Int.tmod (IntKind.wrap .i64 ((IntKind.wrap .i64 ((IntKind.wrap .i64 (16807 * a1)) + r1)) + a2)) 2147483647))) 2147483629))
/-! loop example/g00886/impl mixParts -/
inductive Si_mixParts where
  | h1 (t0 : (List Int)) (t1 : Int) (t2 : Int) (b3 : Int) (b4 : Int)
  | h2 (t0 : Int) (b1 : Int) (b2 : Int)
noncomputable def Bi_mixParts : Si_mixParts → Option (Si_mixParts ⊕ (Int × Int))
  | .h1 t0 t1 t2 b3 b4 =>
    if t2 < t1 then
      if 0 ≤ t2 then
        Option.bind (t0[(Int.toNat t2)]?) fun x3 =>
        Option.bind (Di_mixParts_1 x3 b3 b4) fun r4 =>
        some (.inl (.h1 t0 t1 (IntKind.wrap .i64 (t2 + 1)) r4.1 r4.2))
      else none
    else
      some (.inl (.h2 0 b3 b4))
  | .h2 t0 b1 b2 =>
    if t0 < 3 then
      Option.bind (Di_mixParts_1 1 b1 b2) fun r2 =>
      some (.inl (.h2 (IntKind.wrap .i64 (t0 + 1)) r2.1 r2.2))
    else
      some (.inr (b1, b2))
noncomputable def Di_mixParts (a0 : (List Int)) : Option (Int × Int) :=
  loop Bi_mixParts (.h1 a0 ((a0.length : Nat) : Int) 0 7 (IntKind.wrap .i64 (((a0.length : Nat) : Int) + 1)))
/-! loop example/g00886/impl dieAt -/
noncomputable def Di_dieAt (a0 : Int) (a1 : Int) : Option (Int) :=
  Option.bind (Di_mixParts [a0, a1]) fun r1 =>
  some (IntKind.wrap .i64 (1 + (Int.tmod r1.1 6)))
/-! loop example/g00886/impl DiceFrom -/
inductive Si_DiceFrom where
  | h1 (seed0 : Int) (i1 : Int) (t2 : Int) (t3 : Int) (l4 : (List Int))
noncomputable def Bi_DiceFrom : Si_DiceFrom → Option (Si_DiceFrom ⊕ ((List Int) × Bool))
  | .h1 seed0 i1 t2 t3 l4 =>
    if t3 < t2 then
      Option.bind (Di_dieAt seed0 (IntKind.wrap .i64 (i1 + t3))) fun r2 =>
      if (l4 ++ [r2]).length * 8 ≤ 70368744177664 then
        some (.inl (.h1 seed0 i1 t2 (IntKind.wrap .i64 (t3 + 1)) (l4 ++ [r2])))
      else none
    else
      some (.inr (l4, true))
noncomputable def Di_DiceFrom (a0 : Int) (a1 : Int) (a2 : Int) : Option ((List Int) × Bool) :=
  Option.bind (Di_isSeed a0) fun r1 =>
  if r1 = true then
    Option.bind (Di_isPlaceOfDie a1) fun r3 =>
    if r3 = true then
      Option.bind (Di_inRange a2 0 8) fun r5 =>
      if r5 = true then
        if (IntKind.wrap .i64 (a1 + a2)) > 1000001 then
          some ([], false)
        else
          loop Bi_DiceFrom (.h1 a0 a1 a2 0 ([] : List Int))
      else
        some ([], false)
    else
      some ([], false)
  else
    some ([], false)
/-! loop example/g00886/spec l1In -/
noncomputable def Ds_l1In (a0 : Int) (a1 : Int) (a2 : Int) : Option (Bool) :=
  if a0 ≥ a1 then
    some (decide (a0 ≤ a2))
  else
    some false
/-! loop example/g00886/spec dSeed -/
noncomputable def Ds_dSeed (a0 : Int) : Option (Bool) :=
  Option.bind (Ds_l1In a0 0 4611686016279904236) fun r1 =>
  some r1
/-! loop example/g00886/spec dAsked -/
noncomputable def Ds_dAsked (a0 : Int) (a1 : Int) : Option (Bool) :=
  Option.bind (Ds_dSeed a0) fun r1 =>
  if r1 = true then
    Option.bind (Ds_l1In a1 0 1000000) fun r3 =>
    some r3
  else
    some false
/-! loop example/g00886/spec dMod -/
noncomputable def Ds_dMod (a0 : Int) (a1 : Int) : Option (Int) :=
  if ¬ a1 = 0 then
    if ¬ a1 = 0 then
      some (Int.tmod (IntKind.wrap .i64 ((Int.tmod a0 a1) + a1)) a1)
    else none
  else none
/-! loop example/g00886/spec dMix -/
inductive Ss_dMix where
  | h1 (l0 : (List Int)) (va1 : Int) (b2 : Int) (i3 : Int)
noncomputable def Bs_dMix : Ss_dMix → Option (Ss_dMix ⊕ (Int × Int))
  | .h1 l0 va1 b2 i3 =>
    if i3 < (IntKind.wrap .i64 (((l0.length : Nat) : Int) + 3)) then
      if i3 < ((l0.length : Nat) : Int) then
        if 0 ≤ i3 then
          Option.bind (l0[(Int.toNat i3)]?) fun x4 =>
          Option.bind (Ds_dMod x4 2147483647) fun r5 =>
          Option.bind (Ds_dMod x4 2147483629) fun r6 =>
          some (.inl (.h1 l0 (Int.tmod (IntKind.wrap .i64 ((IntKind.wrap .i64 ((IntKind.wrap .i64 (16807 * va1)) + r5)) + b2)) 2147483647) (Int.tmod (IntKind.wrap .i64 ((IntKind.wrap .i64 ((IntKind.wrap .i64 (39373 * b2)) + r6)) + (Int.tmod (IntKind.wrap .i64 ((IntKind.wrap .i64 ((IntKind.wrap .i64 (16807 * va1)) + r5)) + b2)) 2147483647))) 2147483629) (IntKind.wrap .i64 (i3 + 1))))
        else none
      else
        Option.bind (Ds_dMod 1 2147483647) fun r3 =>
        Option.bind (Ds_dMod 1 2147483629) fun r4 =>
        some (.inl (.h1 l0 (Int.tmod (IntKind.wrap .i64 ((IntKind.wrap .i64 ((IntKind.wrap .i64 (16807 * va1)) + r3)) + b2)) 2147483647) (Int.tmod (IntKind.wrap .i64 ((IntKind.wrap .i64 ((IntKind.wrap .i64 (39373 * b2)) + r4)) + (Int.tmod (IntKind.wrap .i64 ((IntKind.wrap .i64 ((IntKind.wrap .i64 (16807 * va1)) + r3)) + b2)) 2147483647))) 2147483629) (IntKind.wrap .i64 (i3 + 1))))
    else
      some (.inr (va1, b2))
noncomputable def Ds_dMix (a0 : (List Int)) : Option (Int × Int) :=
  loop Bs_dMix (.h1 a0 7 (IntKind.wrap .i64 (((a0.length : Nat) : Int) + 1)) 0)
/-! loop example/g00886/spec dDie -/
noncomputable def Ds_dDie (a0 : Int) (a1 : Int) : Option (Int) :=
  Option.bind (Ds_dMix [a0, a1]) fun r1 =>
  some (IntKind.wrap .i64 (1 + (Int.tmod r1.1 6)))
/-! loop example/g00886/spec DiceFrom -/
inductive Ss_DiceFrom where
  | h1 (seed0 : Int) (i1 : Int) (n2 : Int) (k3 : Int) (l4 : (List Int))
noncomputable def Bs_DiceFrom : Ss_DiceFrom → Option (Ss_DiceFrom ⊕ ((List Int) × Bool))
  | .h1 seed0 i1 n2 k3 l4 =>
    if k3 < n2 then
      Option.bind (Ds_dDie seed0 (IntKind.wrap .i64 (i1 + k3))) fun r2 =>
      if (l4 ++ [r2]).length * 8 ≤ 70368744177664 then
        some (.inl (.h1 seed0 i1 n2 (IntKind.wrap .i64 (k3 + 1)) (l4 ++ [r2])))
      else none
    else
      some (.inr (l4, true))
noncomputable def Ds_DiceFrom (a0 : Int) (a1 : Int) (a2 : Int) : Option ((List Int) × Bool) :=
  Option.bind (Ds_dAsked a0 a1) fun r1 =>
  if r1 = true then
    Option.bind (Ds_l1In a2 0 8) fun r3 =>
    if r3 = true then
      if (IntKind.wrap .i64 (a1 + a2)) > 1000001 then
        some ([], false)
      else
        loop Bs_DiceFrom (.h1 a0 a1 a2 0 ([] : List Int))
    else
      some ([], false)
  else
    some ([], false)
/-! loop example/g00886/laws sameInts -/
inductive Sw_sameInts where
  | h1 (va0 : (List Int)) (b1 : (List Int)) (t2 : Int) (t3 : Int)
noncomputable def Bw_sameInts : Sw_sameInts → Option (Sw_sameInts ⊕ (Bool))
  | .h1 va0 b1 t2 t3 =>
    if t3 < t2 then
      if 0 ≤ t3 then
        Option.bind (va0[(Int.toNat t3)]?) fun x3 =>
        if 0 ≤ t3 then
          Option.bind (b1[(Int.toNat t3)]?) fun x5 =>
          if (x3 : Int) = x5 then
            some (.inl (.h1 va0 b1 t2 (IntKind.wrap .i64 (t3 + 1))))
          else
            some (.inr false)
        else none
      else none
    else
      some (.inr true)
noncomputable def Dw_sameInts (a0 : (List Int)) (a1 : (List Int)) : Option (Bool) :=
  if (((a0.length : Nat) : Int) : Int) = ((a1.length : Nat) : Int) then
    loop Bw_sameInts (.h1 a0 a1 ((a0.length : Nat) : Int) 0)
  else
    some false
/-! loop example/g00886/impl DieAt -/
noncomputable def Di_DieAt (a0 : Int) (a1 : Int) : Option (Int × Bool) :=
  Option.bind (Di_isSeed a0) fun r1 =>
  if r1 = true then
    Option.bind (Di_isPlaceOfDie a1) fun r3 =>
    if r3 = true then
      Option.bind (Di_dieAt a0 a1) fun r5 =>
      some (r5, true)
    else
      some (0, false)
  else
    some (0, false)
/-! loop example/g00886/spec DrawShuffleBy -/
noncomputable def Ds_DrawShuffleBy (a0 : (List Int)) : Option (Int × Int) :=
  Option.bind (Ds_l1Cur_anySeed (Gs_l1Cur.mk a0 0 0)) fun r1 =>
  Option.bind (Ds_l1Cur_among r1.2 [0, 1, 2, 3, 7, 12, 40, 41, (-1)]) fun r2 =>
  some (r1.1, r2.1)
/-! loop example/g00886/impl numberBelow -/
noncomputable def Di_numberBelow (a0 : Int) (a1 : Int) (a2 : Int) : Option (Int) :=
  Option.bind (Di_mixParts [a0, a1, a2]) fun r1 =>
  if ¬ a2 = 0 then
    some (Int.tmod r1.1 a2)
  else none
/-! loop example/g00886/impl ShuffleBy -/
inductive Si_ShuffleBy where
  | h1 (seed0 : Int) (n1 : Int) (t2 : Int) (t3 : Int) (l4 : (List Int))
  | h2 (seed0 : Int) (k1 : Int) (l2 : (List Int))
noncomputable def Bi_ShuffleBy : Si_ShuffleBy → Option (Si_ShuffleBy ⊕ ((List Int) × Bool))
  | .h1 seed0 n1 t2 t3 l4 =>
    if t3 < t2 then
      if (l4 ++ [t3]).length * 8 ≤ 70368744177664 then
        some (.inl (.h1 seed0 n1 t2 (IntKind.wrap .i64 (t3 + 1)) (l4 ++ [t3])))
      else none
    else
      some (.inl (.h2 seed0 (IntKind.wrap .i64 (n1 - 1)) l4))
  | .h2 seed0 k1 l2 =>
    if k1 ≥ 1 then
      Option.bind (Di_numberBelow seed0 k1 (IntKind.wrap .i64 (k1 + 1))) fun r2 =>
      if 0 ≤ k1 then
        Option.bind (l2[(Int.toNat k1)]?) fun x4 =>
        if 0 ≤ r2 then
          Option.bind (l2[(Int.toNat r2)]?) fun x6 =>
          if 0 ≤ k1 then
            Option.bind (l2[(Int.toNat k1)]?) fun x8 =>
            if 0 ≤ r2 then
              Option.bind ((List.set l2 (Int.toNat k1) x6)[(Int.toNat r2)]?) fun x10 =>
              some (.inl (.h2 seed0 (IntKind.wrap .i64 (k1 - 1)) (List.set (List.set l2 (Int.toNat k1) x6) (Int.toNat r2) x4)))
            else none
          else none
        else none
      else none
    else
      some (.inr (l2, true))
noncomputable def Di_ShuffleBy (a0 : Int) (a1 : Int) : Option ((List Int) × Bool) :=
  Option.bind (Di_isSeed a0) fun r1 =>
  if r1 = true then
    Option.bind (Di_inRange a1 0 40) fun r3 =>
    if r3 = true then
      loop Bi_ShuffleBy (.h1 a0 a1 a1 0 ([] : List Int))
    else
      some ([], false)
  else
    some ([], false)
/-! loop example/g00886/spec dBelow -/
noncomputable def Ds_dBelow (a0 : Int) (a1 : Int) (a2 : Int) : Option (Int) :=
  Option.bind (Ds_dMix [a0, a1, a2]) fun r1 =>
  if ¬ a2 = 0 then
    some (Int.tmod r1.1 a2)
  else none
/-! loop example/g00886/spec dShuffle -/
inductive Ss_dShuffle where
  | h1 (seed0 : Int) (n1 : Int) (i2 : Int) (l3 : (List Int))
  | h2 (seed0 : Int) (k1 : Int) (l2 : (List Int))
noncomputable def Bs_dShuffle : Ss_dShuffle → Option (Ss_dShuffle ⊕ ((List Int)))
  | .h1 seed0 n1 i2 l3 =>
    if i2 < n1 then
      if (l3 ++ [i2]).length * 8 ≤ 70368744177664 then
        some (.inl (.h1 seed0 n1 (IntKind.wrap .i64 (i2 + 1)) (l3 ++ [i2])))
      else none
    else
      some (.inl (.h2 seed0 (IntKind.wrap .i64 (n1 - 1)) l3))
  | .h2 seed0 k1 l2 =>
    if k1 ≥ 1 then
      Option.bind (Ds_dBelow seed0 k1 (IntKind.wrap .i64 (k1 + 1))) fun r2 =>
      if 0 ≤ k1 then
        Option.bind (l2[(Int.toNat k1)]?) fun x4 =>
        if 0 ≤ r2 then
          Option.bind (l2[(Int.toNat r2)]?) fun x6 =>
          if 0 ≤ k1 then
            Option.bind (l2[(Int.toNat k1)]?) fun x8 =>
            if 0 ≤ r2 then
              Option.bind ((List.set l2 (Int.toNat k1) x6)[(Int.toNat r2)]?) fun x10 =>
              some (.inl (.h2 seed0 (IntKind.wrap .i64 (k1 - 1)) (List.set (List.set l2 (Int.toNat k1) x6) (Int.toNat r2) x4)))
            else none
          else none
        else none
      else none
    else
      some (.inr l2)
noncomputable def Ds_dShuffle (a0 : Int) (a1 : Int) : Option ((List Int)) :=
  loop Bs_dShuffle (.h1 a0 a1 0 ([] : List Int))
/-! loop example/g00886/spec ShuffleBy -/
noncomputable def Ds_ShuffleBy (a0 : Int) (a1 : Int) : Option ((List Int) × Bool) :=
  Option.bind (Ds_dSeed a0) fun r1 =>
  if r1 = true then
    Option.bind (Ds_l1In a1 0 40) fun r3 =>
    if r3 = true then
      Option.bind (Ds_dShuffle a0 a1) fun r5 =>
      some (r5, true)
    else
      some ([], false)
  else
    some ([], false)
/-! loop example/g00886/spec DrawNumberBelow -/
noncomputable def Ds_DrawNumberBelow (a0 : (List Int)) : Option (Int × Int × Int) :=
  Option.bind (Ds_l1Cur_anySeed (Gs_l1Cur.mk a0 0 0)) fun r1 =>
  Option.bind (Ds_l1Cur_pick r1.2 100) fun r2 =>
  Option.bind (Ds_l1Cur_among r2.2 [1, 2, 7, 100, 1000000, 1000001, 0]) fun r3 =>
  some (r1.1, r2.1, r3.1)
/-! loop example/g00886/impl NumberBelow -/
noncomputable def Di_NumberBelow (a0 : Int) (a1 : Int) (a2 : Int) : Option (Int × Bool) :=
  Option.bind (Di_isSeed a0) fun r1 =>
  if r1 = true then
    Option.bind (Di_isPlaceOfDie a1) fun r3 =>
    if r3 = true then
      Option.bind (Di_inRange a2 1 1000000) fun r5 =>
      if r5 = true then
        Option.bind (Di_numberBelow a0 a1 a2) fun r7 =>
        some (r7, true)
      else
        some (0, false)
    else
      some (0, false)
  else
    some (0, false)
/-! loop example/g00886/spec NumberBelow -/
noncomputable def Ds_NumberBelow (a0 : Int) (a1 : Int) (a2 : Int) : Option (Int × Bool) :=
  Option.bind (Ds_dAsked a0 a1) fun r1 =>
  if r1 = true then
    Option.bind (Ds_l1In a2 1 1000000) fun r3 =>
    if r3 = true then
      Option.bind (Ds_dBelow a0 a1 a2) fun r5 =>
      some (r5, true)
    else
      some (0, false)
  else
    some (0, false)
/-! loop example/g00886/spec DrawFacesOf -/
noncomputable def Ds_DrawFacesOf (a0 : (List Int)) : Option (Int × Int) :=
  Option.bind (Ds_l1Cur_anySeed (Gs_l1Cur.mk a0 0 0)) fun r1 =>
  Option.bind (Ds_l1Cur_among r1.2 [0, 1, 6, 60, 600, 601, (-1)]) fun r2 =>
  some (r1.1, r2.1)
/-! loop example/g00886/impl FacesOf -/
inductive Si_FacesOf where
  | h1 (seed0 : Int) (t1 : Int) (t2 : Int) (l3 : (List Int))
noncomputable def Bi_FacesOf : Si_FacesOf → Option (Si_FacesOf ⊕ ((List Int) × Bool))
  | .h1 seed0 t1 t2 l3 =>
    if t2 < t1 then
      Option.bind (Di_dieAt seed0 t2) fun r2 =>
      if 0 ≤ (IntKind.wrap .i64 (r2 - 1)) then
        Option.bind (l3[(Int.toNat (IntKind.wrap .i64 (r2 - 1)))]?) fun x4 =>
        if 0 ≤ (IntKind.wrap .i64 (r2 - 1)) then
          Option.bind (l3[(Int.toNat (IntKind.wrap .i64 (r2 - 1)))]?) fun x6 =>
          some (.inl (.h1 seed0 t1 (IntKind.wrap .i64 (t2 + 1)) (List.set l3 (Int.toNat (IntKind.wrap .i64 (r2 - 1))) (IntKind.wrap .i64 (x4 + 1)))))
        else none
      else none
    else
      some (.inr (l3, true))
noncomputable def Di_FacesOf (a0 : Int) (a1 : Int) : Option ((List Int) × Bool) :=
  Option.bind (Di_isSeed a0) fun r1 =>
  if r1 = true then
    Option.bind (Di_inRange a1 0 600) fun r3 =>
    if r3 = true then
      if Int.toNat 6 * 8 ≤ 140737488355328 then
        loop Bi_FacesOf (.h1 a0 a1 0 (List.replicate (Int.toNat 6) 0))
      else none
    else
      some ([], false)
  else
    some ([], false)
/-! loop example/g00886/spec FacesOf -/
inductive Ss_FacesOf where
  | h1 (seed0 : Int) (n1 : Int) (i2 : Int) (l3 : (List Int))
noncomputable def Bs_FacesOf : Ss_FacesOf → Option (Ss_FacesOf ⊕ ((List Int) × Bool))
  | .h1 seed0 n1 i2 l3 =>
    if i2 < n1 then
      Option.bind (Ds_dDie seed0 i2) fun r2 =>
      if 0 ≤ (IntKind.wrap .i64 (r2 - 1)) then
        Option.bind (l3[(Int.toNat (IntKind.wrap .i64 (r2 - 1)))]?) fun x4 =>
        if 0 ≤ (IntKind.wrap .i64 (r2 - 1)) then
          Option.bind (l3[(Int.toNat (IntKind.wrap .i64 (r2 - 1)))]?) fun x6 =>
          some (.inl (.h1 seed0 n1 (IntKind.wrap .i64 (i2 + 1)) (List.set l3 (Int.toNat (IntKind.wrap .i64 (r2 - 1))) (IntKind.wrap .i64 (x4 + 1)))))
        else none
      else none
    else
      some (.inr (l3, true))
noncomputable def Ds_FacesOf (a0 : Int) (a1 : Int) : Option ((List Int) × Bool) :=
  Option.bind (Ds_dSeed a0) fun r1 =>
  if r1 = true then
    Option.bind (Ds_l1In a1 0 600) fun r3 =>
    if r3 = true then
      if Int.toNat 6 * 8 ≤ 140737488355328 then
        loop Bs_FacesOf (.h1 a0 a1 0 (List.replicate (Int.toNat 6) 0))
      else none
    else
      some ([], false)
  else
    some ([], false)
/-! loop example/g00886/laws pSum -/
inductive Sw_pSum where
  | h1 (sum0 : Int) (t1 : (List Int)) (t2 : Int) (t3 : Int)
noncomputable def Bw_pSum : Sw_pSum → Option (Sw_pSum ⊕ (Int))
  | .h1 sum0 t1 t2 t3 =>
    if t3 < t2 then
      if 0 ≤ t3 then
        Option.bind (t1[(Int.toNat t3)]?) fun x3 =>
        some (.inl (.h1 (IntKind.wrap .i64 (sum0 + x3)) t1 t2 (IntKind.wrap .i64 (t3 + 1))))
      else none
    else
      some (.inr sum0)
noncomputable def Dw_pSum (a0 : (List Int)) : Option (Int) :=
  loop Bw_pSum (.h1 0 a0 ((a0.length : Nat) : Int) 0)
/-! loop example/g00886/laws FnDice -/
inductive Sw_FnDice where
  | h1 (t0 : (List Int)) (t1 : Int) (t2 : Int) (t3 : Int) (t4 : Int) (l5 : (List Int))
  | h2 (t0 : (List Int)) (t1 : Int) (t2 : Int) (l3 : (List Int)) (l4 : (List Bool))
noncomputable def Bw_FnDice : Sw_FnDice → Option (Sw_FnDice ⊕ (Bool))
  | .h1 t0 t1 t2 t3 t4 l5 =>
    if t4 < t3 then
      if 0 ≤ t4 then
        Option.bind (l5[(Int.toNat t4)]?) fun x3 =>
        Option.bind (Di_DieAt t1 (IntKind.wrap .i64 (t2 + t4))) fun r4 =>
        if r4.2 = true then
          if (r4.1 : Int) = x3 then
            if x3 < 1 then
              some (.inr false)
            else
              if x3 > 6 then
                some (.inr false)
              else
                some (.inl (.h1 t0 t1 t2 t3 (IntKind.wrap .i64 (t4 + 1)) l5))
          else
            some (.inr false)
        else
          some (.inr false)
      else none
    else
      Option.bind (Ds_DrawShuffleBy t0) fun r2 =>
      Option.bind (Di_ShuffleBy r2.1 r2.2) fun r3 =>
      Option.bind (Ds_ShuffleBy r2.1 r2.2) fun r4 =>
      if (!(r3.2 == r4.2)) = true then
        some (.inr false)
      else
        Option.bind (Dw_sameInts r3.1 r4.1) fun r6 =>
        if r6 = true then
          if Int.toNat ((r4.1.length : Nat) : Int) * 1 ≤ 140737488355328 then
            some (.inl (.h2 t0 ((r4.1.length : Nat) : Int) 0 r4.1 (List.replicate (Int.toNat ((r4.1.length : Nat) : Int)) false)))
          else none
        else
          some (.inr false)
  | .h2 t0 t1 t2 l3 l4 =>
    if t2 < t1 then
      if 0 ≤ t2 then
        Option.bind (l3[(Int.toNat t2)]?) fun x3 =>
        if x3 < 0 then
          some (.inr false)
        else
          if x3 ≥ ((l3.length : Nat) : Int) then
            some (.inr false)
          else
            if 0 ≤ x3 then
              Option.bind (l4[(Int.toNat x3)]?) fun x7 =>
              if x7 = true then
                some (.inr false)
              else
                if 0 ≤ x3 then
                  Option.bind (l4[(Int.toNat x3)]?) fun x10 =>
                  some (.inl (.h2 t0 t1 (IntKind.wrap .i64 (t2 + 1)) l3 (List.set l4 (Int.toNat x3) true)))
                else none
            else none
      else none
    else
      Option.bind (Ds_DrawNumberBelow t0) fun r2 =>
      Option.bind (Di_NumberBelow r2.1 r2.2.1 r2.2.2) fun r3 =>
      if r3.2 = true then
        Option.bind (Ds_NumberBelow r2.1 r2.2.1 r2.2.2) fun r5 =>
        Option.bind (Ds_DrawFacesOf t0) fun r6 =>
        Option.bind (Di_FacesOf r6.1 r6.2) fun r7 =>
        if r7.2 = true then
          Option.bind (Ds_FacesOf r6.1 r6.2) fun r9 =>
          if (true == r5.2) = true then
            if (r3.1 : Int) = r5.1 then
              if r3.1 ≥ 0 then
                if r3.1 < r2.2.2 then
                  if (true == r9.2) = true then
                    Option.bind (Dw_sameInts r7.1 r9.1) fun r15 =>
                    if r15 = true then
                      Option.bind (Dw_pSum r7.1) fun r17 =>
                      some (.inr ((r17 : Int) == r6.2))
                    else
                      some (.inr false)
                  else
                    some (.inr false)
                else
                  some (.inr false)
              else
                some (.inr false)
            else
              some (.inr false)
          else
            some (.inr false)
        else
          Option.bind (Ds_FacesOf r6.1 r6.2) fun r9 =>
          if (true == r5.2) = true then
            if (r3.1 : Int) = r5.1 then
              if r3.1 ≥ 0 then
                if r3.1 < r2.2.2 then
                  if (false == r9.2) = true then
                    Option.bind (Dw_sameInts r7.1 r9.1) fun r15 =>
                    if r15 = true then
                      some (.inr true)
                    else
                      some (.inr false)
                  else
                    some (.inr false)
                else
                  some (.inr false)
              else
                some (.inr false)
            else
              some (.inr false)
          else
            some (.inr false)
      else
        Option.bind (Ds_NumberBelow r2.1 r2.2.1 r2.2.2) fun r5 =>
        Option.bind (Ds_DrawFacesOf t0) fun r6 =>
        Option.bind (Di_FacesOf r6.1 r6.2) fun r7 =>
        if r7.2 = true then
          Option.bind (Ds_FacesOf r6.1 r6.2) fun r9 =>
          if (false == r5.2) = true then
            if (r3.1 : Int) = r5.1 then
              if (true == r9.2) = true then
                Option.bind (Dw_sameInts r7.1 r9.1) fun r13 =>
                if r13 = true then
                  Option.bind (Dw_pSum r7.1) fun r15 =>
                  some (.inr ((r15 : Int) == r6.2))
                else
                  some (.inr false)
              else
                some (.inr false)
            else
              some (.inr false)
          else
            some (.inr false)
        else
          Option.bind (Ds_FacesOf r6.1 r6.2) fun r9 =>
          if (false == r5.2) = true then
            if (r3.1 : Int) = r5.1 then
              if (false == r9.2) = true then
                Option.bind (Dw_sameInts r7.1 r9.1) fun r13 =>
                if r13 = true then
                  some (.inr true)
                else
                  some (.inr false)
              else
                some (.inr false)
            else
              some (.inr false)
          else
            some (.inr false)
noncomputable def Dw_FnDice (a0 : (List Int)) (a1 : (List Int)) : Option (Bool) :=
  Option.bind (Dw_big a0 a1) fun r1 =>
  if r1 = true then
    some true
  else
    Option.bind (Ds_DrawDiceFrom a0) fun r3 =>
    Option.bind (Di_DiceFrom r3.1 r3.2.1 r3.2.2) fun r4 =>
    Option.bind (Ds_DiceFrom r3.1 r3.2.1 r3.2.2) fun r5 =>
    if (!(r4.2 == r5.2)) = true then
      some false
    else
      Option.bind (Dw_sameInts r4.1 r5.1) fun r7 =>
      if r7 = true then
        loop Bw_FnDice (.h1 a1 r3.1 r3.2.1 ((r5.1.length : Nat) : Int) 0 r5.1)
      else
        some false
end Go.Proofs.Ytlniejjcejackaa.Ab
