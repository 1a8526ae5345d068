/- Part of the proof of FnForecasts: no condition of its own. -/
import Derived.Test.YtfnhclmdobdkbaaAb4
set_option linter.unusedVariables false
set_option linter.unusedSimpArgs false
open Go
namespace Go.Proofs.Ytfnhclmdobdkbaa.Ab
structure Gi_Climate where
  mk ::
  Weights : (List (List Int))
def gi_Climate (x : Gi_Climate) : D := .agg [sl 1 (sl 1 I) x.Weights]
structure Gs_l1Cur where
  mk ::
  code : (List Int)
  at_ : Int
  seed : Int
def gs_l1Cur (x : Gs_l1Cur) : D := .agg [sl 1 (D.int .u8) x.code, I x.at_, .int .u64 x.seed]

/-! loop example/g00886/laws big -/
noncomputable def Dw_big (a0 : (List Int)) (a1 : (List Int)) : Option (Bool) :=
  if ((a0.length : Nat) : Int) > 1048576 then
    some true
  else
    some (decide (((a1.length : Nat) : Int) > (IntKind.wrap .i64 (1048576 - ((a0.length : Nat) : Int)))))
/-!   loop example/g00886/spec l1Cur  next -/
noncomputable def Ds_l1Cur_next (a0 : Gs_l1Cur) : Option (Int × Gs_l1Cur) :=
  if a0.at_ < ((a0.code.length : Nat) : Int) then
    if 0 ≤ a0.at_ then
      Option.bind (a0.code[(Int.toNat a0.at_)]?) fun x3 =>
      if (IntKind.wrap .i64 (a0.at_ + 1)) ≤ ((a0.code.length : Nat) : Int) then
        some ((IntKind.wrap .i64 x3), (Gs_l1Cur.mk a0.code (IntKind.wrap .i64 (a0.at_ + 1)) (IntKind.wrap .u64 ((IntKind.wrap .u64 ((IntKind.wrap .u64 (a0.seed * 6364136223846793005)) + (IntKind.wrap .u64 (IntKind.wrap .i64 x3)))) + 1442695040888963407))))
      else
        some ((IntKind.wrap .i64 (IntKind.wrap .u64 ((BitVec.toNat (BitVec.ofInt (IntKind.bits .u64) (Int.fdiv (IntKind.wrap .u64 ((IntKind.wrap .u64 ((IntKind.wrap .u64 (a0.seed * 6364136223846793005)) + (IntKind.wrap .u64 (IntKind.wrap .i64 x3)))) + 1442695040888963407)) (2 ^ min (Int.toNat 40) (IntKind.bits .u64))) &&& BitVec.ofInt (IntKind.bits .u64) 255) : Nat) : Int))), (Gs_l1Cur.mk a0.code (IntKind.wrap .i64 (a0.at_ + 1)) (IntKind.wrap .u64 ((IntKind.wrap .u64 ((IntKind.wrap .u64 (a0.seed * 6364136223846793005)) + (IntKind.wrap .u64 (IntKind.wrap .i64 x3)))) + 1442695040888963407))))
    else none
  else
    if (IntKind.wrap .i64 (a0.at_ + 1)) ≤ ((a0.code.length : Nat) : Int) then
      some (0, (Gs_l1Cur.mk a0.code (IntKind.wrap .i64 (a0.at_ + 1)) (IntKind.wrap .u64 ((IntKind.wrap .u64 ((IntKind.wrap .u64 (a0.seed * 6364136223846793005)) + (IntKind.wrap .u64 0))) + 1442695040888963407))))
    else
      some ((IntKind.wrap .i64 (IntKind.wrap .u64 ((BitVec.toNat (BitVec.ofInt (IntKind.bits .u64) (Int.fdiv (IntKind.wrap .u64 ((IntKind.wrap .u64 ((IntKind.wrap .u64 (a0.seed * 6364136223846793005)) + (IntKind.wrap .u64 0))) + 1442695040888963407)) (2 ^ min (Int.toNat 40) (IntKind.bits .u64))) &&& BitVec.ofInt (IntKind.bits .u64) 255) : Nat) : Int))), (Gs_l1Cur.mk a0.code (IntKind.wrap .i64 (a0.at_ + 1)) (IntKind.wrap .u64 ((IntKind.wrap .u64 ((IntKind.wrap .u64 (a0.seed * 6364136223846793005)) + (IntKind.wrap .u64 0))) + 1442695040888963407))))
/-!   loop example/g00886/spec l1Cur  pick -/
noncomputable def Ds_l1Cur_pick (a0 : Gs_l1Cur) (a1 : Int) : Option (Int × Gs_l1Cur) :=
  if a1 ≤ 1 then
    some (0, a0)
  else
    Option.bind (Ds_l1Cur_next a0) fun r2 =>
    if a1 > 200 then
      Option.bind (Ds_l1Cur_next r2.2) fun r4 =>
      if ¬ a1 = 0 then
        some ((Int.tmod (IntKind.wrap .i64 ((IntKind.wrap .i64 (r2.1 * 256)) + r4.1)) a1), r4.2)
      else none
    else
      if ¬ a1 = 0 then
        some ((Int.tmod r2.1 a1), r2.2)
      else none
/-!   loop example/g00886/spec l1Cur  among -/
noncomputable def Ds_l1Cur_among (a0 : Gs_l1Cur) (a1 : (List Int)) : Option (Int × Gs_l1Cur) :=
  Option.bind (Ds_l1Cur_pick a0 ((a1.length : Nat) : Int)) fun r1 =>
  if 0 ≤ r1.1 then
    Option.bind (a1[(Int.toNat r1.1)]?) fun x3 =>
    some (x3, r1.2)
  else none
/-! loop example/g00886/spec l1Least -/
noncomputable def Ds_l1Least (a0 : Int) (a1 : Int) : Option (Int) :=
  if a0 < a1 then
    some a0
  else
    some a1
/-! loop example/g00886/spec l1Own -/
noncomputable def Ds_l1Own (a0 : (List Int)) : Option ((List Int)) :=
  if a0.length * 8 ≤ 70368744177664 then
    some a0
  else none
/-!   loop example/g00886/spec l1Cur  climate -/
inductive Ss_l1Cur_climate where
  | h1 (k0 : Int) (b1 : Gs_l1Cur)
  | h2 (k0 : Int) (b1 : Gs_l1Cur) (l2 : (List (List Int)))
noncomputable def Bs_l1Cur_climate : Ss_l1Cur_climate → Option (Ss_l1Cur_climate ⊕ (Gi_Climate × Gs_l1Cur))
  | .h1 k0 b1 =>
    if k0 < 3 then
      Option.bind (Ds_l1Cur_among b1 [0, 0, 6, 18, 36, 12]) fun r2 =>
      Option.bind (Ds_l1Cur_among r2.2 [0, 6, 18, 36]) fun r3 =>
      Option.bind (Ds_l1Least r3.1 (IntKind.wrap .i64 (36 - r2.1))) fun r4 =>
      Option.bind (Ds_l1Cur_pick r3.2 3) fun r5 =>
      if (0 : Int) ≤ r5.1 then
        if (r5.1 : Int) ≤ (([r2.1, r4, (IntKind.wrap .i64 ((IntKind.wrap .i64 (36 - r2.1)) - r4))].length : Nat) : Int) then
          Option.bind (Ds_l1Own (List.take (([r2.1, r4, (IntKind.wrap .i64 ((IntKind.wrap .i64 (36 - r2.1)) - r4))].length) - (Int.toNat r5.1)) (List.drop (Int.toNat r5.1) [r2.1, r4, (IntKind.wrap .i64 ((IntKind.wrap .i64 (36 - r2.1)) - r4))]))) fun r8 =>
          if (0 : Int) ≤ r5.1 then
            if (r5.1 : Int) ≤ (([r2.1, r4, (IntKind.wrap .i64 ((IntKind.wrap .i64 (36 - r2.1)) - r4))].length : Nat) : Int) then
              if (r8 ++ (List.take ((Int.toNat r5.1) - 0) (List.drop 0 [r2.1, r4, (IntKind.wrap .i64 ((IntKind.wrap .i64 (36 - r2.1)) - r4))]))).length * 8 ≤ 70368744177664 then
                if [(r8 ++ (List.take ((Int.toNat r5.1) - 0) (List.drop 0 [r2.1, r4, (IntKind.wrap .i64 ((IntKind.wrap .i64 (36 - r2.1)) - r4))])))].length * 24 ≤ 70368744177664 then
                  some (.inl (.h2 (IntKind.wrap .i64 (k0 + 1)) r5.2 [(r8 ++ (List.take ((Int.toNat r5.1) - 0) (List.drop 0 [r2.1, r4, (IntKind.wrap .i64 ((IntKind.wrap .i64 (36 - r2.1)) - r4))])))]))
                else none
              else none
            else none
          else none
        else none
      else none
    else
      some (.inr ((Gi_Climate.mk []), b1))
  | .h2 k0 b1 l2 =>
    if k0 < 3 then
      Option.bind (Ds_l1Cur_among b1 [0, 0, 6, 18, 36, 12]) fun r2 =>
      Option.bind (Ds_l1Cur_among r2.2 [0, 6, 18, 36]) fun r3 =>
      Option.bind (Ds_l1Least r3.1 (IntKind.wrap .i64 (36 - r2.1))) fun r4 =>
      Option.bind (Ds_l1Cur_pick r3.2 3) fun r5 =>
      if (0 : Int) ≤ r5.1 then
        if (r5.1 : Int) ≤ (([r2.1, r4, (IntKind.wrap .i64 ((IntKind.wrap .i64 (36 - r2.1)) - r4))].length : Nat) : Int) then
          Option.bind (Ds_l1Own (List.take (([r2.1, r4, (IntKind.wrap .i64 ((IntKind.wrap .i64 (36 - r2.1)) - r4))].length) - (Int.toNat r5.1)) (List.drop (Int.toNat r5.1) [r2.1, r4, (IntKind.wrap .i64 ((IntKind.wrap .i64 (36 - r2.1)) - r4))]))) fun r8 =>
          if (0 : Int) ≤ r5.1 then
            if (r5.1 : Int) ≤ (([r2.1, r4, (IntKind.wrap .i64 ((IntKind.wrap .i64 (36 - r2.1)) - r4))].length : Nat) : Int) then
              if (r8 ++ (List.take ((Int.toNat r5.1) - 0) (List.drop 0 [r2.1, r4, (IntKind.wrap .i64 ((IntKind.wrap .i64 (36 - r2.1)) - r4))]))).length * 8 ≤ 70368744177664 then
                if (l2 ++ [(r8 ++ (List.take ((Int.toNat r5.1) - 0) (List.drop 0 [r2.1, r4, (IntKind.wrap .i64 ((IntKind.wrap .i64 (36 - r2.1)) - r4))])))]).length * 24 ≤ 70368744177664 then
                  some (.inl (.h2 (IntKind.wrap .i64 (k0 + 1)) r5.2 (l2 ++ [(r8 ++ (List.take ((Int.toNat r5.1) - 0) (List.drop 0 [r2.1, r4, (IntKind.wrap .i64 ((IntKind.wrap .i64 (36 - r2.1)) - r4))])))])))
                else none
              else none
            else none
          else none
        else none
      else none
    else
      some (.inr ((Gi_Climate.mk l2), b1))
noncomputable def Ds_l1Cur_climate (a0 : Gs_l1Cur) : Option (Gi_Climate × Gs_l1Cur) :=
  loop Bs_l1Cur_climate (.h1 0 a0)
/-!   loop example/g00886/spec l1Cur  anyClimate -/
noncomputable def Ds_l1Cur_anyClimate (a0 : Gs_l1Cur) : Option (Gi_Climate × Gs_l1Cur) :=
  Option.bind (Ds_l1Cur_climate a0) fun r1 =>
  Option.bind (Ds_l1Cur_pick r1.2 24) fun r2 =>
  if (r2.1 : Int) = 0 then
    Option.bind (r1.1.Weights[(Int.toNat 0)]?) fun x4 =>
    Option.bind (x4[(Int.toNat 0)]?) fun x5 =>
    Option.bind (x4[(Int.toNat 0)]?) fun x6 =>
    some ((Gi_Climate.mk (List.set r1.1.Weights (Int.toNat 0) (List.set x4 (Int.toNat 0) (IntKind.wrap .i64 (x5 + 1))))), r2.2)
  else
    if (r2.1 : Int) = 1 then
      if (1 : Int) ≤ ((r1.1.Weights.length : Nat) : Int) then
        some ((Gi_Climate.mk (List.take (r1.1.Weights.length - (Int.toNat 1)) (List.drop (Int.toNat 1) r1.1.Weights))), r2.2)
      else none
    else
      if (r2.1 : Int) = 2 then
        Option.bind (r1.1.Weights[(Int.toNat 1)]?) fun x6 =>
        some ((Gi_Climate.mk (List.set r1.1.Weights (Int.toNat 1) [(-1), 37, 0])), r2.2)
      else
        some (r1.1, r2.2)
/-!   loop example/g00886/spec l1Cur  weatherOf -/
noncomputable def Ds_l1Cur_weatherOf (a0 : Gs_l1Cur) : Option (Int × Gs_l1Cur) :=
  Option.bind (Ds_l1Cur_pick a0 20) fun r1 =>
  Option.bind (Ds_l1Cur_pick r1.2 (IntKind.wrap .i64 (3 + (IntKind.wrap .i64 (Int.tdiv r1.1 19))))) fun r2 =>
  Option.bind (Ds_l1Cur_pick r2.2 30) fun r3 =>
  some ((IntKind.wrap .i64 (r2.1 - (IntKind.wrap .i64 (Int.tdiv r3.1 29)))), r3.2)
/-! loop example/g00886/spec DrawChancesAfter -/
noncomputable def Ds_DrawChancesAfter (a0 : (List Int)) : Option (Gi_Climate × Int × Int) :=
  Option.bind (Ds_l1Cur_anyClimate (Gs_l1Cur.mk a0 0 0)) fun r1 =>
  Option.bind (Ds_l1Cur_weatherOf r1.2) fun r2 =>
  Option.bind (Ds_l1Cur_pick r2.2 8) fun r3 =>
  Option.bind (Ds_l1Cur_pick r3.2 20) fun r4 =>
  some (r1.1, r2.1, (IntKind.wrap .i64 (r3.1 - (IntKind.wrap .i64 (Int.tdiv r4.1 19)))))
/-! loop example/g00886/spec DrawMostLikely -/
noncomputable def Ds_DrawMostLikely (a0 : (List Int)) : Option (Gi_Climate × Int × Int) :=
  Option.bind (Ds_DrawChancesAfter a0) fun r1 =>
  some (r1.1, r1.2.1, r1.2.2)
/-! loop example/g00886/impl sumOf -/
inductive Si_sumOf where
  | h1 (sum0 : Int) (t1 : (List Int)) (t2 : Int) (t3 : Int)
noncomputable def Bi_sumOf : Si_sumOf → Option (Si_sumOf ⊕ (Int))
  | .h1 sum0 t1 t2 t3 =>
    if t3 < t2 then
      if 0 ≤ t3 then
        Option.bind (t1[(Int.toNat t3)]?) fun x3 =>
        some (.inl (.h1 (IntKind.wrap .i64 (sum0 + x3)) t1 t2 (IntKind.wrap .i64 (t3 + 1))))
      else none
    else
      some (.inr sum0)
noncomputable def Di_sumOf (a0 : (List Int)) : Option (Int) :=
  loop Bi_sumOf (.h1 0 a0 ((a0.length : Nat) : Int) 0)
/-! loop example/g00886/impl inRange -/
noncomputable def Di_inRange (a0 : Int) (a1 : Int) (a2 : Int) : Option (Bool) :=
  if a1 ≤ a0 then
    some (decide (a0 ≤ a2))
  else
    some false
/-! loop example/g00886/impl IsClimate -/
inductive Si_IsClimate where
  | h1 (t0 : (List (List Int))) (t1 : Int) (t2 : Int)
  | h2 (t0 : (List (List Int))) (t1 : Int) (t2 : Int) (t3 : (List Int)) (t4 : Int) (t5 : Int)
noncomputable def Bi_IsClimate : Si_IsClimate → Option (Si_IsClimate ⊕ (Bool))
  | .h1 t0 t1 t2 =>
    if t2 < t1 then
      if 0 ≤ t2 then
        Option.bind (t0[(Int.toNat t2)]?) fun x3 =>
        if (((x3.length : Nat) : Int) : Int) = 3 then
          Option.bind (Di_sumOf x3) fun r5 =>
          if (r5 : Int) = 36 then
            some (.inl (.h2 t0 t1 t2 x3 ((x3.length : Nat) : Int) 0))
          else
            some (.inr false)
        else
          some (.inr false)
      else none
    else
      some (.inr true)
  | .h2 t0 t1 t2 t3 t4 t5 =>
    if t5 < t4 then
      if 0 ≤ t5 then
        Option.bind (t3[(Int.toNat t5)]?) fun x3 =>
        Option.bind (Di_inRange x3 0 36) fun r4 =>
        if r4 = true then
          some (.inl (.h2 t0 t1 t2 t3 t4 (IntKind.wrap .i64 (t5 + 1))))
        else
          some (.inr false)
      else none
    else
      some (.inl (.h1 t0 t1 (IntKind.wrap .i64 (t2 + 1))))
noncomputable def Di_IsClimate (a0 : Gi_Climate) : Option (Bool) :=
  if (((a0.Weights.length : Nat) : Int) : Int) = 3 then
    loop Bi_IsClimate (.h1 a0.Weights ((a0.Weights.length : Nat) : Int) 0)
  else
    some false
/-! loop example/g00886/impl isWeather -/
noncomputable def Di_isWeather (a0 : Int) : Option (Bool) :=
  Option.bind (Di_inRange a0 0 2) fun r1 =>
  some r1
/-! loop example/g00886/impl isWeatherOf -/
noncomputable def Di_isWeatherOf (a0 : Gi_Climate) (a1 : Int) : Option (Bool) :=
  Option.bind (Di_IsClimate a0) fun r1 =>
  if r1 = true then
    Option.bind (Di_isWeather a1) fun r3 =>
    some r3
  else
    some false
/-! slices Clone -/
noncomputable def Dslices_Clone_int (a0 : (List Int)) : Option (List Int) := if List.length a0 * 8 ≤ 70368744177664 then some a0 else none
/-! loop example/g00886/impl likelihood -/
inductive Si_likelihood where
  | h1 (list0 : (List Int)) (out1 : Int) (i2 : Int) (b3 : Gi_Climate)
noncomputable def Bi_likelihood : Si_likelihood → Option (Si_likelihood ⊕ (Int))
  | .h1 list0 out1 i2 b3 =>
    if i2 < ((list0.length : Nat) : Int) then
      if 0 ≤ (IntKind.wrap .i64 (i2 - 1)) then
        Option.bind (list0[(Int.toNat (IntKind.wrap .i64 (i2 - 1)))]?) fun x3 =>
        if 0 ≤ x3 then
          Option.bind (b3.Weights[(Int.toNat x3)]?) fun x5 =>
          if 0 ≤ i2 then
            Option.bind (list0[(Int.toNat i2)]?) fun x7 =>
            if 0 ≤ x7 then
              Option.bind (x5[(Int.toNat x7)]?) fun x9 =>
              some (.inl (.h1 list0 (IntKind.wrap .i64 (out1 * x9)) (IntKind.wrap .i64 (i2 + 1)) b3))
            else none
          else none
        else none
      else none
    else
      some (.inr out1)
noncomputable def Di_likelihood (a0 : Gi_Climate) (a1 : (List Int)) : Option (Int) :=
  loop Bi_likelihood (.h1 a1 1 1 a0)
/-! loop example/g00886/impl MostLikely -/
inductive Si_MostLikely where
  | h1 (t0 : Int) (t1 : Int) (t2 : Int) (t3 : Int) (t4 : Int) (b5 : Gi_Climate)
  | h2 (t0 : Int) (t1 : Int) (t2 : Int) (t3 : Int) (t4 : Int) (b5 : Gi_Climate) (l6 : (List Int))
  | h3 (t0 : Int) (t1 : Int) (t2 : Int) (t3 : Int) (t4 : Int) (t5 : Int) (t6 : Int) (b7 : Gi_Climate) (l8 : (List Int)) (l9 : (List Int))
noncomputable def Bi_MostLikely : Si_MostLikely → Option (Si_MostLikely ⊕ ((List Int) × Bool))
  | .h1 t0 t1 t2 t3 t4 b5 =>
    if t4 < t3 then
      some (.inl (.h1 t0 t1 (IntKind.wrap .i64 (t2 * 3)) t3 (IntKind.wrap .i64 (t4 + 1)) b5))
    else
      some (.inl (.h2 t0 t1 (-1) t2 0 b5 ([] : List Int)))
  | .h2 t0 t1 t2 t3 t4 b5 l6 =>
    if t4 < t3 then
      if 0 ≤ (IntKind.wrap .i64 (t1 + 1)) then
        if Int.toNat (IntKind.wrap .i64 (t1 + 1)) * 8 ≤ 140737488355328 then
          Option.bind ((List.replicate (Int.toNat (IntKind.wrap .i64 (t1 + 1))) (0 : Int))[(Int.toNat 0)]?) fun x4 =>
          some (.inl (.h3 t0 t1 t2 t4 t1 t3 t4 b5 l6 (List.set (List.replicate (Int.toNat (IntKind.wrap .i64 (t1 + 1))) (0 : Int)) (Int.toNat 0) t0)))
        else none
      else none
    else
      Option.bind (Dslices_Clone_int l6) fun r2 =>
      some (.inr (r2, true))
  | .h3 t0 t1 t2 t3 t4 t5 t6 b7 l8 l9 =>
    if t4 ≥ 1 then
      if 0 ≤ t4 then
        Option.bind (l9[(Int.toNat t4)]?) fun x3 =>
        some (.inl (.h3 t0 t1 t2 (IntKind.wrap .i64 (Int.tdiv t3 3)) (IntKind.wrap .i64 (t4 - 1)) t5 t6 b7 l8 (List.set l9 (Int.toNat t4) (Int.tmod t3 3))))
      else none
    else
      Option.bind (Di_likelihood b7 l9) fun r2 =>
      if r2 > t2 then
        if (1 : Int) ≤ ((l9.length : Nat) : Int) then
          some (.inl (.h2 t0 t1 r2 t5 (IntKind.wrap .i64 (t6 + 1)) b7 (List.take (l9.length - (Int.toNat 1)) (List.drop (Int.toNat 1) l9))))
        else none
      else
        some (.inl (.h2 t0 t1 t2 t5 (IntKind.wrap .i64 (t6 + 1)) b7 l8))
noncomputable def Di_MostLikely (a0 : Gi_Climate) (a1 : Int) (a2 : Int) : Option ((List Int) × Bool) :=
  Option.bind (Di_isWeatherOf a0 a1) fun r1 =>
  if r1 = true then
    Option.bind (Di_inRange a2 0 6) fun r3 =>
    if r3 = true then
      loop Bi_MostLikely (.h1 a1 a2 1 a2 0 a0)
    else
      some ([], false)
  else
    some ([], false)
/-! loop example/g00886/spec l1In -/
noncomputable def Ds_l1In (a0 : Int) (a1 : Int) (a2 : Int) : Option (Bool) :=
  if a0 ≥ a1 then
    some (decide (a0 ≤ a2))
  else
    some false
/-! loop example/g00886/spec l1All -/
inductive Ss_l1All where
  | h1 (lo0 : Int) (vhi1 : Int) (t2 : (List Int)) (t3 : Int) (t4 : Int)
noncomputable def Bs_l1All : Ss_l1All → Option (Ss_l1All ⊕ (Bool))
  | .h1 lo0 vhi1 t2 t3 t4 =>
    if t4 < t3 then
      if 0 ≤ t4 then
        Option.bind (t2[(Int.toNat t4)]?) fun x3 =>
        Option.bind (Ds_l1In x3 lo0 vhi1) fun r4 =>
        if r4 = true then
          some (.inl (.h1 lo0 vhi1 t2 t3 (IntKind.wrap .i64 (t4 + 1))))
        else
          some (.inr false)
      else none
    else
      some (.inr true)
noncomputable def Ds_l1All (a0 : (List Int)) (a1 : Int) (a2 : Int) : Option (Bool) :=
  loop Bs_l1All (.h1 a1 a2 a0 ((a0.length : Nat) : Int) 0)
/-! loop example/g00886/spec wGood -/
inductive Ss_wGood where
  | h1 (t0 : (List (List Int))) (t1 : Int) (t2 : Int)
noncomputable def Bs_wGood : Ss_wGood → Option (Ss_wGood ⊕ (Bool))
  | .h1 t0 t1 t2 =>
    if t2 < t1 then
      if 0 ≤ t2 then
        Option.bind (t0[(Int.toNat t2)]?) fun x3 =>
        if (((x3.length : Nat) : Int) : Int) = 3 then
          Option.bind (Ds_l1All x3 0 36) fun r5 =>
          if r5 = true then
            Option.bind (x3[(Int.toNat 0)]?) fun x7 =>
            Option.bind (x3[(Int.toNat 1)]?) fun x8 =>
            Option.bind (x3[(Int.toNat 2)]?) fun x9 =>
            if ((IntKind.wrap .i64 ((IntKind.wrap .i64 (x7 + x8)) + x9)) : Int) = 36 then
              some (.inl (.h1 t0 t1 (IntKind.wrap .i64 (t2 + 1))))
            else
              some (.inr false)
          else
            some (.inr false)
        else
          some (.inr false)
      else none
    else
      some (.inr true)
noncomputable def Ds_wGood (a0 : Gi_Climate) : Option (Bool) :=
  if (((a0.Weights.length : Nat) : Int) : Int) = 3 then
    loop Bs_wGood (.h1 a0.Weights ((a0.Weights.length : Nat) : Int) 0)
  else
    some false
/-! loop example/g00886/spec wAsked -/
noncomputable def Ds_wAsked (a0 : Gi_Climate) (a1 : Int) : Option (Bool) :=
  Option.bind (Ds_wGood a0) fun r1 =>
  if r1 = true then
    Option.bind (Ds_l1In a1 0 2) fun r3 =>
    some r3
  else
    some false
/-! loop example/g00886/spec wLikelihood -/
inductive Ss_wLikelihood where
  | h1 (list0 : (List Int)) (p1 : Int) (i2 : Int) (b3 : Gi_Climate)
noncomputable def Bs_wLikelihood : Ss_wLikelihood → Option (Ss_wLikelihood ⊕ (Int))
  | .h1 list0 p1 i2 b3 =>
    if i2 < ((list0.length : Nat) : Int) then
      if 0 ≤ (IntKind.wrap .i64 (i2 - 1)) then
        Option.bind (list0[(Int.toNat (IntKind.wrap .i64 (i2 - 1)))]?) fun x3 =>
        if 0 ≤ x3 then
          Option.bind (b3.Weights[(Int.toNat x3)]?) fun x5 =>
          if 0 ≤ i2 then
            Option.bind (list0[(Int.toNat i2)]?) fun x7 =>
            if 0 ≤ x7 then
              Option.bind (x5[(Int.toNat x7)]?) fun x9 =>
              some (.inl (.h1 list0 (IntKind.wrap .i64 (p1 * x9)) (IntKind.wrap .i64 (i2 + 1)) b3))
            else none
          else none
        else none
      else none
    else
      some (.inr p1)
noncomputable def Ds_wLikelihood (a0 : Gi_Climate) (a1 : (List Int)) : Option (Int) :=
  loop Bs_wLikelihood (.h1 a1 1 1 a0)
/-! loop example/g00886/spec MostLikely -/
inductive Ss_MostLikely where
  | h1 (t0 : Int) (t1 : Int) (t2 : Int) (t3 : Int) (b4 : Gi_Climate)
  | h2 (t0 : Int) (t1 : Int) (t2 : Int) (t3 : Int) (t4 : Int) (b5 : Gi_Climate) (l6 : (List Int))
  | h3 (t0 : Int) (t1 : Int) (t2 : Int) (t3 : Int) (t4 : Int) (t5 : Int) (t6 : Int) (b7 : Gi_Climate) (l8 : (List Int)) (l9 : (List Int))
noncomputable def Bs_MostLikely : Ss_MostLikely → Option (Ss_MostLikely ⊕ ((List Int) × Bool))
  | .h1 t0 t1 t2 t3 b4 =>
    if t3 < t1 then
      some (.inl (.h1 t0 t1 (IntKind.wrap .i64 (t2 * 3)) (IntKind.wrap .i64 (t3 + 1)) b4))
    else
      some (.inl (.h2 t0 t1 t2 (-1) 0 b4 ([] : List Int)))
  | .h2 t0 t1 t2 t3 t4 b5 l6 =>
    if t4 < t2 then
      if 0 ≤ t1 then
        if Int.toNat t1 * 8 ≤ 140737488355328 then
          some (.inl (.h3 t0 t1 t2 t3 t4 t4 (IntKind.wrap .i64 (t1 - 1)) b5 l6 (List.replicate (Int.toNat t1) (0 : Int))))
        else none
      else none
    else
      some (.inr (l6, true))
  | .h3 t0 t1 t2 t3 t4 t5 t6 b7 l8 l9 =>
    if t6 ≥ 0 then
      if 0 ≤ t6 then
        Option.bind (l9[(Int.toNat t6)]?) fun x3 =>
        some (.inl (.h3 t0 t1 t2 t3 t4 (IntKind.wrap .i64 (Int.tdiv t5 3)) (IntKind.wrap .i64 (t6 - 1)) b7 l8 (List.set l9 (Int.toNat t6) (Int.tmod t5 3))))
      else none
    else
      if ([t0] ++ l9).length * 8 ≤ 70368744177664 then
        Option.bind (Ds_wLikelihood b7 ([t0] ++ l9)) fun r3 =>
        if r3 > t3 then
          some (.inl (.h2 t0 t1 t2 r3 (IntKind.wrap .i64 (t4 + 1)) b7 l9))
        else
          some (.inl (.h2 t0 t1 t2 t3 (IntKind.wrap .i64 (t4 + 1)) b7 l8))
      else none
noncomputable def Ds_MostLikely (a0 : Gi_Climate) (a1 : Int) (a2 : Int) : Option ((List Int) × Bool) :=
  Option.bind (Ds_wAsked a0 a1) fun r1 =>
  if r1 = true then
    Option.bind (Ds_l1In a2 0 6) fun r3 =>
    if r3 = true then
      loop Bs_MostLikely (.h1 a1 a2 1 0 a0)
    else
      some ([], false)
  else
    some ([], false)
/-! loop example/g00886/laws sameInts -/
inductive Sw_sameInts where
  | h1 (va0 : (List Int)) (b1 : (List Int)) (t2 : Int) (t3 : Int)
noncomputable def Bw_sameInts : Sw_sameInts → Option (Sw_sameInts ⊕ (Bool))
  | .h1 va0 b1 t2 t3 =>
    if t3 < t2 then
      if 0 ≤ t3 then
        Option.bind (va0[(Int.toNat t3)]?) fun x3 =>
        if 0 ≤ t3 then
          Option.bind (b1[(Int.toNat t3)]?) fun x5 =>
          if (x3 : Int) = x5 then
            some (.inl (.h1 va0 b1 t2 (IntKind.wrap .i64 (t3 + 1))))
          else
            some (.inr false)
        else none
      else none
    else
      some (.inr true)
noncomputable def Dw_sameInts (a0 : (List Int)) (a1 : (List Int)) : Option (Bool) :=
  if (((a0.length : Nat) : Int) : Int) = ((a1.length : Nat) : Int) then
    loop Bw_sameInts (.h1 a0 a1 ((a0.length : Nat) : Int) 0)
  else
    some false
/-!   loop example/g00886/spec l1Cur  one -/
noncomputable def Ds_l1Cur_one (a0 : Gs_l1Cur) (a1 : Int) : Option (Bool × Gs_l1Cur) :=
  Option.bind (Ds_l1Cur_pick a0 a1) fun r1 =>
  some (((r1.1 : Int) == 0), r1.2)
/-! loop example/g00886/spec DrawLikelihoodOf -/
inductive Ss_DrawLikelihoodOf where
  | h1 (k0 : Int) (b1 : Gs_l1Cur) (l2 : (List Int)) (l3 : (List (List Int)))
noncomputable def Bs_DrawLikelihoodOf : Ss_DrawLikelihoodOf → Option (Ss_DrawLikelihoodOf ⊕ (Gi_Climate × (List Int)))
  | .h1 k0 b1 l2 l3 =>
    if k0 > 0 then
      Option.bind (Ds_l1Cur_pick b1 3) fun r2 =>
      if (l2 ++ [r2.1]).length * 8 ≤ 70368744177664 then
        some (.inl (.h1 (IntKind.wrap .i64 (k0 - 1)) r2.2 (l2 ++ [r2.1]) l3))
      else none
    else
      Option.bind (Ds_l1Cur_one b1 24) fun r2 =>
      if r2.1 = true then
        if (l2 ++ [3]).length * 8 ≤ 70368744177664 then
          some (.inr ((Gi_Climate.mk l3), (l2 ++ [3])))
        else none
      else
        some (.inr ((Gi_Climate.mk l3), l2))
noncomputable def Ds_DrawLikelihoodOf (a0 : (List Int)) : Option (Gi_Climate × (List Int)) :=
  Option.bind (Ds_l1Cur_anyClimate (Gs_l1Cur.mk a0 0 0)) fun r1 =>
  Option.bind (Ds_l1Cur_pick r1.2 9) fun r2 =>
  loop Bs_DrawLikelihoodOf (.h1 r2.1 r2.2 ([] : List Int) r1.1.Weights)
/-! loop example/g00886/impl LikelihoodOf 1 -/
noncomputable def Di_LikelihoodOf_1 (a0 : Int) : Option (Bool) :=
  Option.bind (Di_isWeather a0) fun r1 =>
  some (!r1)
/-! slices IndexFunc   int int  -/
inductive Sslices_IndexFunc_int_i_LikelihoodOf_1 where
  | h1 (s0 : (List Int)) (t1 : Int) (t2 : Int)
noncomputable def Bslices_IndexFunc_int_i_LikelihoodOf_1 : Sslices_IndexFunc_int_i_LikelihoodOf_1 → Option (Sslices_IndexFunc_int_i_LikelihoodOf_1 ⊕ (Int))
  | .h1 s0 t1 t2 =>
    if t2 < t1 then
      if 0 ≤ t2 then
        Option.bind (s0[(Int.toNat t2)]?) fun x3 =>
        Option.bind (Di_LikelihoodOf_1 x3) fun r4 =>
        if r4 = true then
          some (.inr t2)
        else
          some (.inl (.h1 s0 t1 (IntKind.wrap .i64 (t2 + 1))))
      else none
    else
      some (.inr (-1))
noncomputable def Dslices_IndexFunc_int_i_LikelihoodOf_1 (a0 : (List Int)) : Option (Int) :=
  loop Bslices_IndexFunc_int_i_LikelihoodOf_1 (.h1 a0 ((a0.length : Nat) : Int) 0)
/-! slices ContainsFunc   int int  -/
noncomputable def Dslices_ContainsFunc_int_i_LikelihoodOf_1 (a0 : (List Int)) : Option (Bool) :=
  Option.bind (Dslices_IndexFunc_int_i_LikelihoodOf_1 a0) fun r1 =>
  some (decide (r1 ≥ 0))
/-! loop example/g00886/impl LikelihoodOf -/
noncomputable def Di_LikelihoodOf (a0 : Gi_Climate) (a1 : (List Int)) : Option (Int × Bool) :=
  Option.bind (Di_IsClimate a0) fun r1 =>
  if r1 = true then
    Option.bind (Di_inRange ((a1.length : Nat) : Int) 1 7) fun r3 =>
    if r3 = true then
      Option.bind (Dslices_ContainsFunc_int_i_LikelihoodOf_1 a1) fun r5 =>
      if r5 = true then
        some (0, false)
      else
        Option.bind (Di_likelihood a0 a1) fun r7 =>
        some (r7, true)
    else
      some (0, false)
  else
    some (0, false)
/-! loop example/g00886/spec LikelihoodOf -/
noncomputable def Ds_LikelihoodOf (a0 : Gi_Climate) (a1 : (List Int)) : Option (Int × Bool) :=
  Option.bind (Ds_wGood a0) fun r1 =>
  if r1 = true then
    Option.bind (Ds_l1In ((a1.length : Nat) : Int) 1 7) fun r3 =>
    if r3 = true then
      Option.bind (Ds_l1All a1 0 2) fun r5 =>
      if r5 = true then
        Option.bind (Ds_wLikelihood a0 a1) fun r7 =>
        some (r7, true)
      else
        some (0, false)
    else
      some (0, false)
  else
    some (0, false)
/-! loop example/g00886/spec DrawCanFollow -/
noncomputable def Ds_DrawCanFollow (a0 : (List Int)) : Option (Gi_Climate × Int × Int) :=
  Option.bind (Ds_l1Cur_anyClimate (Gs_l1Cur.mk a0 0 0)) fun r1 =>
  Option.bind (Ds_l1Cur_weatherOf r1.2) fun r2 =>
  Option.bind (Ds_l1Cur_weatherOf r2.2) fun r3 =>
  some (r1.1, r2.1, r3.1)
/-! loop example/g00886/impl chancesAfter -/
inductive Si_chancesAfter where
  | h1 (t0 : Int) (t1 : Int) (b2 : Gi_Climate) (l3 : (List Int))
  | h2 (t0 : Int) (t1 : Int) (t2 : Int) (t3 : Int) (b4 : Gi_Climate) (l5 : (List Int)) (l6 : (List Int))
  | h3 (many0 : Int) (t1 : Int) (t2 : Int) (t3 : Int) (t4 : Int) (t5 : (List Int)) (t6 : Int) (t7 : Int) (b8 : Gi_Climate) (l9 : (List Int)) (l10 : (List Int))
noncomputable def Bi_chancesAfter : Si_chancesAfter → Option (Si_chancesAfter ⊕ ((List Int)))
  | .h1 t0 t1 b2 l3 =>
    if t1 < t0 then
      if Int.toNat 3 * 8 ≤ 140737488355328 then
        some (.inl (.h2 t0 t1 ((l3.length : Nat) : Int) 0 b2 (List.replicate (Int.toNat 3) (0 : Int)) l3))
      else none
    else
      some (.inr l3)
  | .h2 t0 t1 t2 t3 b4 l5 l6 =>
    if t3 < t2 then
      if 0 ≤ t3 then
        Option.bind (l6[(Int.toNat t3)]?) fun x3 =>
        if 0 ≤ t3 then
          Option.bind (b4.Weights[(Int.toNat t3)]?) fun x5 =>
          some (.inl (.h3 x3 t0 t1 t2 t3 x5 ((x5.length : Nat) : Int) 0 b4 l5 l6))
        else none
      else none
    else
      some (.inl (.h1 t0 (IntKind.wrap .i64 (t1 + 1)) b4 l5))
  | .h3 many0 t1 t2 t3 t4 t5 t6 t7 b8 l9 l10 =>
    if t7 < t6 then
      if 0 ≤ t7 then
        Option.bind (t5[(Int.toNat t7)]?) fun x3 =>
        if 0 ≤ t7 then
          Option.bind (l9[(Int.toNat t7)]?) fun x5 =>
          if 0 ≤ t7 then
            Option.bind (l9[(Int.toNat t7)]?) fun x7 =>
            some (.inl (.h3 many0 t1 t2 t3 t4 t5 t6 (IntKind.wrap .i64 (t7 + 1)) b8 (List.set l9 (Int.toNat t7) (IntKind.wrap .i64 (x5 + (IntKind.wrap .i64 (many0 * x3))))) l10))
          else none
        else none
      else none
    else
      some (.inl (.h2 t1 t2 t3 (IntKind.wrap .i64 (t4 + 1)) b8 l9 l10))
noncomputable def Di_chancesAfter (a0 : Gi_Climate) (a1 : Int) (a2 : Int) : Option ((List Int)) :=
  if Int.toNat 3 * 8 ≤ 140737488355328 then
    if 0 ≤ a1 then
      Option.bind ((List.replicate (Int.toNat 3) (0 : Int))[(Int.toNat a1)]?) fun x3 =>
      loop Bi_chancesAfter (.h1 a2 0 a0 (List.set (List.replicate (Int.toNat 3) (0 : Int)) (Int.toNat a1) 1))
    else none
  else none
/-! loop example/g00886/impl CanFollow -/
inductive Si_CanFollow where
  | h1 (w0 : Int) (vx1 : Int) (n2 : Int) (b3 : Gi_Climate)
noncomputable def Bi_CanFollow : Si_CanFollow → Option (Si_CanFollow ⊕ (Bool × Bool))
  | .h1 w0 vx1 n2 b3 =>
    if n2 ≤ 3 then
      Option.bind (Di_chancesAfter b3 w0 n2) fun r2 =>
      if 0 ≤ vx1 then
        Option.bind (r2[(Int.toNat vx1)]?) fun x4 =>
        if x4 > 0 then
          some (.inr (true, true))
        else
          some (.inl (.h1 w0 vx1 (IntKind.wrap .i64 (n2 + 1)) b3))
      else none
    else
      some (.inr (false, true))
noncomputable def Di_CanFollow (a0 : Gi_Climate) (a1 : Int) (a2 : Int) : Option (Bool × Bool) :=
  Option.bind (Di_isWeatherOf a0 a1) fun r1 =>
  if r1 = true then
    Option.bind (Di_isWeather a2) fun r3 =>
    if r3 = true then
      loop Bi_CanFollow (.h1 a1 a2 1 a0)
    else
      some (false, false)
  else
    some (false, false)
/-! loop example/g00886/spec wChances -/
inductive Ss_wChances where
  | h1 (n0 : Int) (b1 : Gi_Climate) (l2 : (List Int))
  | h2 (n0 : Int) (t1 : Int) (t2 : Int) (b3 : Gi_Climate) (l4 : (List Int)) (l5 : (List Int))
  | h3 (n0 : Int) (vx1 : Int) (t2 : Int) (t3 : Int) (t4 : (List Int)) (t5 : Int) (t6 : Int) (b7 : Gi_Climate) (l8 : (List Int)) (l9 : (List Int))
noncomputable def Bs_wChances : Ss_wChances → Option (Ss_wChances ⊕ ((List Int)))
  | .h1 n0 b1 l2 =>
    if n0 > 0 then
      if Int.toNat 3 * 8 ≤ 140737488355328 then
        some (.inl (.h2 n0 ((l2.length : Nat) : Int) 0 b1 (List.replicate (Int.toNat 3) (0 : Int)) l2))
      else none
    else
      some (.inr l2)
  | .h2 n0 t1 t2 b3 l4 l5 =>
    if t2 < t1 then
      if 0 ≤ t2 then
        Option.bind (l5[(Int.toNat t2)]?) fun x3 =>
        if 0 ≤ t2 then
          Option.bind (b3.Weights[(Int.toNat t2)]?) fun x5 =>
          some (.inl (.h3 n0 x3 t1 t2 x5 ((x5.length : Nat) : Int) 0 b3 l4 l5))
        else none
      else none
    else
      some (.inl (.h1 (IntKind.wrap .i64 (n0 - 1)) b3 l4))
  | .h3 n0 vx1 t2 t3 t4 t5 t6 b7 l8 l9 =>
    if t6 < t5 then
      if 0 ≤ t6 then
        Option.bind (t4[(Int.toNat t6)]?) fun x3 =>
        if 0 ≤ t6 then
          Option.bind (l8[(Int.toNat t6)]?) fun x5 =>
          if 0 ≤ t6 then
            Option.bind (l8[(Int.toNat t6)]?) fun x7 =>
            some (.inl (.h3 n0 vx1 t2 t3 t4 t5 (IntKind.wrap .i64 (t6 + 1)) b7 (List.set l8 (Int.toNat t6) (IntKind.wrap .i64 (x5 + (IntKind.wrap .i64 (vx1 * x3))))) l9))
          else none
        else none
      else none
    else
      some (.inl (.h2 n0 t2 (IntKind.wrap .i64 (t3 + 1)) b7 l8 l9))
noncomputable def Ds_wChances (a0 : Gi_Climate) (a1 : Int) (a2 : Int) : Option ((List Int)) :=
  if Int.toNat 3 * 8 ≤ 140737488355328 then
    if 0 ≤ a1 then
      Option.bind ((List.replicate (Int.toNat 3) (0 : Int))[(Int.toNat a1)]?) fun x3 =>
      loop Bs_wChances (.h1 a2 a0 (List.set (List.replicate (Int.toNat 3) (0 : Int)) (Int.toNat a1) 1))
    else none
  else none
/-! loop example/g00886/spec CanFollow -/
inductive Ss_CanFollow where
  | h1 (w0 : Int) (vx1 : Int) (n2 : Int) (b3 : Gi_Climate)
noncomputable def Bs_CanFollow : Ss_CanFollow → Option (Ss_CanFollow ⊕ (Bool × Bool))
  | .h1 w0 vx1 n2 b3 =>
    if n2 ≤ 3 then
      Option.bind (Ds_wChances b3 w0 n2) fun r2 =>
      if 0 ≤ vx1 then
        Option.bind (r2[(Int.toNat vx1)]?) fun x4 =>
        if x4 > 0 then
          some (.inr (true, true))
        else
          some (.inl (.h1 w0 vx1 (IntKind.wrap .i64 (n2 + 1)) b3))
      else none
    else
      some (.inr (false, true))
noncomputable def Ds_CanFollow (a0 : Gi_Climate) (a1 : Int) (a2 : Int) : Option (Bool × Bool) :=
  Option.bind (Ds_wAsked a0 a1) fun r1 =>
  if r1 = true then
    Option.bind (Ds_l1In a2 0 2) fun r3 =>
    if r3 = true then
      loop Bs_CanFollow (.h1 a1 a2 1 a0)
    else
      some (false, false)
  else
    some (false, false)
/-! slices Index   int int  -/
inductive Sslices_Index_int where
  | h1 (s0 : (List Int)) (v1 : Int) (t2 : Int) (t3 : Int)
noncomputable def Bslices_Index_int : Sslices_Index_int → Option (Sslices_Index_int ⊕ (Int))
  | .h1 s0 v1 t2 t3 =>
    if t3 < t2 then
      if 0 ≤ t3 then
        Option.bind (s0[(Int.toNat t3)]?) fun x3 =>
        if (v1 : Int) = x3 then
          some (.inr t3)
        else
          some (.inl (.h1 s0 v1 t2 (IntKind.wrap .i64 (t3 + 1))))
      else none
    else
      some (.inr (-1))
noncomputable def Dslices_Index_int (a0 : (List Int)) (a1 : Int) : Option (Int) :=
  loop Bslices_Index_int (.h1 a0 a1 ((a0.length : Nat) : Int) 0)
/-! slices Contains   int int  -/
noncomputable def Dslices_Contains_int (a0 : (List Int)) (a1 : Int) : Option (Bool) :=
  Option.bind (Dslices_Index_int a0 a1) fun r1 =>
  some (decide (r1 ≥ 0))
/-! loop example/g00886/impl EvenTurn -/
inductive Si_EvenTurn where
  | h1 (w0 : Int) (most1 : Int) (n2 : Int) (b3 : Gi_Climate)
noncomputable def Bi_EvenTurn : Si_EvenTurn → Option (Si_EvenTurn ⊕ (Int × Bool))
  | .h1 w0 most1 n2 b3 =>
    if n2 ≤ most1 then
      Option.bind (Di_chancesAfter b3 w0 n2) fun r2 =>
      Option.bind (Dslices_Contains_int r2 0) fun r3 =>
      if r3 = true then
        some (.inl (.h1 w0 most1 (IntKind.wrap .i64 (n2 + 1)) b3))
      else
        some (.inr (n2, true))
    else
      some (.inr (0, false))
noncomputable def Di_EvenTurn (a0 : Gi_Climate) (a1 : Int) (a2 : Int) : Option (Int × Bool) :=
  Option.bind (Di_isWeatherOf a0 a1) fun r1 =>
  if r1 = true then
    Option.bind (Di_inRange a2 1 6) fun r3 =>
    if r3 = true then
      loop Bi_EvenTurn (.h1 a1 a2 1 a0)
    else
      some (0, false)
  else
    some (0, false)
/-! loop example/g00886/spec EvenTurn -/
inductive Ss_EvenTurn where
  | h1 (w0 : Int) (most1 : Int) (n2 : Int) (b3 : Gi_Climate)
noncomputable def Bs_EvenTurn : Ss_EvenTurn → Option (Ss_EvenTurn ⊕ (Int × Bool))
  | .h1 w0 most1 n2 b3 =>
    if n2 ≤ most1 then
      Option.bind (Ds_wChances b3 w0 n2) fun r2 =>
      Option.bind (r2[(Int.toNat 0)]?) fun x3 =>
      if x3 > 0 then
        Option.bind (r2[(Int.toNat 1)]?) fun x5 =>
        if x5 > 0 then
          Option.bind (r2[(Int.toNat 2)]?) fun x7 =>
          if x7 > 0 then
            some (.inr (n2, true))
          else
            some (.inl (.h1 w0 most1 (IntKind.wrap .i64 (n2 + 1)) b3))
        else
          some (.inl (.h1 w0 most1 (IntKind.wrap .i64 (n2 + 1)) b3))
      else
        some (.inl (.h1 w0 most1 (IntKind.wrap .i64 (n2 + 1)) b3))
    else
      some (.inr (0, false))
noncomputable def Ds_EvenTurn (a0 : Gi_Climate) (a1 : Int) (a2 : Int) : Option (Int × Bool) :=
  Option.bind (Ds_wAsked a0 a1) fun r1 =>
  if r1 = true then
    Option.bind (Ds_l1In a2 1 6) fun r3 =>
    if r3 = true then
      loop Bs_EvenTurn (.h1 a1 a2 1 a0)
    else
      some (0, false)
  else
    some (0, false)
/-! loop example/g00886/laws FnForecasts -/
noncomputable def Dw_FnForecasts (a0 : (List Int)) (a1 : (List Int)) : Option (Bool) :=
  Option.bind (Dw_big a0 a1) fun r1 =>
  if r1 = true then
    some true
  else
    Option.bind (Ds_DrawMostLikely a0) fun r3 =>
    Option.bind (Di_MostLikely r3.1 r3.2.1 r3.2.2) fun r4 =>
    Option.bind (Ds_MostLikely r3.1 r3.2.1 r3.2.2) fun r5 =>
    if (!(r4.2 == r5.2)) = true then
      some false
    else
      Option.bind (Dw_sameInts r4.1 r5.1) fun r7 =>
      if r7 = true then
        Option.bind (Ds_DrawLikelihoodOf a1) fun r9 =>
        Option.bind (Di_LikelihoodOf r9.1 r9.2) fun r10 =>
        if r10.2 = true then
          Option.bind (Ds_LikelihoodOf r9.1 r9.2) fun r12 =>
          if (!(true == r12.2)) = true then
            some false
          else
            if (r10.1 : Int) = r12.1 then
              Option.bind (r9.2[(Int.toNat 0)]?) fun x15 =>
              Option.bind (Di_MostLikely r9.1 x15 (IntKind.wrap .i64 (((r9.2.length : Nat) : Int) - 1))) fun r16 =>
              if r16.2 = true then
                Option.bind (r9.2[(Int.toNat 0)]?) fun x18 =>
                if ([x18] ++ r16.1).length * 8 ≤ 70368744177664 then
                  Option.bind (Di_LikelihoodOf r9.1 ([x18] ++ r16.1)) fun r20 =>
                  if r20.2 = true then
                    if r20.1 < r10.1 then
                      some false
                    else
                      Option.bind (Ds_DrawCanFollow a1) fun r23 =>
                      Option.bind (Di_CanFollow r23.1 r23.2.1 r23.2.2) fun r24 =>
                      Option.bind (Ds_CanFollow r23.1 r23.2.1 r23.2.2) fun r25 =>
                      Option.bind (Di_EvenTurn r3.1 r3.2.1 r3.2.2) fun r26 =>
                      Option.bind (Ds_EvenTurn r3.1 r3.2.1 r3.2.2) fun r27 =>
                      if (r24.2 == r25.2) = true then
                        if (r24.1 == r25.1) = true then
                          if (r26.2 == r27.2) = true then
                            some ((r26.1 : Int) == r27.1)
                          else
                            some false
                        else
                          some false
                      else
                        some false
                  else
                    some false
                else none
              else
                some false
            else
              some false
        else
          Option.bind (Ds_LikelihoodOf r9.1 r9.2) fun r12 =>
          if (!(false == r12.2)) = true then
            some false
          else
            if (r10.1 : Int) = r12.1 then
              Option.bind (Ds_DrawCanFollow a1) fun r15 =>
              Option.bind (Di_CanFollow r15.1 r15.2.1 r15.2.2) fun r16 =>
              Option.bind (Ds_CanFollow r15.1 r15.2.1 r15.2.2) fun r17 =>
              Option.bind (Di_EvenTurn r3.1 r3.2.1 r3.2.2) fun r18 =>
              Option.bind (Ds_EvenTurn r3.1 r3.2.1 r3.2.2) fun r19 =>
              if (r16.2 == r17.2) = true then
                if (r16.1 == r17.1) = true then
                  if (r18.2 == r19.2) = true then
                    some ((r18.1 : Int) == r19.1)
                  else
                    some false
                else
                  some false
              else
                some false
            else
              some false
      else
        some false
end Go.Proofs.Ytfnhclmdobdkbaa.Ab
