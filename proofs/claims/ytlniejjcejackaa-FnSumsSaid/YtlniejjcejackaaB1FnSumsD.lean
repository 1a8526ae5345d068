/- Part of the proof of FnSums: no condition of its own. -/
import Derived.Test.YtlniejjcejackaaAb4
set_option linter.unusedVariables false
set_option linter.unusedSimpArgs false
open Go
namespace Go.Proofs.Ytlniejjcejackaa.Ab
structure Gs_l1Cur where
  mk ::
  code : (List Int)
  at_ : Int
  seed : Int
def gs_l1Cur (x : Gs_l1Cur) : D := .agg [sl 1 (D.int .u8) x.code, I x.at_, .int .u64 x.seed]

/-! loop example/g00886/laws big -/
noncomputable def Dw_big (a0 : (List Int)) (a1 : (List Int)) : Option (Bool) :=
  if ((a0.length : Nat) : Int) > 1048576 then
    some true
  else
    some (decide (((a1.length : Nat) : Int) > (IntKind.wrap .i64 (1048576 - ((a0.length : Nat) : Int)))))
/-!   loop example/g00886/spec l1Cur  next -/
noncomputable def Ds_l1Cur_next (a0 : Gs_l1Cur) : Option (Int × Gs_l1Cur) :=
  if a0.at_ < ((a0.code.length : Nat) : Int) then
    if 0 ≤ a0.at_ then
      Option.bind (a0.code[(Int.toNat a0.at_)]?) fun x3 =>
      if (IntKind.wrap .i64 (a0.at_ + 1)) ≤ ((a0.code.length : Nat) : Int) then
        some ((IntKind.wrap .i64 x3), (Gs_l1Cur.mk a0.code (IntKind.wrap .i64 (a0.at_ + 1)) (IntKind.wrap .u64 ((IntKind.wrap .u64 ((IntKind.wrap .u64 (a0.seed * 6364136223846793005)) + (IntKind.wrap .u64 (IntKind.wrap .i64 x3)))) + 1442695040888963407))))
      else
        some ((IntKind.wrap .i64 (IntKind.wrap .u64 ((BitVec.toNat (BitVec.ofInt (IntKind.bits .u64) (Int.fdiv (IntKind.wrap .u64 ((IntKind.wrap .u64 ((IntKind.wrap .u64 (a0.seed * 6364136223846793005)) + (IntKind.wrap .u64 (IntKind.wrap .i64 x3)))) + 1442695040888963407)) (2 ^ min (Int.toNat 40) (IntKind.bits .u64))) &&& BitVec.ofInt (IntKind.bits .u64) 255) : Nat) : Int))), (Gs_l1Cur.mk a0.code (IntKind.wrap .i64 (a0.at_ + 1)) (IntKind.wrap .u64 ((IntKind.wrap .u64 ((IntKind.wrap .u64 (a0.seed * 6364136223846793005)) + (IntKind.wrap .u64 (IntKind.wrap .i64 x3)))) + 1442695040888963407))))
    else none
  else
    if (IntKind.wrap .i64 (a0.at_ + 1)) ≤ ((a0.code.length : Nat) : Int) then
      some (0, (Gs_l1Cur.mk a0.code (IntKind.wrap .i64 (a0.at_ + 1)) (IntKind.wrap .u64 ((IntKind.wrap .u64 ((IntKind.wrap .u64 (a0.seed * 6364136223846793005)) + (IntKind.wrap .u64 0))) + 1442695040888963407))))
    else
      some ((IntKind.wrap .i64 (IntKind.wrap .u64 ((BitVec.toNat (BitVec.ofInt (IntKind.bits .u64) (Int.fdiv (IntKind.wrap .u64 ((IntKind.wrap .u64 ((IntKind.wrap .u64 (a0.seed * 6364136223846793005)) + (IntKind.wrap .u64 0))) + 1442695040888963407)) (2 ^ min (Int.toNat 40) (IntKind.bits .u64))) &&& BitVec.ofInt (IntKind.bits .u64) 255) : Nat) : Int))), (Gs_l1Cur.mk a0.code (IntKind.wrap .i64 (a0.at_ + 1)) (IntKind.wrap .u64 ((IntKind.wrap .u64 ((IntKind.wrap .u64 (a0.seed * 6364136223846793005)) + (IntKind.wrap .u64 0))) + 1442695040888963407))))
/-!   loop example/g00886/spec l1Cur  pick -/
noncomputable def Ds_l1Cur_pick (a0 : Gs_l1Cur) (a1 : Int) : Option (Int × Gs_l1Cur) :=
  if a1 ≤ 1 then
    some (0, a0)
  else
    Option.bind (Ds_l1Cur_next a0) fun r2 =>
    if a1 > 200 then
      Option.bind (Ds_l1Cur_next r2.2) fun r4 =>
      if ¬ a1 = 0 then
        some ((Int.tmod (IntKind.wrap .i64 ((IntKind.wrap .i64 (r2.1 * 256)) + r4.1)) a1), r4.2)
      else none
    else
      if ¬ a1 = 0 then
        some ((Int.tmod r2.1 a1), r2.2)
      else none
/-!   loop example/g00886/spec l1Cur  among -/
noncomputable def Ds_l1Cur_among (a0 : Gs_l1Cur) (a1 : (List Int)) : Option (Int × Gs_l1Cur) :=
  Option.bind (Ds_l1Cur_pick a0 ((a1.length : Nat) : Int)) fun r1 =>
  if 0 ≤ r1.1 then
    Option.bind (a1[(Int.toNat r1.1)]?) fun x3 =>
    some (x3, r1.2)
  else none
/-! loop example/g00886/spec DrawSumWays -/
noncomputable def Ds_DrawSumWays (a0 : (List Int)) : Option (Int × Int) :=
  Option.bind (Ds_l1Cur_pick (Gs_l1Cur.mk a0 0 0) 10) fun r1 =>
  Option.bind (Ds_l1Cur_pick r1.2 20) fun r2 =>
  Option.bind (Ds_l1Cur_among r2.2 [0, 1, (IntKind.wrap .i64 (2 * (IntKind.wrap .i64 (r1.1 - (IntKind.wrap .i64 (Int.tdiv r2.1 19)))))), 7, (IntKind.wrap .i64 ((IntKind.wrap .i64 (3 * (IntKind.wrap .i64 (r1.1 - (IntKind.wrap .i64 (Int.tdiv r2.1 19)))))) + 1)), (IntKind.wrap .i64 (6 * (IntKind.wrap .i64 (r1.1 - (IntKind.wrap .i64 (Int.tdiv r2.1 19)))))), (IntKind.wrap .i64 ((IntKind.wrap .i64 (6 * (IntKind.wrap .i64 (r1.1 - (IntKind.wrap .i64 (Int.tdiv r2.1 19)))))) + 1)), (-1), 100, 101]) fun r3 =>
  some ((IntKind.wrap .i64 (r1.1 - (IntKind.wrap .i64 (Int.tdiv r2.1 19)))), r3.1)
/-! loop example/g00886/impl inRange -/
noncomputable def Di_inRange (a0 : Int) (a1 : Int) (a2 : Int) : Option (Bool) :=
  if a1 ≤ a0 then
    some (decide (a0 ≤ a2))
  else
    some false
/-! loop example/g00886/impl waysOf -/
inductive Si_waysOf where
  | h1 (t0 : Int) (t1 : Int) (l2 : (List Int))
  | h2 (t0 : Int) (t1 : Int) (t2 : Int) (t3 : Int) (l4 : (List Int)) (l5 : (List Int))
  | h3 (sum0 : Int) (ways1 : Int) (face2 : Int) (t3 : Int) (t4 : Int) (t5 : Int) (t6 : Int) (l7 : (List Int)) (l8 : (List Int))
noncomputable def Bi_waysOf : Si_waysOf → Option (Si_waysOf ⊕ ((List Int)))
  | .h1 t0 t1 l2 =>
    if t1 < t0 then
      if 0 ≤ (IntKind.wrap .i64 (((l2.length : Nat) : Int) + 6)) then
        if Int.toNat (IntKind.wrap .i64 (((l2.length : Nat) : Int) + 6)) * 8 ≤ 140737488355328 then
          some (.inl (.h2 t0 t1 ((l2.length : Nat) : Int) 0 (List.replicate (Int.toNat (IntKind.wrap .i64 (((l2.length : Nat) : Int) + 6))) (0 : Int)) l2))
        else none
      else none
    else
      some (.inr l2)
  | .h2 t0 t1 t2 t3 l4 l5 =>
    if t3 < t2 then
      if 0 ≤ t3 then
        Option.bind (l5[(Int.toNat t3)]?) fun x3 =>
        some (.inl (.h3 t3 x3 1 t0 t1 t2 t3 l4 l5))
      else none
    else
      some (.inl (.h1 t0 (IntKind.wrap .i64 (t1 + 1)) l4))
  | .h3 sum0 ways1 face2 t3 t4 t5 t6 l7 l8 =>
    if face2 ≤ 6 then
      if 0 ≤ (IntKind.wrap .i64 (sum0 + face2)) then
        Option.bind (l7[(Int.toNat (IntKind.wrap .i64 (sum0 + face2)))]?) fun x3 =>
        if 0 ≤ (IntKind.wrap .i64 (sum0 + face2)) then
          Option.bind (l7[(Int.toNat (IntKind.wrap .i64 (sum0 + face2)))]?) fun x5 =>
          some (.inl (.h3 sum0 ways1 (IntKind.wrap .i64 (face2 + 1)) t3 t4 t5 t6 (List.set l7 (Int.toNat (IntKind.wrap .i64 (sum0 + face2))) (IntKind.wrap .i64 (x3 + ways1))) l8))
        else none
      else none
    else
      some (.inl (.h2 t3 t4 t5 (IntKind.wrap .i64 (t6 + 1)) l7 l8))
noncomputable def Di_waysOf (a0 : Int) : Option ((List Int)) :=
  loop Bi_waysOf (.h1 a0 0 [1])
/-! loop example/g00886/impl isIndex -/
noncomputable def Di_isIndex (a0 : Int) (a1 : Int) : Option (Bool) :=
  Option.bind (Di_inRange a0 0 (IntKind.wrap .i64 (a1 - 1))) fun r1 =>
  some r1
/-! loop example/g00886/impl SumWays -/
noncomputable def Di_SumWays (a0 : Int) (a1 : Int) : Option (Int × Bool) :=
  Option.bind (Di_inRange a0 0 8) fun r1 =>
  if r1 = true then
    Option.bind (Di_inRange a1 (-100) 100) fun r3 =>
    if r3 = true then
      Option.bind (Di_waysOf a0) fun r5 =>
      Option.bind (Di_isIndex a1 ((r5.length : Nat) : Int)) fun r6 =>
      if r6 = true then
        if 0 ≤ a1 then
          Option.bind (r5[(Int.toNat a1)]?) fun x9 =>
          some (x9, true)
        else none
      else
        some (0, true)
    else
      some (0, false)
  else
    some (0, false)
/-! loop example/g00886/spec l1In -/
noncomputable def Ds_l1In (a0 : Int) (a1 : Int) (a2 : Int) : Option (Bool) :=
  if a0 ≥ a1 then
    some (decide (a0 ≤ a2))
  else
    some false
/-! loop example/g00886/spec dSumAsked -/
noncomputable def Ds_dSumAsked (a0 : Int) (a1 : Int) : Option (Bool) :=
  Option.bind (Ds_l1In a0 0 8) fun r1 =>
  if r1 = true then
    Option.bind (Ds_l1In a1 (-100) 100) fun r3 =>
    some r3
  else
    some false
/-! loop example/g00886/spec dWays -/
inductive Ss_dWays where
  | h1 (n0 : Int) (l1 : (List Int))
  | h2 (n0 : Int) (t1 : Int) (t2 : Int) (l3 : (List Int)) (l4 : (List Int))
  | h3 (n0 : Int) (s1 : Int) (w2 : Int) (f3 : Int) (t4 : Int) (t5 : Int) (l6 : (List Int)) (l7 : (List Int))
noncomputable def Bs_dWays : Ss_dWays → Option (Ss_dWays ⊕ ((List Int)))
  | .h1 n0 l1 =>
    if n0 > 0 then
      if 0 ≤ (IntKind.wrap .i64 (((l1.length : Nat) : Int) + 6)) then
        if Int.toNat (IntKind.wrap .i64 (((l1.length : Nat) : Int) + 6)) * 8 ≤ 140737488355328 then
          some (.inl (.h2 n0 ((l1.length : Nat) : Int) 0 (List.replicate (Int.toNat (IntKind.wrap .i64 (((l1.length : Nat) : Int) + 6))) (0 : Int)) l1))
        else none
      else none
    else
      some (.inr l1)
  | .h2 n0 t1 t2 l3 l4 =>
    if t2 < t1 then
      if 0 ≤ t2 then
        Option.bind (l4[(Int.toNat t2)]?) fun x3 =>
        some (.inl (.h3 n0 t2 x3 1 t1 t2 l3 l4))
      else none
    else
      some (.inl (.h1 (IntKind.wrap .i64 (n0 - 1)) l3))
  | .h3 n0 s1 w2 f3 t4 t5 l6 l7 =>
    if f3 ≤ 6 then
      if 0 ≤ (IntKind.wrap .i64 (s1 + f3)) then
        Option.bind (l6[(Int.toNat (IntKind.wrap .i64 (s1 + f3)))]?) fun x3 =>
        if 0 ≤ (IntKind.wrap .i64 (s1 + f3)) then
          Option.bind (l6[(Int.toNat (IntKind.wrap .i64 (s1 + f3)))]?) fun x5 =>
          some (.inl (.h3 n0 s1 w2 (IntKind.wrap .i64 (f3 + 1)) t4 t5 (List.set l6 (Int.toNat (IntKind.wrap .i64 (s1 + f3))) (IntKind.wrap .i64 (x3 + w2))) l7))
        else none
      else none
    else
      some (.inl (.h2 n0 t4 (IntKind.wrap .i64 (t5 + 1)) l6 l7))
noncomputable def Ds_dWays (a0 : Int) : Option ((List Int)) :=
  loop Bs_dWays (.h1 a0 [1])
/-! loop example/g00886/spec SumWays -/
noncomputable def Ds_SumWays (a0 : Int) (a1 : Int) : Option (Int × Bool) :=
  Option.bind (Ds_dSumAsked a0 a1) fun r1 =>
  if r1 = true then
    Option.bind (Ds_dWays a0) fun r3 =>
    Option.bind (Ds_l1In a1 0 (IntKind.wrap .i64 (((r3.length : Nat) : Int) - 1))) fun r4 =>
    if r4 = true then
      if 0 ≤ a1 then
        Option.bind (r3[(Int.toNat a1)]?) fun x7 =>
        some (x7, true)
      else none
    else
      some (0, true)
  else
    some (0, false)
/-! loop example/g00886/impl WaysAtLeast -/
inductive Si_WaysAtLeast where
  | h1 (sum0 : Int) (many1 : Int) (t2 : Int) (t3 : Int) (l4 : (List Int))
noncomputable def Bi_WaysAtLeast : Si_WaysAtLeast → Option (Si_WaysAtLeast ⊕ (Int × Bool))
  | .h1 sum0 many1 t2 t3 l4 =>
    if t3 < t2 then
      if 0 ≤ t3 then
        Option.bind (l4[(Int.toNat t3)]?) fun x3 =>
        if t3 ≥ sum0 then
          some (.inl (.h1 sum0 (IntKind.wrap .i64 (many1 + x3)) t2 (IntKind.wrap .i64 (t3 + 1)) l4))
        else
          some (.inl (.h1 sum0 many1 t2 (IntKind.wrap .i64 (t3 + 1)) l4))
      else none
    else
      some (.inr (many1, true))
noncomputable def Di_WaysAtLeast (a0 : Int) (a1 : Int) : Option (Int × Bool) :=
  Option.bind (Di_inRange a0 0 8) fun r1 =>
  if r1 = true then
    Option.bind (Di_inRange a1 (-100) 100) fun r3 =>
    if r3 = true then
      Option.bind (Di_waysOf a0) fun r5 =>
      loop Bi_WaysAtLeast (.h1 a1 0 ((r5.length : Nat) : Int) 0 r5)
    else
      some (0, false)
  else
    some (0, false)
/-! loop example/g00886/spec WaysAtLeast -/
inductive Ss_WaysAtLeast where
  | h1 (sum0 : Int) (total1 : Int) (t2 : Int) (t3 : Int) (l4 : (List Int))
noncomputable def Bs_WaysAtLeast : Ss_WaysAtLeast → Option (Ss_WaysAtLeast ⊕ (Int × Bool))
  | .h1 sum0 total1 t2 t3 l4 =>
    if t3 < t2 then
      if 0 ≤ t3 then
        Option.bind (l4[(Int.toNat t3)]?) fun x3 =>
        if t3 ≥ sum0 then
          some (.inl (.h1 sum0 (IntKind.wrap .i64 (total1 + x3)) t2 (IntKind.wrap .i64 (t3 + 1)) l4))
        else
          some (.inl (.h1 sum0 total1 t2 (IntKind.wrap .i64 (t3 + 1)) l4))
      else none
    else
      some (.inr (total1, true))
noncomputable def Ds_WaysAtLeast (a0 : Int) (a1 : Int) : Option (Int × Bool) :=
  Option.bind (Ds_dSumAsked a0 a1) fun r1 =>
  if r1 = true then
    Option.bind (Ds_dWays a0) fun r3 =>
    loop Bs_WaysAtLeast (.h1 a1 0 ((r3.length : Nat) : Int) 0 r3)
  else
    some (0, false)
/-! loop example/g00886/spec DrawGreatestOf -/
noncomputable def Ds_DrawGreatestOf (a0 : (List Int)) : Option (Int × Int) :=
  Option.bind (Ds_l1Cur_pick (Gs_l1Cur.mk a0 0 0) 10) fun r1 =>
  Option.bind (Ds_l1Cur_pick r1.2 8) fun r2 =>
  some (r1.1, r2.1)
/-! loop example/g00886/impl GreatestOf -/
inductive Si_GreatestOf where
  | h1 (vx0 : Int) (vwith1 : Int) (without2 : Int) (t3 : Int) (t4 : Int)
noncomputable def Bi_GreatestOf : Si_GreatestOf → Option (Si_GreatestOf ⊕ (Int × Bool))
  | .h1 vx0 vwith1 without2 t3 t4 =>
    if t4 < t3 then
      some (.inl (.h1 vx0 (IntKind.wrap .i64 (vwith1 * vx0)) (IntKind.wrap .i64 (without2 * (IntKind.wrap .i64 (vx0 - 1)))) t3 (IntKind.wrap .i64 (t4 + 1))))
    else
      some (.inr ((IntKind.wrap .i64 (vwith1 - without2)), true))
noncomputable def Di_GreatestOf (a0 : Int) (a1 : Int) : Option (Int × Bool) :=
  Option.bind (Di_inRange a0 1 8) fun r1 =>
  if r1 = true then
    Option.bind (Di_inRange a1 1 6) fun r3 =>
    if r3 = true then
      loop Bi_GreatestOf (.h1 a1 1 1 a0 0)
    else
      some (0, false)
  else
    some (0, false)
/-! loop example/g00886/spec GreatestOf -/
inductive Ss_GreatestOf where
  | h1 (n0 : Int) (vx1 : Int) (most2 : Int) (less3 : Int)
noncomputable def Bs_GreatestOf : Ss_GreatestOf → Option (Ss_GreatestOf ⊕ (Int × Bool))
  | .h1 n0 vx1 most2 less3 =>
    if n0 > 0 then
      some (.inl (.h1 (IntKind.wrap .i64 (n0 - 1)) vx1 (IntKind.wrap .i64 (most2 * vx1)) (IntKind.wrap .i64 (less3 * (IntKind.wrap .i64 (vx1 - 1))))))
    else
      some (.inr ((IntKind.wrap .i64 (most2 - less3)), true))
noncomputable def Ds_GreatestOf (a0 : Int) (a1 : Int) : Option (Int × Bool) :=
  Option.bind (Ds_l1In a0 1 8) fun r1 =>
  if r1 = true then
    Option.bind (Ds_l1In a1 1 6) fun r3 =>
    if r3 = true then
      loop Bs_GreatestOf (.h1 a0 a1 1 1)
    else
      some (0, false)
  else
    some (0, false)
/-! loop example/g00886/spec DrawMixNumbers -/
inductive Ss_DrawMixNumbers where
  | h1 (k0 : Int) (b1 : Gs_l1Cur) (l2 : (List Int))
noncomputable def Bs_DrawMixNumbers : Ss_DrawMixNumbers → Option (Ss_DrawMixNumbers ⊕ ((List Int)))
  | .h1 k0 b1 l2 =>
    if k0 > 0 then
      Option.bind (Ds_l1Cur_pick b1 60000) fun r2 =>
      if (l2 ++ [(IntKind.wrap .i64 (r2.1 - 30000))]).length * 8 ≤ 70368744177664 then
        some (.inl (.h1 (IntKind.wrap .i64 (k0 - 1)) r2.2 (l2 ++ [(IntKind.wrap .i64 (r2.1 - 30000))])))
      else none
    else
      Option.bind (Ds_l1Cur_pick b1 24) fun r2 =>
      if (r2.1 : Int) = 0 then
        Option.bind (Ds_l1Cur_pick r2.2 2) fun r4 =>
        if 0 ≤ (IntKind.wrap .i64 (200 + r4.1)) then
          if Int.toNat (IntKind.wrap .i64 (200 + r4.1)) * 8 ≤ 140737488355328 then
            some (.inr (List.replicate (Int.toNat (IntKind.wrap .i64 (200 + r4.1))) (0 : Int)))
          else none
        else none
      else
        if (r2.1 : Int) = 1 then
          Option.bind (Ds_l1Cur_among r2.2 [(-9223372036854775808), 9223372036854775807]) fun r5 =>
          if (l2 ++ [r5.1]).length * 8 ≤ 70368744177664 then
            some (.inr (l2 ++ [r5.1]))
          else none
        else
          some (.inr l2)
noncomputable def Ds_DrawMixNumbers (a0 : (List Int)) : Option ((List Int)) :=
  Option.bind (Ds_l1Cur_pick (Gs_l1Cur.mk a0 0 0) 6) fun r1 =>
  loop Bs_DrawMixNumbers (.h1 r1.1 r1.2 ([] : List Int))
/-! loop example/g00886/impl residue -/
noncomputable def Di_residue (a0 : Int) (a1 : Int) : Option (Int) :=
  if ¬ a1 = 0 then
    if ¬ a1 = 0 then
      some (Int.tmod (IntKind.wrap .i64 ((Int.tmod a0 a1) + a1)) a1)
    else none
  else none
/-! loop example/g00886/impl mixParts 1 -/
noncomputable def Di_mixParts_1 (a0 : Int) (a1 : Int) (a2 : Int) : Option (Int × Int) :=
  Option.bind (Di_residue a0 2147483647) fun r1 =>
  Option.bind (Di_residue a0 2147483629) fun r2 =>
  some ((Int.tmod (IntKind.wrap .i64 ((IntKind.wrap .i64 ((IntKind.wrap .i64 (16807 * a1)) + r1)) + a2)) 2147483647), (Int.tmod (IntKind.wrap .i64 ((IntKind.wrap .i64 ((IntKind.wrap .i64 (39373 * a2)) + r2)) + (Int.tmod (IntKind.wrap .i64 ((IntKind.wrap .i64 ((IntKind.wrap .i64 (16807 * a1)) + r1)) + a2)) 2147483647))) 2147483629))
/-! loop example/g00886/impl mixParts -/
inductive Si_mixParts where
  | h1 (t0 : (List Int)) (t1 : Int) (t2 : Int) (b3 : Int) (b4 : Int)
  | h2 (t0 : Int) (b1 : Int) (b2 : Int)
noncomputable def Bi_mixParts : Si_mixParts → Option (Si_mixParts ⊕ (Int × Int))
  | .h1 t0 t1 t2 b3 b4 =>
    if t2 < t1 then
      if 0 ≤ t2 then
        Option.bind (t0[(Int.toNat t2)]?) fun x3 =>
        Option.bind (Di_mixParts_1 x3 b3 b4) fun r4 =>
        some (.inl (.h1 t0 t1 (IntKind.wrap .i64 (t2 + 1)) r4.1 r4.2))
      else none
    else
      some (.inl (.h2 0 b3 b4))
  | .h2 t0 b1 b2 =>
    if t0 < 3 then
      Option.bind (Di_mixParts_1 1 b1 b2) fun r2 =>
      some (.inl (.h2 (IntKind.wrap .i64 (t0 + 1)) r2.1 r2.2))
    else
      some (.inr (b1, b2))
noncomputable def Di_mixParts (a0 : (List Int)) : Option (Int × Int) :=
  loop Bi_mixParts (.h1 a0 ((a0.length : Nat) : Int) 0 7 (IntKind.wrap .i64 (((a0.length : Nat) : Int) + 1)))
/-! loop example/g00886/impl mix -/
noncomputable def Di_mix (a0 : (List Int)) : Option (Int) :=
  Option.bind (Di_mixParts a0) fun r1 =>
  some (IntKind.wrap .i64 ((IntKind.wrap .i64 (r1.1 * 2 ^ min (Int.toNat 31) (IntKind.bits .i64))) + r1.2))
/-! loop example/g00886/impl MixNumbers -/
noncomputable def Di_MixNumbers (a0 : (List Int)) : Option (Int × Bool) :=
  if ((a0.length : Nat) : Int) > 200 then
    some (0, false)
  else
    Option.bind (Di_mix a0) fun r2 =>
    some (r2, true)
/-! loop example/g00886/spec dMod -/
noncomputable def Ds_dMod (a0 : Int) (a1 : Int) : Option (Int) :=
  if ¬ a1 = 0 then
    if ¬ a1 = 0 then
      some (Int.tmod (IntKind.wrap .i64 ((Int.tmod a0 a1) + a1)) a1)
    else none
  else none
/-! loop example/g00886/spec dMix -/
inductive Ss_dMix where
  | h1 (l0 : (List Int)) (va1 : Int) (b2 : Int) (i3 : Int)
noncomputable def Bs_dMix : Ss_dMix → Option (Ss_dMix ⊕ (Int × Int))
  | .h1 l0 va1 b2 i3 =>
    if i3 < (IntKind.wrap .i64 (((l0.length : Nat) : Int) + 3)) then
      if i3 < ((l0.length : Nat) : Int) then
        if 0 ≤ i3 then
          Option.bind (l0[(Int.toNat i3)]?) fun x4 =>
          Option.bind (Ds_dMod x4 2147483647) fun r5 =>
          Option.bind (Ds_dMod x4 2147483629) fun r6 =>
          some (.inl (.h1 l0 (Int.tmod (IntKind.wrap .i64 ((IntKind.wrap .i64 ((IntKind.wrap .i64 (16807 * va1)) + r5)) + b2)) 2147483647) (Int.tmod (IntKind.wrap .i64 ((IntKind.wrap .i64 ((IntKind.wrap .i64 (39373 * b2)) + r6)) + (Int.tmod (IntKind.wrap .i64 ((IntKind.wrap .i64 ((IntKind.wrap .i64 (16807 * va1)) + r5)) + b2)) 2147483647))) 2147483629) (IntKind.wrap .i64 (i3 + 1))))
        else none
      else
        Option.bind (Ds_dMod 1 2147483647) fun r3 =>
        Option.bind (Ds_dMod 1 2147483629) fun r4 =>
        some (.inl (.h1 l0 (Int.tmod (IntKind.wrap .i64 ((IntKind.wrap .i64 ((IntKind.wrap .i64 (16807 * va1)) + r3)) + b2)) 2147483647) (Int.tmod (IntKind.wrap .i64 ((IntKind.wrap .i64 ((IntKind.wrap .i64 (39373 * b2)) + r4)) + (Int.tmod (IntKind.wrap .i64 ((IntKind.wrap .i64 ((IntKind.wrap .i64 (16807 * va1)) + r3)) + b2)) 2147483647))) 2147483629) (IntKind.wrap .i64 (i3 + 1))))
    else
      some (.inr (va1, b2))
noncomputable def Ds_dMix (a0 : (List Int)) : Option (Int × Int) :=
  loop Bs_dMix (.h1 a0 7 (IntKind.wrap .i64 (((a0.length : Nat) : Int) + 1)) 0)
/-! loop example/g00886/spec dHash -/
noncomputable def Ds_dHash (a0 : (List Int)) : Option (Int) :=
  Option.bind (Ds_dMix a0) fun r1 =>
  some (IntKind.wrap .i64 ((IntKind.wrap .i64 (r1.1 * 2 ^ min (Int.toNat 31) (IntKind.bits .i64))) + r1.2))
/-! loop example/g00886/spec MixNumbers -/
noncomputable def Ds_MixNumbers (a0 : (List Int)) : Option (Int × Bool) :=
  if ((a0.length : Nat) : Int) > 200 then
    some (0, false)
  else
    Option.bind (Ds_dHash a0) fun r2 =>
    some (r2, true)
/-!   loop example/g00886/spec l1Cur  one -/
noncomputable def Ds_l1Cur_one (a0 : Gs_l1Cur) (a1 : Int) : Option (Bool × Gs_l1Cur) :=
  Option.bind (Ds_l1Cur_pick a0 a1) fun r1 =>
  some (((r1.1 : Int) == 0), r1.2)
/-!   loop example/g00886/spec l1Cur  seedOf -/
noncomputable def Ds_l1Cur_seedOf (a0 : Gs_l1Cur) : Option (Int × Gs_l1Cur) :=
  Option.bind (Ds_l1Cur_pick a0 12) fun r1 =>
  if (r1.1 : Int) = 0 then
    some (0, r1.2)
  else
    if (r1.1 : Int) = 1 then
      Option.bind (Ds_l1Cur_among r1.2 [4611686016279904236, 123456789012]) fun r4 =>
      some (r4.1, r4.2)
    else
      Option.bind (Ds_l1Cur_pick r1.2 60000) fun r4 =>
      some (r4.1, r4.2)
/-!   loop example/g00886/spec l1Cur  anySeed -/
noncomputable def Ds_l1Cur_anySeed (a0 : Gs_l1Cur) : Option (Int × Gs_l1Cur) :=
  Option.bind (Ds_l1Cur_one a0 24) fun r1 =>
  if r1.1 = true then
    Option.bind (Ds_l1Cur_among r1.2 [(-1), 4611686016279904237]) fun r3 =>
    some (r3.1, r3.2)
  else
    Option.bind (Ds_l1Cur_seedOf r1.2) fun r3 =>
    some (r3.1, r3.2)
/-!   loop example/g00886/spec l1Cur  of -/
noncomputable def Ds_l1Cur_of (a0 : Gs_l1Cur) (a1 : (List ByteArray)) : Option (ByteArray × Gs_l1Cur) :=
  Option.bind (Ds_l1Cur_pick a0 ((a1.length : Nat) : Int)) fun r1 =>
  if 0 ≤ r1.1 then
    Option.bind (a1[(Int.toNat r1.1)]?) fun x3 =>
    some (x3, r1.2)
  else none
/-! loop example/g00886/spec DrawChildSeed -/
noncomputable def Ds_DrawChildSeed (a0 : (List Int)) : Option (Int × ByteArray) :=
  Option.bind (Ds_l1Cur_anySeed (Gs_l1Cur.mk a0 0 0)) fun r1 =>
  Option.bind (Ds_l1Cur_of r1.2 [⟨#[]⟩, ⟨#[100, 105, 99, 101]⟩, ⟨#[119, 101, 97, 116, 104, 101, 114]⟩, ⟨#[48, 49, 50, 51, 52, 53, 54, 55, 56, 57, 48, 49, 50, 51, 52, 53, 54, 55, 56, 57, 48, 49, 50, 51, 52, 53, 54, 55, 56, 57, 48, 49, 50, 51, 52, 53, 54, 55, 56, 57]⟩, ⟨#[48, 49, 50, 51, 52, 53, 54, 55, 56, 57, 48, 49, 50, 51, 52, 53, 54, 55, 56, 57, 48, 49, 50, 51, 52, 53, 54, 55, 56, 57, 48, 49, 50, 51, 52, 53, 54, 55, 56, 57, 48]⟩]) fun r2 =>
  some (r1.1, r2.1)
/-! loop example/g00886/impl isSeed -/
noncomputable def Di_isSeed (a0 : Int) : Option (Bool) :=
  Option.bind (Di_inRange a0 0 4611686016279904236) fun r1 =>
  some r1
/-! loop example/g00886/impl withBytes -/
inductive Si_withBytes where
  | h1 (s0 : ByteArray) (k1 : Int) (l2 : (List Int))
noncomputable def Bi_withBytes : Si_withBytes → Option (Si_withBytes ⊕ ((List Int)))
  | .h1 s0 k1 l2 =>
    if k1 < ((ByteArray.size s0 : Nat) : Int) then
      if 0 ≤ k1 then
        if k1 < (ByteArray.size s0 : Int) then
          if (l2 ++ [(IntKind.wrap .i64 ((byteAt s0 (Int.toNat k1) : Nat) : Int))]).length * 8 ≤ 70368744177664 then
            some (.inl (.h1 s0 (IntKind.wrap .i64 (k1 + 1)) (l2 ++ [(IntKind.wrap .i64 ((byteAt s0 (Int.toNat k1) : Nat) : Int))])))
          else none
        else none
      else none
    else
      some (.inr l2)
noncomputable def Di_withBytes (a0 : (List Int)) (a1 : ByteArray) : Option ((List Int)) :=
  loop Bi_withBytes (.h1 a1 0 a0)
/-! loop example/g00886/impl ChildSeed -/
noncomputable def Di_ChildSeed (a0 : Int) (a1 : ByteArray) : Option (Int × Bool) :=
  Option.bind (Di_isSeed a0) fun r1 =>
  if r1 = true then
    if ((ByteArray.size a1 : Nat) : Int) > 40 then
      some (0, false)
    else
      Option.bind (Di_withBytes [a0] a1) fun r4 =>
      Option.bind (Di_mix r4) fun r5 =>
      some (r5, true)
  else
    some (0, false)
/-! loop example/g00886/spec dSeed -/
noncomputable def Ds_dSeed (a0 : Int) : Option (Bool) :=
  Option.bind (Ds_l1In a0 0 4611686016279904236) fun r1 =>
  some r1
/-! loop example/g00886/spec dBytes -/
inductive Ss_dBytes where
  | h1 (s0 : ByteArray) (i1 : Int) (l2 : (List Int))
noncomputable def Bs_dBytes : Ss_dBytes → Option (Ss_dBytes ⊕ ((List Int)))
  | .h1 s0 i1 l2 =>
    if i1 < ((ByteArray.size s0 : Nat) : Int) then
      if 0 ≤ i1 then
        if i1 < (ByteArray.size s0 : Int) then
          if (l2 ++ [(IntKind.wrap .i64 ((byteAt s0 (Int.toNat i1) : Nat) : Int))]).length * 8 ≤ 70368744177664 then
            some (.inl (.h1 s0 (IntKind.wrap .i64 (i1 + 1)) (l2 ++ [(IntKind.wrap .i64 ((byteAt s0 (Int.toNat i1) : Nat) : Int))])))
          else none
        else none
      else none
    else
      some (.inr l2)
noncomputable def Ds_dBytes (a0 : ByteArray) : Option ((List Int)) :=
  loop Bs_dBytes (.h1 a0 0 ([] : List Int))
/-! loop example/g00886/spec dChild -/
noncomputable def Ds_dChild (a0 : Int) (a1 : ByteArray) : Option (Int) :=
  Option.bind (Ds_dBytes a1) fun r1 =>
  if ([a0] ++ r1).length * 8 ≤ 70368744177664 then
    Option.bind (Ds_dHash ([a0] ++ r1)) fun r3 =>
    some r3
  else none
/-! loop example/g00886/spec ChildSeed -/
noncomputable def Ds_ChildSeed (a0 : Int) (a1 : ByteArray) : Option (Int × Bool) :=
  Option.bind (Ds_dSeed a0) fun r1 =>
  if r1 = true then
    if ((ByteArray.size a1 : Nat) : Int) > 40 then
      some (0, false)
    else
      Option.bind (Ds_dChild a0 a1) fun r4 =>
      some (r4, true)
  else
    some (0, false)
/-! loop example/g00886/laws FnSums -/
inductive Sw_FnSums where
  | h1 (t0 : (List Int)) (t1 : Int) (t2 : Int) (t3 : Int)
  | h2 (t0 : (List Int))
noncomputable def Bw_FnSums : Sw_FnSums → Option (Sw_FnSums ⊕ (Bool))
  | .h1 t0 t1 t2 t3 =>
    Option.bind (Di_WaysAtLeast t1 t2) fun r1 =>
    if r1.2 = true then
      Option.bind (Ds_WaysAtLeast t1 t2) fun r3 =>
      if (!(true == r3.2)) = true then
        some (.inr false)
      else
        if (r1.1 : Int) = r3.1 then
          if t2 < 100 then
            Option.bind (Di_WaysAtLeast t1 (IntKind.wrap .i64 (t2 + 1))) fun r7 =>
            if r7.2 = true then
              if ((IntKind.wrap .i64 (r3.1 - r7.1)) : Int) = t3 then
                some (.inl (.h2 t0))
              else
                some (.inr false)
            else
              some (.inr false)
          else
            some (.inl (.h2 t0))
        else
          some (.inr false)
    else
      Option.bind (Ds_WaysAtLeast t1 t2) fun r3 =>
      if (!(false == r3.2)) = true then
        some (.inr false)
      else
        if (r1.1 : Int) = r3.1 then
          some (.inl (.h2 t0))
        else
          some (.inr false)
  | .h2 t0 =>
    Option.bind (Ds_DrawGreatestOf t0) fun r1 =>
    Option.bind (Di_GreatestOf r1.1 r1.2) fun r2 =>
    Option.bind (Ds_GreatestOf r1.1 r1.2) fun r3 =>
    Option.bind (Ds_DrawMixNumbers t0) fun r4 =>
    Option.bind (Di_MixNumbers r4) fun r5 =>
    Option.bind (Ds_MixNumbers r4) fun r6 =>
    Option.bind (Ds_DrawChildSeed t0) fun r7 =>
    Option.bind (Di_ChildSeed r7.1 r7.2) fun r8 =>
    Option.bind (Ds_ChildSeed r7.1 r7.2) fun r9 =>
    if (r2.2 == r3.2) = true then
      if (r2.1 : Int) = r3.1 then
        if (r5.2 == r6.2) = true then
          if (r5.1 : Int) = r6.1 then
            if (r8.2 == r9.2) = true then
              some (.inr ((r8.1 : Int) == r9.1))
            else
              some (.inr false)
          else
            some (.inr false)
        else
          some (.inr false)
      else
        some (.inr false)
    else
      some (.inr false)
noncomputable def Dw_FnSums (a0 : (List Int)) (a1 : (List Int)) : Option (Bool) :=
  Option.bind (Dw_big a0 a1) fun r1 =>
  if r1 = true then
    some true
  else
    Option.bind (Ds_DrawSumWays a0) fun r3 =>
    Option.bind (Di_SumWays r3.1 r3.2) fun r4 =>
    if r4.2 = true then
      Option.bind (Ds_SumWays r3.1 r3.2) fun r6 =>
      if (!(true == r6.2)) = true then
        some false
      else
        if (r4.1 : Int) = r6.1 then
          if (IntKind.wrap .i64 ((IntKind.wrap .i64 (7 * r3.1)) - r3.2)) ≥ (-100) then
            if (IntKind.wrap .i64 ((IntKind.wrap .i64 (7 * r3.1)) - r3.2)) ≤ 100 then
              Option.bind (Di_SumWays r3.1 (IntKind.wrap .i64 ((IntKind.wrap .i64 (7 * r3.1)) - r3.2))) fun r11 =>
              if r11.2 = true then
                if (r11.1 : Int) = r6.1 then
                  loop Bw_FnSums (.h1 a1 r3.1 r3.2 r6.1)
                else
                  some false
              else
                some false
            else
              loop Bw_FnSums (.h1 a1 r3.1 r3.2 r6.1)
          else
            loop Bw_FnSums (.h1 a1 r3.1 r3.2 r6.1)
        else
          some false
    else
      Option.bind (Ds_SumWays r3.1 r3.2) fun r6 =>
      if (!(false == r6.2)) = true then
        some false
      else
        if (r4.1 : Int) = r6.1 then
          loop Bw_FnSums (.h1 a1 r3.1 r3.2 r6.1)
        else
          some false
end Go.Proofs.Ytlniejjcejackaa.Ab
