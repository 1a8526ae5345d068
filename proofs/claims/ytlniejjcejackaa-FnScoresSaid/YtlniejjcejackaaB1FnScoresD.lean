/- Part of the proof of FnScores: no condition of its own. -/
import Derived.Test.YtlniejjcejackaaAb4
set_option linter.unusedVariables false
set_option linter.unusedSimpArgs false
open Go
namespace Go.Proofs.Ytlniejjcejackaa.Ab
structure Gi_Odds where
  mk ::
  Num : Int
  Den : Int
def gi_Odds (x : Gi_Odds) : D := .agg [I x.Num, I x.Den]
structure Gi_CombatTable where
  mk ::
  Columns : (List Gi_Odds)
  Dice : Int
  Results : (List (List Int))
def gi_CombatTable (x : Gi_CombatTable) : D := .agg [sl 2 gi_Odds x.Columns, I x.Dice, sl 1 (sl 1 I) x.Results]
structure Gs_l1Cur where
  mk ::
  code : (List Int)
  at_ : Int
  seed : Int
def gs_l1Cur (x : Gs_l1Cur) : D := .agg [sl 1 (D.int .u8) x.code, I x.at_, .int .u64 x.seed]

/-!   loop example/g00886/spec l1Cur  next -/
noncomputable def Ds_l1Cur_next (a0 : Gs_l1Cur) : Option (Int × Gs_l1Cur) :=
  if a0.at_ < ((a0.code.length : Nat) : Int) then
    if 0 ≤ a0.at_ then
      Option.bind (a0.code[(Int.toNat a0.at_)]?) fun x3 =>
      if (IntKind.wrap .i64 (a0.at_ + 1)) ≤ ((a0.code.length : Nat) : Int) then
        some ((IntKind.wrap .i64 x3), (Gs_l1Cur.mk a0.code (IntKind.wrap .i64 (a0.at_ + 1)) (IntKind.wrap .u64 ((IntKind.wrap .u64 ((IntKind.wrap .u64 (a0.seed * 6364136223846793005)) + (IntKind.wrap .u64 (IntKind.wrap .i64 x3)))) + 1442695040888963407))))
      else
        some ((IntKind.wrap .i64 (IntKind.wrap .u64 ((BitVec.toNat (BitVec.ofInt (IntKind.bits .u64) (Int.fdiv (IntKind.wrap .u64 ((IntKind.wrap .u64 ((IntKind.wrap .u64 (a0.seed * 6364136223846793005)) + (IntKind.wrap .u64 (IntKind.wrap .i64 x3)))) + 1442695040888963407)) (2 ^ min (Int.toNat 40) (IntKind.bits .u64))) &&& BitVec.ofInt (IntKind.bits .u64) 255) : Nat) : Int))), (Gs_l1Cur.mk a0.code (IntKind.wrap .i64 (a0.at_ + 1)) (IntKind.wrap .u64 ((IntKind.wrap .u64 ((IntKind.wrap .u64 (a0.seed * 6364136223846793005)) + (IntKind.wrap .u64 (IntKind.wrap .i64 x3)))) + 1442695040888963407))))
    else none
  else
    if (IntKind.wrap .i64 (a0.at_ + 1)) ≤ ((a0.code.length : Nat) : Int) then
      some (0, (Gs_l1Cur.mk a0.code (IntKind.wrap .i64 (a0.at_ + 1)) (IntKind.wrap .u64 ((IntKind.wrap .u64 ((IntKind.wrap .u64 (a0.seed * 6364136223846793005)) + (IntKind.wrap .u64 0))) + 1442695040888963407))))
    else
      some ((IntKind.wrap .i64 (IntKind.wrap .u64 ((BitVec.toNat (BitVec.ofInt (IntKind.bits .u64) (Int.fdiv (IntKind.wrap .u64 ((IntKind.wrap .u64 ((IntKind.wrap .u64 (a0.seed * 6364136223846793005)) + (IntKind.wrap .u64 0))) + 1442695040888963407)) (2 ^ min (Int.toNat 40) (IntKind.bits .u64))) &&& BitVec.ofInt (IntKind.bits .u64) 255) : Nat) : Int))), (Gs_l1Cur.mk a0.code (IntKind.wrap .i64 (a0.at_ + 1)) (IntKind.wrap .u64 ((IntKind.wrap .u64 ((IntKind.wrap .u64 (a0.seed * 6364136223846793005)) + (IntKind.wrap .u64 0))) + 1442695040888963407))))
/-!   loop example/g00886/spec l1Cur  pick -/
noncomputable def Ds_l1Cur_pick (a0 : Gs_l1Cur) (a1 : Int) : Option (Int × Gs_l1Cur) :=
  if a1 ≤ 1 then
    some (0, a0)
  else
    Option.bind (Ds_l1Cur_next a0) fun r2 =>
    if a1 > 200 then
      Option.bind (Ds_l1Cur_next r2.2) fun r4 =>
      if ¬ a1 = 0 then
        some ((Int.tmod (IntKind.wrap .i64 ((IntKind.wrap .i64 (r2.1 * 256)) + r4.1)) a1), r4.2)
      else none
    else
      if ¬ a1 = 0 then
        some ((Int.tmod r2.1 a1), r2.2)
      else none
/-! loop example/g00886/spec l1Least -/
noncomputable def Ds_l1Least (a0 : Int) (a1 : Int) : Option (Int) :=
  if a0 < a1 then
    some a0
  else
    some a1
/-! loop example/g00886/spec kRows -/
noncomputable def Ds_kRows (a0 : Int) : Option (Int) :=
  some (IntKind.wrap .i64 ((IntKind.wrap .i64 (5 * a0)) + 1))
/-!   loop example/g00886/spec l1Cur  one -/
noncomputable def Ds_l1Cur_one (a0 : Gs_l1Cur) (a1 : Int) : Option (Bool × Gs_l1Cur) :=
  Option.bind (Ds_l1Cur_pick a0 a1) fun r1 =>
  some (((r1.1 : Int) == 0), r1.2)
/-!   loop example/g00886/spec l1Cur  combatTable -/
inductive Ss_l1Cur_combatTable where
  | h1 (t0 : Int) (t1 : Int) (b2 : Gs_l1Cur) (b3 : Int) (b4 : Int) (l5 : (List Int)) (l6 : (List Gi_Odds))
  | h2 (t0 : Int) (t1 : Int) (t2 : Int) (t3 : Int) (b4 : Gs_l1Cur) (b5 : Int) (b6 : Int) (l7 : (List Int)) (l8 : (List Int)) (l9 : (List Gi_Odds))
  | h3 (t0 : Int) (t1 : Int) (b2 : Gs_l1Cur) (b3 : Int) (b4 : Int) (l5 : (List Int)) (l6 : (List Gi_Odds)) (l7 : (List (List Int)))
  | h4 (t0 : Int) (t1 : Int) (t2 : Int) (t3 : Int) (b4 : Gs_l1Cur) (b5 : Int) (b6 : Int) (l7 : (List Int)) (l8 : (List Int)) (l9 : (List Gi_Odds)) (l10 : (List (List Int)))
noncomputable def Bs_l1Cur_combatTable : Ss_l1Cur_combatTable → Option (Ss_l1Cur_combatTable ⊕ (Gi_CombatTable × Gs_l1Cur))
  | .h1 t0 t1 b2 b3 b4 l5 l6 =>
    if t1 < t0 then
      some (.inl (.h2 t0 t1 ((l6.length : Nat) : Int) 0 b2 b3 b4 l5 ([] : List Int) l6))
    else
      Option.bind (Ds_l1Cur_one b2 3) fun r2 =>
      if r2.1 = true then
        Option.bind (Ds_l1Cur_pick r2.2 t0) fun r4 =>
        none
      else
        some (.inr ((Gi_CombatTable.mk l6 b4 []), r2.2))
  | .h2 t0 t1 t2 t3 b4 b5 b6 l7 l8 l9 =>
    if t3 < t2 then
      if ¬ t0 = 0 then
        Option.bind (Ds_l1Cur_pick b4 2) fun r3 =>
        Option.bind (Ds_l1Least 7 (IntKind.wrap .i64 ((IntKind.wrap .i64 ((IntKind.wrap .i64 (Int.tdiv (IntKind.wrap .i64 (5 * t1)) t0)) + (IntKind.wrap .i64 (Int.tdiv (IntKind.wrap .i64 (t3 * 2)) 3)))) + (IntKind.wrap .i64 (Int.tdiv r3.1 2))))) fun r4 =>
        if 0 ≤ r4 then
          Option.bind (l7[(Int.toNat r4)]?) fun x6 =>
          if (l8 ++ [x6]).length * 8 ≤ 70368744177664 then
            some (.inl (.h2 t0 t1 t2 (IntKind.wrap .i64 (t3 + 1)) r3.2 b5 b6 l7 (l8 ++ [x6]) l9))
          else none
        else none
      else none
    else
      if [l8].length * 24 ≤ 70368744177664 then
        some (.inl (.h3 t0 (IntKind.wrap .i64 (t1 + 1)) b4 b5 b6 l7 l9 [l8]))
      else none
  | .h3 t0 t1 b2 b3 b4 l5 l6 l7 =>
    if t1 < t0 then
      some (.inl (.h4 t0 t1 ((l6.length : Nat) : Int) 0 b2 b3 b4 l5 ([] : List Int) l6 l7))
    else
      Option.bind (Ds_l1Cur_one b2 3) fun r2 =>
      if r2.1 = true then
        Option.bind (Ds_l1Cur_pick r2.2 t0) fun r4 =>
        if 0 ≤ r4.1 then
          Option.bind (l7[(Int.toNat r4.1)]?) fun x6 =>
          Option.bind (Ds_l1Cur_pick r4.2 ((l6.length : Nat) : Int)) fun r7 =>
          Option.bind (Ds_l1Cur_pick r7.2 8) fun r8 =>
          if 0 ≤ r7.1 then
            Option.bind (x6[(Int.toNat r7.1)]?) fun x10 =>
            some (.inr ((Gi_CombatTable.mk l6 b4 (List.set l7 (Int.toNat r4.1) (List.set x6 (Int.toNat r7.1) r8.1))), r8.2))
          else none
        else none
      else
        some (.inr ((Gi_CombatTable.mk l6 b4 l7), r2.2))
  | .h4 t0 t1 t2 t3 b4 b5 b6 l7 l8 l9 l10 =>
    if t3 < t2 then
      if ¬ t0 = 0 then
        Option.bind (Ds_l1Cur_pick b4 2) fun r3 =>
        Option.bind (Ds_l1Least 7 (IntKind.wrap .i64 ((IntKind.wrap .i64 ((IntKind.wrap .i64 (Int.tdiv (IntKind.wrap .i64 (5 * t1)) t0)) + (IntKind.wrap .i64 (Int.tdiv (IntKind.wrap .i64 (t3 * 2)) 3)))) + (IntKind.wrap .i64 (Int.tdiv r3.1 2))))) fun r4 =>
        if 0 ≤ r4 then
          Option.bind (l7[(Int.toNat r4)]?) fun x6 =>
          if (l8 ++ [x6]).length * 8 ≤ 70368744177664 then
            some (.inl (.h4 t0 t1 t2 (IntKind.wrap .i64 (t3 + 1)) r3.2 b5 b6 l7 (l8 ++ [x6]) l9 l10))
          else none
        else none
      else none
    else
      if (l10 ++ [l8]).length * 24 ≤ 70368744177664 then
        some (.inl (.h3 t0 (IntKind.wrap .i64 (t1 + 1)) b4 b5 b6 l7 l9 (l10 ++ [l8])))
      else none
noncomputable def Ds_l1Cur_combatTable (a0 : Gs_l1Cur) : Option (Gi_CombatTable × Gs_l1Cur) :=
  Option.bind (Ds_l1Cur_pick a0 4) fun r1 =>
  Option.bind (Ds_l1Cur_pick r1.2 5) fun r2 =>
  Option.bind (Ds_l1Least (IntKind.wrap .i64 (r1.1 + (IntKind.wrap .i64 (1 + r2.1)))) 8) fun r3 =>
  if (0 : Int) ≤ r1.1 then
    if (r1.1 : Int) ≤ r3 then
      if (r3 : Int) ≤ (([(Gi_Odds.mk 1 3), (Gi_Odds.mk 1 2), (Gi_Odds.mk 1 1), (Gi_Odds.mk 3 2), (Gi_Odds.mk 2 1), (Gi_Odds.mk 3 1), (Gi_Odds.mk 5 1), (Gi_Odds.mk 7 1)].length : Nat) : Int) then
        if (List.take ((Int.toNat r3) - (Int.toNat r1.1)) (List.drop (Int.toNat r1.1) [(Gi_Odds.mk 1 3), (Gi_Odds.mk 1 2), (Gi_Odds.mk 1 1), (Gi_Odds.mk 3 2), (Gi_Odds.mk 2 1), (Gi_Odds.mk 3 1), (Gi_Odds.mk 5 1), (Gi_Odds.mk 7 1)])).length * 16 ≤ 70368744177664 then
          Option.bind (Ds_l1Cur_pick r2.2 2) fun r8 =>
          Option.bind (Ds_kRows (IntKind.wrap .i64 (1 + r8.1))) fun r9 =>
          loop Bs_l1Cur_combatTable (.h1 r9 0 r8.2 0 (IntKind.wrap .i64 (1 + r8.1)) [6, 5, 4, 0, 7, 1, 2, 3] (List.take ((Int.toNat r3) - (Int.toNat r1.1)) (List.drop (Int.toNat r1.1) [(Gi_Odds.mk 1 3), (Gi_Odds.mk 1 2), (Gi_Odds.mk 1 1), (Gi_Odds.mk 3 2), (Gi_Odds.mk 2 1), (Gi_Odds.mk 3 1), (Gi_Odds.mk 5 1), (Gi_Odds.mk 7 1)])))
        else none
      else none
    else none
  else none
/-!   loop example/g00886/spec l1Cur  among -/
noncomputable def Ds_l1Cur_among (a0 : Gs_l1Cur) (a1 : (List Int)) : Option (Int × Gs_l1Cur) :=
  Option.bind (Ds_l1Cur_pick a0 ((a1.length : Nat) : Int)) fun r1 =>
  if 0 ≤ r1.1 then
    Option.bind (a1[(Int.toNat r1.1)]?) fun x3 =>
    some (x3, r1.2)
  else none
/-!   loop example/g00886/spec l1Cur  anyCombatTable -/
noncomputable def Ds_l1Cur_anyCombatTable (a0 : Gs_l1Cur) : Option (Gi_CombatTable × Gs_l1Cur) :=
  Option.bind (Ds_l1Cur_combatTable a0) fun r1 =>
  Option.bind (Ds_l1Cur_pick r1.2 24) fun r2 =>
  if (r2.1 : Int) = 0 then
    Option.bind (Ds_l1Cur_among r2.2 [0, 20, 21, 1]) fun r4 =>
    Option.bind (Ds_l1Cur_among r4.2 [0, 20, 21, 1]) fun r5 =>
    Option.bind (r1.1.Columns[(Int.toNat 0)]?) fun x6 =>
    some ((Gi_CombatTable.mk (List.set r1.1.Columns (Int.toNat 0) (Gi_Odds.mk r4.1 r5.1)) r1.1.Dice r1.1.Results), r5.2)
  else
    if (r2.1 : Int) = 1 then
      Option.bind (Ds_l1Cur_among r2.2 [0, 1, 2, 3]) fun r5 =>
      some ((Gi_CombatTable.mk r1.1.Columns r5.1 r1.1.Results), r5.2)
    else
      if (r2.1 : Int) = 2 then
        Option.bind (r1.1.Results[(Int.toNat 0)]?) fun x6 =>
        Option.bind (Ds_l1Cur_among r2.2 [(-1), 7, 8]) fun r7 =>
        Option.bind (x6[(Int.toNat 0)]?) fun x8 =>
        some ((Gi_CombatTable.mk r1.1.Columns r1.1.Dice (List.set r1.1.Results (Int.toNat 0) (List.set x6 (Int.toNat 0) r7.1))), r7.2)
      else
        if (r2.1 : Int) = 3 then
          Option.bind (r1.1.Results[(Int.toNat 1)]?) fun x7 =>
          if (x7 ++ [0]).length * 8 ≤ 70368744177664 then
            Option.bind (r1.1.Results[(Int.toNat 1)]?) fun x9 =>
            some ((Gi_CombatTable.mk r1.1.Columns r1.1.Dice (List.set r1.1.Results (Int.toNat 1) (x7 ++ [0]))), r2.2)
          else none
        else
          if (r2.1 : Int) = 4 then
            if (r1.1.Columns ++ r1.1.Columns).length * 16 ≤ 70368744177664 then
              some ((Gi_CombatTable.mk (r1.1.Columns ++ r1.1.Columns) r1.1.Dice r1.1.Results), r2.2)
            else none
          else
            some (r1.1, r2.2)
/-! loop example/g00886/spec DrawIsCombatTable -/
noncomputable def Ds_DrawIsCombatTable (a0 : (List Int)) : Option (Gi_CombatTable) :=
  Option.bind (Ds_l1Cur_anyCombatTable (Gs_l1Cur.mk a0 0 0)) fun r1 =>
  some r1.1
/-! loop example/g00886/spec DrawIsMonotone -/
noncomputable def Ds_DrawIsMonotone (a0 : (List Int)) : Option (Gi_CombatTable) :=
  Option.bind (Ds_DrawIsCombatTable a0) fun r1 =>
  some r1
/-! loop example/g00886/impl inRange -/
noncomputable def Di_inRange (a0 : Int) (a1 : Int) (a2 : Int) : Option (Bool) :=
  if a1 ≤ a0 then
    some (decide (a0 ≤ a2))
  else
    some false
/-! loop example/g00886/impl isResult -/
noncomputable def Di_isResult (a0 : Int) : Option (Bool) :=
  Option.bind (Di_inRange a0 0 7) fun r1 =>
  some r1
/-! loop example/g00886/impl IsCombatTable 1 -/
noncomputable def Di_IsCombatTable_1 (a0 : Int) : Option (Bool) :=
  Option.bind (Di_isResult a0) fun r1 =>
  some (!r1)
/-! slices IndexFunc   int int  -/
inductive Sslices_IndexFunc_int_i_IsCombatTable_1 where
  | h1 (s0 : (List Int)) (t1 : Int) (t2 : Int)
noncomputable def Bslices_IndexFunc_int_i_IsCombatTable_1 : Sslices_IndexFunc_int_i_IsCombatTable_1 → Option (Sslices_IndexFunc_int_i_IsCombatTable_1 ⊕ (Int))
  | .h1 s0 t1 t2 =>
    if t2 < t1 then
      if 0 ≤ t2 then
        Option.bind (s0[(Int.toNat t2)]?) fun x3 =>
        Option.bind (Di_IsCombatTable_1 x3) fun r4 =>
        if r4 = true then
          some (.inr t2)
        else
          some (.inl (.h1 s0 t1 (IntKind.wrap .i64 (t2 + 1))))
      else none
    else
      some (.inr (-1))
noncomputable def Dslices_IndexFunc_int_i_IsCombatTable_1 (a0 : (List Int)) : Option (Int) :=
  loop Bslices_IndexFunc_int_i_IsCombatTable_1 (.h1 a0 ((a0.length : Nat) : Int) 0)
/-! slices ContainsFunc   int int  -/
noncomputable def Dslices_ContainsFunc_int_i_IsCombatTable_1 (a0 : (List Int)) : Option (Bool) :=
  Option.bind (Dslices_IndexFunc_int_i_IsCombatTable_1 a0) fun r1 =>
  some (decide (r1 ≥ 0))
/-! loop example/g00886/impl IsCombatTable -/
inductive Si_IsCombatTable where
  | h1 (t0 : (List Gi_Odds)) (t1 : Int) (t2 : Int) (b3 : Gi_CombatTable)
  | h2 (t0 : (List (List Int))) (t1 : Int) (t2 : Int) (b3 : Gi_CombatTable)
noncomputable def Bi_IsCombatTable : Si_IsCombatTable → Option (Si_IsCombatTable ⊕ (Bool))
  | .h1 t0 t1 t2 b3 =>
    if t2 < t1 then
      if 0 ≤ t2 then
        Option.bind (t0[(Int.toNat t2)]?) fun x3 =>
        Option.bind (Di_inRange x3.Num 1 20) fun r4 =>
        if r4 = true then
          Option.bind (Di_inRange x3.Den 1 20) fun r6 =>
          if r6 = true then
            if t2 > 0 then
              if 0 ≤ (IntKind.wrap .i64 (t2 - 1)) then
                Option.bind (b3.Columns[(Int.toNat (IntKind.wrap .i64 (t2 - 1)))]?) fun x10 =>
                if 0 ≤ (IntKind.wrap .i64 (t2 - 1)) then
                  Option.bind (b3.Columns[(Int.toNat (IntKind.wrap .i64 (t2 - 1)))]?) fun x12 =>
                  if (IntKind.wrap .i64 (x10.Num * x3.Den)) ≥ (IntKind.wrap .i64 (x3.Num * x12.Den)) then
                    some (.inr false)
                  else
                    some (.inl (.h1 t0 t1 (IntKind.wrap .i64 (t2 + 1)) b3))
                else none
              else none
            else
              some (.inl (.h1 t0 t1 (IntKind.wrap .i64 (t2 + 1)) b3))
          else
            some (.inr false)
        else
          some (.inr false)
      else none
    else
      some (.inl (.h2 b3.Results ((b3.Results.length : Nat) : Int) 0 b3))
  | .h2 t0 t1 t2 b3 =>
    if t2 < t1 then
      if 0 ≤ t2 then
        Option.bind (t0[(Int.toNat t2)]?) fun x3 =>
        if (((x3.length : Nat) : Int) : Int) = ((b3.Columns.length : Nat) : Int) then
          Option.bind (Dslices_ContainsFunc_int_i_IsCombatTable_1 x3) fun r5 =>
          if r5 = true then
            some (.inr false)
          else
            some (.inl (.h2 t0 t1 (IntKind.wrap .i64 (t2 + 1)) b3))
        else
          some (.inr false)
      else none
    else
      some (.inr true)
noncomputable def Di_IsCombatTable (a0 : Gi_CombatTable) : Option (Bool) :=
  Option.bind (Di_inRange ((a0.Columns.length : Nat) : Int) 1 8) fun r1 =>
  if r1 = true then
    Option.bind (Di_inRange a0.Dice 1 2) fun r3 =>
    if r3 = true then
      if (((a0.Results.length : Nat) : Int) : Int) = (IntKind.wrap .i64 ((IntKind.wrap .i64 (5 * a0.Dice)) + 1)) then
        loop Bi_IsCombatTable (.h1 a0.Columns ((a0.Columns.length : Nat) : Int) 0 a0)
      else
        some false
    else
      some false
  else
    some false
/-! loop example/g00886/impl scoreOf -/
noncomputable def Di_scoreOf (a0 : Int) : Option (Int) :=
  if (a0 : Int) = 6 then
    some (-3)
  else
    if (a0 : Int) = 5 then
      some (-2)
    else
      if (a0 : Int) = 4 then
        some (-1)
      else
        if (a0 : Int) = 1 then
          some 1
        else
          if (a0 : Int) = 2 then
            some 2
          else
            if (a0 : Int) = 3 then
              some 3
            else
              some 0
/-! loop example/g00886/impl IsMonotone -/
inductive Si_IsMonotone where
  | h1 (t0 : (List (List Int))) (t1 : Int) (t2 : Int) (b3 : Gi_CombatTable)
  | h2 (vr0 : Int) (vrow1 : (List Int)) (t2 : (List (List Int))) (t3 : Int) (t4 : Int) (t5 : Int) (t6 : Int) (b7 : Gi_CombatTable)
noncomputable def Bi_IsMonotone : Si_IsMonotone → Option (Si_IsMonotone ⊕ (Bool × Bool))
  | .h1 t0 t1 t2 b3 =>
    if t2 < t1 then
      if 0 ≤ t2 then
        Option.bind (t0[(Int.toNat t2)]?) fun x3 =>
        some (.inl (.h2 t2 x3 t0 t1 t2 ((x3.length : Nat) : Int) 0 b3))
      else none
    else
      some (.inr (true, true))
  | .h2 vr0 vrow1 t2 t3 t4 t5 t6 b7 =>
    if t6 < t5 then
      if t6 > 0 then
        if 0 ≤ (IntKind.wrap .i64 (t6 - 1)) then
          Option.bind (vrow1[(Int.toNat (IntKind.wrap .i64 (t6 - 1)))]?) fun x4 =>
          Option.bind (Di_scoreOf x4) fun r5 =>
          if 0 ≤ t6 then
            Option.bind (vrow1[(Int.toNat t6)]?) fun x7 =>
            Option.bind (Di_scoreOf x7) fun r8 =>
            if r5 > r8 then
              some (.inr (false, true))
            else
              if vr0 > 0 then
                if 0 ≤ (IntKind.wrap .i64 (vr0 - 1)) then
                  Option.bind (b7.Results[(Int.toNat (IntKind.wrap .i64 (vr0 - 1)))]?) fun x12 =>
                  if 0 ≤ t6 then
                    Option.bind (x12[(Int.toNat t6)]?) fun x14 =>
                    Option.bind (Di_scoreOf x14) fun r15 =>
                    if 0 ≤ t6 then
                      Option.bind (vrow1[(Int.toNat t6)]?) fun x17 =>
                      Option.bind (Di_scoreOf x17) fun r18 =>
                      if r15 > r18 then
                        some (.inr (false, true))
                      else
                        some (.inl (.h2 vr0 vrow1 t2 t3 t4 t5 (IntKind.wrap .i64 (t6 + 1)) b7))
                    else none
                  else none
                else none
              else
                some (.inl (.h2 vr0 vrow1 t2 t3 t4 t5 (IntKind.wrap .i64 (t6 + 1)) b7))
          else none
        else none
      else
        if vr0 > 0 then
          if 0 ≤ (IntKind.wrap .i64 (vr0 - 1)) then
            Option.bind (b7.Results[(Int.toNat (IntKind.wrap .i64 (vr0 - 1)))]?) fun x5 =>
            if 0 ≤ t6 then
              Option.bind (x5[(Int.toNat t6)]?) fun x7 =>
              Option.bind (Di_scoreOf x7) fun r8 =>
              if 0 ≤ t6 then
                Option.bind (vrow1[(Int.toNat t6)]?) fun x10 =>
                Option.bind (Di_scoreOf x10) fun r11 =>
                if r8 > r11 then
                  some (.inr (false, true))
                else
                  some (.inl (.h2 vr0 vrow1 t2 t3 t4 t5 (IntKind.wrap .i64 (t6 + 1)) b7))
              else none
            else none
          else none
        else
          some (.inl (.h2 vr0 vrow1 t2 t3 t4 t5 (IntKind.wrap .i64 (t6 + 1)) b7))
    else
      some (.inl (.h1 t2 t3 (IntKind.wrap .i64 (t4 + 1)) b7))
noncomputable def Di_IsMonotone (a0 : Gi_CombatTable) : Option (Bool × Bool) :=
  Option.bind (Di_IsCombatTable a0) fun r1 =>
  if r1 = true then
    loop Bi_IsMonotone (.h1 a0.Results ((a0.Results.length : Nat) : Int) 0 a0)
  else
    some (false, false)
/-! loop example/g00886/spec l1In -/
noncomputable def Ds_l1In (a0 : Int) (a1 : Int) (a2 : Int) : Option (Bool) :=
  if a0 ≥ a1 then
    some (decide (a0 ≤ a2))
  else
    some false
/-! loop example/g00886/spec l1All -/
inductive Ss_l1All where
  | h1 (lo0 : Int) (vhi1 : Int) (t2 : (List Int)) (t3 : Int) (t4 : Int)
noncomputable def Bs_l1All : Ss_l1All → Option (Ss_l1All ⊕ (Bool))
  | .h1 lo0 vhi1 t2 t3 t4 =>
    if t4 < t3 then
      if 0 ≤ t4 then
        Option.bind (t2[(Int.toNat t4)]?) fun x3 =>
        Option.bind (Ds_l1In x3 lo0 vhi1) fun r4 =>
        if r4 = true then
          some (.inl (.h1 lo0 vhi1 t2 t3 (IntKind.wrap .i64 (t4 + 1))))
        else
          some (.inr false)
      else none
    else
      some (.inr true)
noncomputable def Ds_l1All (a0 : (List Int)) (a1 : Int) (a2 : Int) : Option (Bool) :=
  loop Bs_l1All (.h1 a1 a2 a0 ((a0.length : Nat) : Int) 0)
/-! loop example/g00886/spec kGood -/
inductive Ss_kGood where
  | h1 (t0 : (List Gi_Odds)) (t1 : Int) (t2 : Int) (b3 : Gi_CombatTable)
  | h2 (t0 : (List (List Int))) (t1 : Int) (t2 : Int) (b3 : Gi_CombatTable)
noncomputable def Bs_kGood : Ss_kGood → Option (Ss_kGood ⊕ (Bool))
  | .h1 t0 t1 t2 b3 =>
    if t2 < t1 then
      if 0 ≤ t2 then
        Option.bind (t0[(Int.toNat t2)]?) fun x3 =>
        Option.bind (Ds_l1In x3.Num 1 20) fun r4 =>
        if r4 = true then
          Option.bind (Ds_l1In x3.Den 1 20) fun r6 =>
          if r6 = true then
            if t2 > 0 then
              if 0 ≤ (IntKind.wrap .i64 (t2 - 1)) then
                Option.bind (b3.Columns[(Int.toNat (IntKind.wrap .i64 (t2 - 1)))]?) fun x10 =>
                if 0 ≤ (IntKind.wrap .i64 (t2 - 1)) then
                  Option.bind (b3.Columns[(Int.toNat (IntKind.wrap .i64 (t2 - 1)))]?) fun x12 =>
                  if (IntKind.wrap .i64 (x10.Num * x3.Den)) ≥ (IntKind.wrap .i64 (x3.Num * x12.Den)) then
                    some (.inr false)
                  else
                    some (.inl (.h1 t0 t1 (IntKind.wrap .i64 (t2 + 1)) b3))
                else none
              else none
            else
              some (.inl (.h1 t0 t1 (IntKind.wrap .i64 (t2 + 1)) b3))
          else
            some (.inr false)
        else
          some (.inr false)
      else none
    else
      some (.inl (.h2 b3.Results ((b3.Results.length : Nat) : Int) 0 b3))
  | .h2 t0 t1 t2 b3 =>
    if t2 < t1 then
      if 0 ≤ t2 then
        Option.bind (t0[(Int.toNat t2)]?) fun x3 =>
        if (((x3.length : Nat) : Int) : Int) = ((b3.Columns.length : Nat) : Int) then
          Option.bind (Ds_l1All x3 0 7) fun r5 =>
          if r5 = true then
            some (.inl (.h2 t0 t1 (IntKind.wrap .i64 (t2 + 1)) b3))
          else
            some (.inr false)
        else
          some (.inr false)
      else none
    else
      some (.inr true)
noncomputable def Ds_kGood (a0 : Gi_CombatTable) : Option (Bool) :=
  Option.bind (Ds_l1In ((a0.Columns.length : Nat) : Int) 1 8) fun r1 =>
  if r1 = true then
    Option.bind (Ds_l1In a0.Dice 1 2) fun r3 =>
    if r3 = true then
      Option.bind (Ds_kRows a0.Dice) fun r5 =>
      if (((a0.Results.length : Nat) : Int) : Int) = r5 then
        loop Bs_kGood (.h1 a0.Columns ((a0.Columns.length : Nat) : Int) 0 a0)
      else
        some false
    else
      some false
  else
    some false
/-! loop example/g00886/spec kScore -/
noncomputable def Ds_kScore (a0 : Int) : Option (Int) :=
  if (a0 : Int) = 7 then
    some 0
  else
    if a0 ≥ 4 then
      some (IntKind.wrap .i64 (3 - a0))
    else
      some a0
/-! loop example/g00886/spec IsMonotone -/
inductive Ss_IsMonotone where
  | h1 (t0 : (List (List Int))) (t1 : Int) (t2 : Int) (b3 : Gi_CombatTable)
  | h2 (i0 : Int) (vrow1 : (List Int)) (t2 : (List (List Int))) (t3 : Int) (t4 : Int) (t5 : (List Int)) (t6 : Int) (t7 : Int) (b8 : Gi_CombatTable)
noncomputable def Bs_IsMonotone : Ss_IsMonotone → Option (Ss_IsMonotone ⊕ (Bool × Bool))
  | .h1 t0 t1 t2 b3 =>
    if t2 < t1 then
      if 0 ≤ t2 then
        Option.bind (t0[(Int.toNat t2)]?) fun x3 =>
        some (.inl (.h2 t2 x3 t0 t1 t2 x3 ((x3.length : Nat) : Int) 0 b3))
      else none
    else
      some (.inr (true, true))
  | .h2 i0 vrow1 t2 t3 t4 t5 t6 t7 b8 =>
    if t7 < t6 then
      if 0 ≤ t7 then
        Option.bind (t5[(Int.toNat t7)]?) fun x3 =>
        if t7 > 0 then
          if 0 ≤ (IntKind.wrap .i64 (t7 - 1)) then
            Option.bind (vrow1[(Int.toNat (IntKind.wrap .i64 (t7 - 1)))]?) fun x6 =>
            Option.bind (Ds_kScore x6) fun r7 =>
            Option.bind (Ds_kScore x3) fun r8 =>
            if r7 > r8 then
              some (.inr (false, true))
            else
              if i0 > 0 then
                if 0 ≤ (IntKind.wrap .i64 (i0 - 1)) then
                  Option.bind (b8.Results[(Int.toNat (IntKind.wrap .i64 (i0 - 1)))]?) fun x12 =>
                  if 0 ≤ t7 then
                    Option.bind (x12[(Int.toNat t7)]?) fun x14 =>
                    Option.bind (Ds_kScore x14) fun r15 =>
                    Option.bind (Ds_kScore x3) fun r16 =>
                    if r15 > r16 then
                      some (.inr (false, true))
                    else
                      some (.inl (.h2 i0 vrow1 t2 t3 t4 t5 t6 (IntKind.wrap .i64 (t7 + 1)) b8))
                  else none
                else none
              else
                some (.inl (.h2 i0 vrow1 t2 t3 t4 t5 t6 (IntKind.wrap .i64 (t7 + 1)) b8))
          else none
        else
          if i0 > 0 then
            if 0 ≤ (IntKind.wrap .i64 (i0 - 1)) then
              Option.bind (b8.Results[(Int.toNat (IntKind.wrap .i64 (i0 - 1)))]?) fun x7 =>
              if 0 ≤ t7 then
                Option.bind (x7[(Int.toNat t7)]?) fun x9 =>
                Option.bind (Ds_kScore x9) fun r10 =>
                Option.bind (Ds_kScore x3) fun r11 =>
                if r10 > r11 then
                  some (.inr (false, true))
                else
                  some (.inl (.h2 i0 vrow1 t2 t3 t4 t5 t6 (IntKind.wrap .i64 (t7 + 1)) b8))
              else none
            else none
          else
            some (.inl (.h2 i0 vrow1 t2 t3 t4 t5 t6 (IntKind.wrap .i64 (t7 + 1)) b8))
      else none
    else
      some (.inl (.h1 t2 t3 (IntKind.wrap .i64 (t4 + 1)) b8))
noncomputable def Ds_IsMonotone (a0 : Gi_CombatTable) : Option (Bool × Bool) :=
  Option.bind (Ds_kGood a0) fun r1 =>
  if r1 = true then
    loop Bs_IsMonotone (.h1 a0.Results ((a0.Results.length : Nat) : Int) 0 a0)
  else
    some (false, false)
/-! loop example/g00886/spec DrawShiftColumn -/
noncomputable def Ds_DrawShiftColumn (a0 : (List Int)) : Option (Gi_CombatTable × Int × Int) :=
  Option.bind (Ds_l1Cur_anyCombatTable (Gs_l1Cur.mk a0 0 0)) fun r1 =>
  Option.bind (Ds_l1Cur_pick r1.2 6) fun r2 =>
  Option.bind (Ds_l1Cur_pick r2.2 8) fun r3 =>
  Option.bind (Ds_l1Cur_among r3.2 [0, 1, (-1), 3, (-3), 10, (-10), 11]) fun r4 =>
  some (r1.1, (IntKind.wrap .i64 (r2.1 - (IntKind.wrap .i64 (Int.tdiv r3.1 7)))), r4.1)
/-! loop example/g00886/impl isIndex -/
noncomputable def Di_isIndex (a0 : Int) (a1 : Int) : Option (Bool) :=
  Option.bind (Di_inRange a0 0 (IntKind.wrap .i64 (a1 - 1))) fun r1 =>
  some r1
/-! loop example/g00886/impl isColumn -/
noncomputable def Di_isColumn (a0 : Gi_CombatTable) (a1 : Int) : Option (Bool) :=
  Option.bind (Di_IsCombatTable a0) fun r1 =>
  if r1 = true then
    Option.bind (Di_isIndex a1 ((a0.Columns.length : Nat) : Int)) fun r3 =>
    some r3
  else
    some false
/-! loop example/g00886/impl shiftColumn -/
noncomputable def Di_shiftColumn (a0 : Gi_CombatTable) (a1 : Int) (a2 : Int) : Option (Int) :=
  some (if (IntKind.wrap .i64 (((a0.Columns.length : Nat) : Int) - 1)) < (if (IntKind.wrap .i64 (a1 + a2)) < 0 then 0 else (IntKind.wrap .i64 (a1 + a2))) then (IntKind.wrap .i64 (((a0.Columns.length : Nat) : Int) - 1)) else (if (IntKind.wrap .i64 (a1 + a2)) < 0 then 0 else (IntKind.wrap .i64 (a1 + a2))))
/-! loop example/g00886/impl ShiftColumn -/
noncomputable def Di_ShiftColumn (a0 : Gi_CombatTable) (a1 : Int) (a2 : Int) : Option (Int × Bool) :=
  Option.bind (Di_isColumn a0 a1) fun r1 =>
  if r1 = true then
    Option.bind (Di_inRange a2 (-10) 10) fun r3 =>
    if r3 = true then
      Option.bind (Di_shiftColumn a0 a1 a2) fun r5 =>
      some (r5, true)
    else
      some (0, false)
  else
    some (0, false)
/-! loop example/g00886/spec kAsked -/
noncomputable def Ds_kAsked (a0 : Gi_CombatTable) (a1 : Int) : Option (Bool) :=
  Option.bind (Ds_kGood a0) fun r1 =>
  if r1 = true then
    Option.bind (Ds_l1In a1 0 (IntKind.wrap .i64 (((a0.Columns.length : Nat) : Int) - 1))) fun r3 =>
    some r3
  else
    some false
/-! loop example/g00886/spec l1Most -/
noncomputable def Ds_l1Most (a0 : Int) (a1 : Int) : Option (Int) :=
  if a0 > a1 then
    some a0
  else
    some a1
/-! loop example/g00886/spec kShift -/
noncomputable def Ds_kShift (a0 : Gi_CombatTable) (a1 : Int) (a2 : Int) : Option (Int) :=
  Option.bind (Ds_l1Least (IntKind.wrap .i64 (((a0.Columns.length : Nat) : Int) - 1)) (IntKind.wrap .i64 (a1 + a2))) fun r1 =>
  Option.bind (Ds_l1Most 0 r1) fun r2 =>
  some r2
/-! loop example/g00886/spec ShiftColumn -/
noncomputable def Ds_ShiftColumn (a0 : Gi_CombatTable) (a1 : Int) (a2 : Int) : Option (Int × Bool) :=
  Option.bind (Ds_kAsked a0 a1) fun r1 =>
  if r1 = true then
    Option.bind (Ds_l1In a2 (-10) 10) fun r3 =>
    if r3 = true then
      Option.bind (Ds_kShift a0 a1 a2) fun r5 =>
      some (r5, true)
    else
      some (0, false)
  else
    some (0, false)
/-! loop example/g00886/spec DrawResultAt -/
noncomputable def Ds_DrawResultAt (a0 : (List Int)) : Option (Gi_CombatTable × Int × Int) :=
  Option.bind (Ds_l1Cur_anyCombatTable (Gs_l1Cur.mk a0 0 0)) fun r1 =>
  Option.bind (Ds_l1Cur_pick r1.2 14) fun r2 =>
  Option.bind (Ds_l1Cur_pick r2.2 5) fun r3 =>
  some (r1.1, r2.1, r3.1)
/-! loop example/g00886/impl ResultAt -/
noncomputable def Di_ResultAt (a0 : Gi_CombatTable) (a1 : Int) (a2 : Int) : Option (Int × Bool) :=
  Option.bind (Di_isColumn a0 a2) fun r1 =>
  if r1 = true then
    Option.bind (Di_inRange a1 a0.Dice (IntKind.wrap .i64 (6 * a0.Dice))) fun r3 =>
    if r3 = true then
      if 0 ≤ (IntKind.wrap .i64 (a1 - a0.Dice)) then
        Option.bind (a0.Results[(Int.toNat (IntKind.wrap .i64 (a1 - a0.Dice)))]?) fun x6 =>
        if 0 ≤ a2 then
          Option.bind (x6[(Int.toNat a2)]?) fun x8 =>
          some (x8, true)
        else none
      else none
    else
      some (0, false)
  else
    some (0, false)
/-! loop example/g00886/spec kResult -/
noncomputable def Ds_kResult (a0 : Gi_CombatTable) (a1 : Int) (a2 : Int) : Option (Int) :=
  if 0 ≤ (IntKind.wrap .i64 (a1 - a0.Dice)) then
    Option.bind (a0.Results[(Int.toNat (IntKind.wrap .i64 (a1 - a0.Dice)))]?) fun x2 =>
    if 0 ≤ a2 then
      Option.bind (x2[(Int.toNat a2)]?) fun x4 =>
      some x4
    else none
  else none
/-! loop example/g00886/spec ResultAt -/
noncomputable def Ds_ResultAt (a0 : Gi_CombatTable) (a1 : Int) (a2 : Int) : Option (Int × Bool) :=
  Option.bind (Ds_kAsked a0 a2) fun r1 =>
  if r1 = true then
    Option.bind (Ds_l1In a1 a0.Dice (IntKind.wrap .i64 (6 * a0.Dice))) fun r3 =>
    if r3 = true then
      Option.bind (Ds_kResult a0 a1 a2) fun r5 =>
      some (r5, true)
    else
      some (0, false)
  else
    some (0, false)
/-! loop example/g00886/spec DrawCountResults -/
noncomputable def Ds_DrawCountResults (a0 : (List Int)) : Option (Gi_CombatTable × Int) :=
  Option.bind (Ds_l1Cur_anyCombatTable (Gs_l1Cur.mk a0 0 0)) fun r1 =>
  Option.bind (Ds_l1Cur_pick r1.2 6) fun r2 =>
  Option.bind (Ds_l1Cur_pick r2.2 8) fun r3 =>
  some (r1.1, (IntKind.wrap .i64 (r2.1 - (IntKind.wrap .i64 (Int.tdiv r3.1 7)))))
/-! loop example/g00886/spec DrawMeanScore -/
noncomputable def Ds_DrawMeanScore (a0 : (List Int)) : Option (Gi_CombatTable × Int) :=
  Option.bind (Ds_DrawCountResults a0) fun r1 =>
  some (r1.1, r1.2)
/-! loop example/g00886/impl absOf -/
noncomputable def Di_absOf (a0 : Int) : Option (Int) :=
  if a0 < 0 then
    some (IntKind.wrap .i64 (0 - a0))
  else
    some a0
/-! loop example/g00886/impl waysFor -/
noncomputable def Di_waysFor (a0 : Gi_CombatTable) (a1 : Int) : Option (Int) :=
  if (a0.Dice : Int) = 1 then
    some 1
  else
    Option.bind (Di_absOf (IntKind.wrap .i64 (a1 - 5))) fun r2 =>
    some (IntKind.wrap .i64 (6 - r2))
/-! loop example/g00886/impl MeanScore -/
inductive Si_MeanScore where
  | h1 (column0 : Int) (sum1 : Int) (many2 : Int) (t3 : (List (List Int))) (t4 : Int) (t5 : Int) (b6 : Gi_CombatTable)
noncomputable def Bi_MeanScore : Si_MeanScore → Option (Si_MeanScore ⊕ (Int × Int × Bool))
  | .h1 column0 sum1 many2 t3 t4 t5 b6 =>
    if t5 < t4 then
      if 0 ≤ t5 then
        Option.bind (t3[(Int.toNat t5)]?) fun x3 =>
        if 0 ≤ column0 then
          Option.bind (x3[(Int.toNat column0)]?) fun x5 =>
          Option.bind (Di_scoreOf x5) fun r6 =>
          Option.bind (Di_waysFor b6 t5) fun r7 =>
          Option.bind (Di_waysFor b6 t5) fun r8 =>
          some (.inl (.h1 column0 (IntKind.wrap .i64 (sum1 + (IntKind.wrap .i64 (r6 * r7)))) (IntKind.wrap .i64 (many2 + r8)) t3 t4 (IntKind.wrap .i64 (t5 + 1)) b6))
        else none
      else none
    else
      some (.inr (sum1, many2, true))
noncomputable def Di_MeanScore (a0 : Gi_CombatTable) (a1 : Int) : Option (Int × Int × Bool) :=
  Option.bind (Di_isColumn a0 a1) fun r1 =>
  if r1 = true then
    loop Bi_MeanScore (.h1 a1 0 0 a0.Results ((a0.Results.length : Nat) : Int) 0 a0)
  else
    some (0, 0, false)
/-! loop example/g00886/spec l1Abs -/
noncomputable def Ds_l1Abs (a0 : Int) : Option (Int) :=
  Option.bind (Ds_l1Most a0 (IntKind.wrap .i64 (0 - a0))) fun r1 =>
  some r1
/-! loop example/g00886/spec kWays -/
noncomputable def Ds_kWays (a0 : Int) (a1 : Int) : Option (Int) :=
  if (a0 : Int) = 1 then
    some 1
  else
    Option.bind (Ds_l1Abs (IntKind.wrap .i64 (a1 - 7))) fun r2 =>
    some (IntKind.wrap .i64 (6 - r2))
/-! loop example/g00886/spec kCounts -/
inductive Ss_kCounts where
  | h1 (column0 : Int) (vroll1 : Int) (b2 : Gi_CombatTable) (l3 : (List Int))
noncomputable def Bs_kCounts : Ss_kCounts → Option (Ss_kCounts ⊕ ((List Int)))
  | .h1 column0 vroll1 b2 l3 =>
    if vroll1 ≤ (IntKind.wrap .i64 (6 * b2.Dice)) then
      Option.bind (Ds_kResult b2 vroll1 column0) fun r2 =>
      if 0 ≤ r2 then
        Option.bind (l3[(Int.toNat r2)]?) fun x4 =>
        Option.bind (Ds_kWays b2.Dice vroll1) fun r5 =>
        if 0 ≤ r2 then
          Option.bind (l3[(Int.toNat r2)]?) fun x7 =>
          some (.inl (.h1 column0 (IntKind.wrap .i64 (vroll1 + 1)) b2 (List.set l3 (Int.toNat r2) (IntKind.wrap .i64 (x4 + r5)))))
        else none
      else none
    else
      some (.inr l3)
noncomputable def Ds_kCounts (a0 : Gi_CombatTable) (a1 : Int) : Option ((List Int)) :=
  if Int.toNat 8 * 8 ≤ 140737488355328 then
    loop Bs_kCounts (.h1 a1 a0.Dice a0 (List.replicate (Int.toNat 8) (0 : Int)))
  else none
/-! loop example/g00886/spec MeanScore -/
inductive Ss_MeanScore where
  | h1 (sum0 : Int) (n1 : Int) (t2 : Int) (t3 : Int) (l4 : (List Int))
noncomputable def Bs_MeanScore : Ss_MeanScore → Option (Ss_MeanScore ⊕ (Int × Int × Bool))
  | .h1 sum0 n1 t2 t3 l4 =>
    if t3 < t2 then
      if 0 ≤ t3 then
        Option.bind (l4[(Int.toNat t3)]?) fun x3 =>
        Option.bind (Ds_kScore t3) fun r4 =>
        some (.inl (.h1 (IntKind.wrap .i64 (sum0 + (IntKind.wrap .i64 (x3 * r4)))) (IntKind.wrap .i64 (n1 + x3)) t2 (IntKind.wrap .i64 (t3 + 1)) l4))
      else none
    else
      some (.inr (sum0, n1, true))
noncomputable def Ds_MeanScore (a0 : Gi_CombatTable) (a1 : Int) : Option (Int × Int × Bool) :=
  Option.bind (Ds_kAsked a0 a1) fun r1 =>
  if r1 = true then
    Option.bind (Ds_kCounts a0 a1) fun r3 =>
    loop Bs_MeanScore (.h1 0 0 ((r3.length : Nat) : Int) 0 r3)
  else
    some (0, 0, false)
/-! loop example/g00886/impl ScoreOf -/
noncomputable def Di_ScoreOf (a0 : Int) : Option (Int × Bool) :=
  Option.bind (Di_isResult a0) fun r1 =>
  if r1 = true then
    Option.bind (Di_scoreOf a0) fun r3 =>
    some (r3, true)
  else
    some (0, false)
/-! loop example/g00886/laws FnScores -/
inductive Sw_FnScores where
  | h1 (t0 : Bool) (t1 : Bool) (b2 : Int) (l3 : (List Gi_Odds)) (l4 : (List (List Int)))
  | h2 (t0 : Int) (b1 : Int) (l2 : (List Gi_Odds)) (l3 : (List (List Int)))
noncomputable def Bw_FnScores : Sw_FnScores → Option (Sw_FnScores ⊕ (Bool))
  | .h1 true true b2 l3 l4 =>
    some (.inl (.h2 1 b2 l3 l4))
  | .h1 true false b2 l3 l4 =>
    some (.inr true)
  | .h1 false true b2 l3 l4 =>
    some (.inr true)
  | .h1 false false b2 l3 l4 =>
    some (.inr true)
  | .h2 t0 b1 l2 l3 =>
    if t0 < ((l2.length : Nat) : Int) then
      Option.bind (Di_MeanScore (Gi_CombatTable.mk l2 b1 l3) (IntKind.wrap .i64 (t0 - 1))) fun r2 =>
      if r2.2.2 = true then
        Option.bind (Di_MeanScore (Gi_CombatTable.mk l2 b1 l3) t0) fun r4 =>
        if r4.2.2 = true then
          if r2.1 > r4.1 then
            some (.inr false)
          else
            some (.inl (.h2 (IntKind.wrap .i64 (t0 + 1)) b1 l2 l3))
        else
          some (.inr false)
      else
        Option.bind (Di_MeanScore (Gi_CombatTable.mk l2 b1 l3) t0) fun r4 =>
        some (.inr false)
    else
      some (.inr true)
noncomputable def Dw_FnScores (a0 : (List Int)) (a1 : (List Int)) : Option (Bool) :=
  if (IntKind.wrap .i64 (((a0.length : Nat) : Int) + ((a1.length : Nat) : Int))) > 1048576 then
    some true
  else
    Option.bind (Ds_DrawIsMonotone a0) fun r2 =>
    Option.bind (Di_IsMonotone r2) fun r3 =>
    Option.bind (Ds_IsMonotone r2) fun r4 =>
    Option.bind (Ds_DrawShiftColumn a1) fun r5 =>
    Option.bind (Di_ShiftColumn r5.1 r5.2.1 r5.2.2) fun r6 =>
    Option.bind (Ds_ShiftColumn r5.1 r5.2.1 r5.2.2) fun r7 =>
    Option.bind (Ds_DrawResultAt a1) fun r8 =>
    Option.bind (Di_ResultAt r8.1 r8.2.1 r8.2.2) fun r9 =>
    if r9.2 = true then
      Option.bind (Ds_ResultAt r8.1 r8.2.1 r8.2.2) fun r11 =>
      Option.bind (Ds_DrawMeanScore a1) fun r12 =>
      Option.bind (Di_MeanScore r12.1 r12.2) fun r13 =>
      Option.bind (Ds_MeanScore r12.1 r12.2) fun r14 =>
      if (!(r3.2 == r4.2)) = true then
        some false
      else
        if (!(r3.1 == r4.1)) = true then
          some false
        else
          if (!(r6.2 == r7.2)) = true then
            some false
          else
            if (r6.1 : Int) = r7.1 then
              if (!(true == r11.2)) = true then
                some false
              else
                if (r9.1 : Int) = r11.1 then
                  if (!(r13.2.2 == r14.2.2)) = true then
                    some false
                  else
                    if (r13.1 : Int) = r14.1 then
                      if (r13.2.1 : Int) = r14.2.1 then
                        Option.bind (Di_ScoreOf r9.1) fun r24 =>
                        if r24.2 = true then
                          if r24.1 < (-3) then
                            some false
                          else
                            if r24.1 > 3 then
                              some false
                            else
                              loop Bw_FnScores (.h1 r3.1 r3.2 r2.Dice r2.Columns r2.Results)
                        else
                          some false
                      else
                        some false
                    else
                      some false
                else
                  some false
            else
              some false
    else
      Option.bind (Ds_ResultAt r8.1 r8.2.1 r8.2.2) fun r11 =>
      Option.bind (Ds_DrawMeanScore a1) fun r12 =>
      Option.bind (Di_MeanScore r12.1 r12.2) fun r13 =>
      Option.bind (Ds_MeanScore r12.1 r12.2) fun r14 =>
      if (!(r3.2 == r4.2)) = true then
        some false
      else
        if (!(r3.1 == r4.1)) = true then
          some false
        else
          if (!(r6.2 == r7.2)) = true then
            some false
          else
            if (r6.1 : Int) = r7.1 then
              if (!(false == r11.2)) = true then
                some false
              else
                if (r9.1 : Int) = r11.1 then
                  if (!(r13.2.2 == r14.2.2)) = true then
                    some false
                  else
                    if (r13.1 : Int) = r14.1 then
                      if (r13.2.1 : Int) = r14.2.1 then
                        loop Bw_FnScores (.h1 r3.1 r3.2 r2.Dice r2.Columns r2.Results)
                      else
                        some false
                    else
                      some false
                else
                  some false
            else
              some false
end Go.Proofs.Ytlniejjcejackaa.Ab
