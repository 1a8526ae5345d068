/- Part of the proof of FnTrees: no condition of its own. -/
import Derived.Test.YtfnhclmdobdkbaaAb4
set_option linter.unusedVariables false
set_option linter.unusedSimpArgs false
open Go
namespace Go.Proofs.Ytfnhclmdobdkbaa.Ab
structure Gi_Node where
  mk ::
  Parent : Int
  Turn : Int
  Hash : Int
def gi_Node (x : Gi_Node) : D := .agg [I x.Parent, I x.Turn, I x.Hash]
structure Gs_l1Cur where
  mk ::
  code : (List Int)
  at_ : Int
  seed : Int
def gs_l1Cur (x : Gs_l1Cur) : D := .agg [sl 1 (D.int .u8) x.code, I x.at_, .int .u64 x.seed]

/-! loop example/g00886/laws big -/
noncomputable def Dw_big (a0 : (List Int)) (a1 : (List Int)) : Option (Bool) :=
  if ((a0.length : Nat) : Int) > 1048576 then
    some true
  else
    some (decide (((a1.length : Nat) : Int) > (IntKind.wrap .i64 (1048576 - ((a0.length : Nat) : Int)))))
/-!   loop example/g00886/spec l1Cur  next -/
noncomputable def Ds_l1Cur_next (a0 : Gs_l1Cur) : Option (Int × Gs_l1Cur) :=
  if a0.at_ < ((a0.code.length : Nat) : Int) then
    if 0 ≤ a0.at_ then
      Option.bind (a0.code[(Int.toNat a0.at_)]?) fun x3 =>
      if (IntKind.wrap .i64 (a0.at_ + 1)) ≤ ((a0.code.length : Nat) : Int) then
        some ((IntKind.wrap .i64 x3), (Gs_l1Cur.mk a0.code (IntKind.wrap .i64 (a0.at_ + 1)) (IntKind.wrap .u64 ((IntKind.wrap .u64 ((IntKind.wrap .u64 (a0.seed * 6364136223846793005)) + (IntKind.wrap .u64 (IntKind.wrap .i64 x3)))) + 1442695040888963407))))
      else
        some ((IntKind.wrap .i64 (IntKind.wrap .u64 ((BitVec.toNat (BitVec.ofInt (IntKind.bits .u64) (Int.fdiv (IntKind.wrap .u64 ((IntKind.wrap .u64 ((IntKind.wrap .u64 (a0.seed * 6364136223846793005)) + (IntKind.wrap .u64 (IntKind.wrap .i64 x3)))) + 1442695040888963407)) (2 ^ min (Int.toNat 40) (IntKind.bits .u64))) &&& BitVec.ofInt (IntKind.bits .u64) 255) : Nat) : Int))), (Gs_l1Cur.mk a0.code (IntKind.wrap .i64 (a0.at_ + 1)) (IntKind.wrap .u64 ((IntKind.wrap .u64 ((IntKind.wrap .u64 (a0.seed * 6364136223846793005)) + (IntKind.wrap .u64 (IntKind.wrap .i64 x3)))) + 1442695040888963407))))
    else none
  else
    if (IntKind.wrap .i64 (a0.at_ + 1)) ≤ ((a0.code.length : Nat) : Int) then
      some (0, (Gs_l1Cur.mk a0.code (IntKind.wrap .i64 (a0.at_ + 1)) (IntKind.wrap .u64 ((IntKind.wrap .u64 ((IntKind.wrap .u64 (a0.seed * 6364136223846793005)) + (IntKind.wrap .u64 0))) + 1442695040888963407))))
    else
      some ((IntKind.wrap .i64 (IntKind.wrap .u64 ((BitVec.toNat (BitVec.ofInt (IntKind.bits .u64) (Int.fdiv (IntKind.wrap .u64 ((IntKind.wrap .u64 ((IntKind.wrap .u64 (a0.seed * 6364136223846793005)) + (IntKind.wrap .u64 0))) + 1442695040888963407)) (2 ^ min (Int.toNat 40) (IntKind.bits .u64))) &&& BitVec.ofInt (IntKind.bits .u64) 255) : Nat) : Int))), (Gs_l1Cur.mk a0.code (IntKind.wrap .i64 (a0.at_ + 1)) (IntKind.wrap .u64 ((IntKind.wrap .u64 ((IntKind.wrap .u64 (a0.seed * 6364136223846793005)) + (IntKind.wrap .u64 0))) + 1442695040888963407))))
/-!   loop example/g00886/spec l1Cur  pick -/
noncomputable def Ds_l1Cur_pick (a0 : Gs_l1Cur) (a1 : Int) : Option (Int × Gs_l1Cur) :=
  if a1 ≤ 1 then
    some (0, a0)
  else
    Option.bind (Ds_l1Cur_next a0) fun r2 =>
    if a1 > 200 then
      Option.bind (Ds_l1Cur_next r2.2) fun r4 =>
      if ¬ a1 = 0 then
        some ((Int.tmod (IntKind.wrap .i64 ((IntKind.wrap .i64 (r2.1 * 256)) + r4.1)) a1), r4.2)
      else none
    else
      if ¬ a1 = 0 then
        some ((Int.tmod r2.1 a1), r2.2)
      else none
/-! loop example/g00886/spec nChild -/
inductive Ss_nChild where
  | h1 (parent0 : Int) (vhash1 : Int) (t2 : (List Gi_Node)) (t3 : Int) (t4 : Int)
noncomputable def Bs_nChild : Ss_nChild → Option (Ss_nChild ⊕ (Int))
  | .h1 parent0 vhash1 t2 t3 t4 =>
    if t4 < t3 then
      if 0 ≤ t4 then
        Option.bind (t2[(Int.toNat t4)]?) fun x3 =>
        if (x3.Parent : Int) = parent0 then
          if (x3.Hash : Int) = vhash1 then
            some (.inr t4)
          else
            some (.inl (.h1 parent0 vhash1 t2 t3 (IntKind.wrap .i64 (t4 + 1))))
        else
          some (.inl (.h1 parent0 vhash1 t2 t3 (IntKind.wrap .i64 (t4 + 1))))
      else none
    else
      some (.inr (-1))
noncomputable def Ds_nChild (a0 : (List Gi_Node)) (a1 : Int) (a2 : Int) : Option (Int) :=
  loop Bs_nChild (.h1 a1 a2 a0 ((a0.length : Nat) : Int) 0)
/-! loop example/g00886/spec nAdd -/
noncomputable def Ds_nAdd (a0 : (List Gi_Node)) (a1 : Int) (a2 : Int) : Option ((List Gi_Node) × Int × Bool) :=
  Option.bind (Ds_nChild a0 a1 a2) fun r1 =>
  if r1 ≥ 0 then
    if a0.length * 24 ≤ 70368744177664 then
      some (a0, r1, true)
    else none
  else
    if (((a0.length : Nat) : Int) : Int) = 40 then
      some ([], 0, false)
    else
      if 0 ≤ a1 then
        Option.bind (a0[(Int.toNat a1)]?) fun x5 =>
        if (x5.Turn : Int) = 30 then
          some ([], 0, false)
        else
          if a0.length * 24 ≤ 70368744177664 then
            if 0 ≤ a1 then
              Option.bind (a0[(Int.toNat a1)]?) fun x9 =>
              if (a0 ++ [(Gi_Node.mk a1 (IntKind.wrap .i64 (x9.Turn + 1)) a2)]).length * 24 ≤ 70368744177664 then
                some ((a0 ++ [(Gi_Node.mk a1 (IntKind.wrap .i64 (x9.Turn + 1)) a2)]), ((a0.length : Nat) : Int), true)
              else none
            else none
          else none
      else none
/-!   loop example/g00886/spec l1Cur  nodes -/
inductive Ss_l1Cur_nodes where
  | h1 (k0 : Int) (b1 : Gs_l1Cur) (l2 : (List Gi_Node))
noncomputable def Bs_l1Cur_nodes : Ss_l1Cur_nodes → Option (Ss_l1Cur_nodes ⊕ ((List Gi_Node) × Gs_l1Cur))
  | .h1 k0 b1 l2 =>
    if k0 > 0 then
      Option.bind (Ds_l1Cur_pick b1 ((l2.length : Nat) : Int)) fun r2 =>
      Option.bind (Ds_l1Cur_pick r2.2 4) fun r3 =>
      Option.bind (Ds_nAdd l2 r2.1 r3.1) fun r4 =>
      if r4.2.2 = true then
        some (.inl (.h1 (IntKind.wrap .i64 (k0 - 1)) r3.2 r4.1))
      else
        some (.inl (.h1 (IntKind.wrap .i64 (k0 - 1)) r3.2 l2))
    else
      some (.inr (l2, b1))
noncomputable def Ds_l1Cur_nodes (a0 : Gs_l1Cur) : Option ((List Gi_Node) × Gs_l1Cur) :=
  Option.bind (Ds_l1Cur_pick a0 9) fun r1 =>
  loop Bs_l1Cur_nodes (.h1 r1.1 r1.2 [(Gi_Node.mk (-1) 0 5)])
/-!   loop example/g00886/spec l1Cur  one -/
noncomputable def Ds_l1Cur_one (a0 : Gs_l1Cur) (a1 : Int) : Option (Bool × Gs_l1Cur) :=
  Option.bind (Ds_l1Cur_pick a0 a1) fun r1 =>
  some (((r1.1 : Int) == 0), r1.2)
/-!   loop example/g00886/spec l1Cur  among -/
noncomputable def Ds_l1Cur_among (a0 : Gs_l1Cur) (a1 : (List Int)) : Option (Int × Gs_l1Cur) :=
  Option.bind (Ds_l1Cur_pick a0 ((a1.length : Nat) : Int)) fun r1 =>
  if 0 ≤ r1.1 then
    Option.bind (a1[(Int.toNat r1.1)]?) fun x3 =>
    some (x3, r1.2)
  else none
/-!   loop example/g00886/spec l1Cur  seedOf -/
noncomputable def Ds_l1Cur_seedOf (a0 : Gs_l1Cur) : Option (Int × Gs_l1Cur) :=
  Option.bind (Ds_l1Cur_pick a0 12) fun r1 =>
  if (r1.1 : Int) = 0 then
    some (0, r1.2)
  else
    if (r1.1 : Int) = 1 then
      Option.bind (Ds_l1Cur_among r1.2 [4611686016279904236, 123456789012]) fun r4 =>
      some (r4.1, r4.2)
    else
      Option.bind (Ds_l1Cur_pick r1.2 60000) fun r4 =>
      some (r4.1, r4.2)
/-!   loop example/g00886/spec l1Cur  anySeed -/
noncomputable def Ds_l1Cur_anySeed (a0 : Gs_l1Cur) : Option (Int × Gs_l1Cur) :=
  Option.bind (Ds_l1Cur_one a0 24) fun r1 =>
  if r1.1 = true then
    Option.bind (Ds_l1Cur_among r1.2 [(-1), 4611686016279904237]) fun r3 =>
    some (r3.1, r3.2)
  else
    Option.bind (Ds_l1Cur_seedOf r1.2) fun r3 =>
    some (r3.1, r3.2)
/-!   loop example/g00886/spec l1Cur  anyNodes -/
inductive Ss_l1Cur_anyNodes where
  | h1 (t0 : Int) (b1 : Gs_l1Cur) (l2 : (List Gi_Node))
  | h2 (b0 : Gs_l1Cur) (l1 : (List Gi_Node))
noncomputable def Bs_l1Cur_anyNodes : Ss_l1Cur_anyNodes → Option (Ss_l1Cur_anyNodes ⊕ ((List Gi_Node) × Gs_l1Cur))
  | .h1 t0 b1 l2 =>
    if ((l2.length : Nat) : Int) < t0 then
      if (l2 ++ [(Gi_Node.mk 0 1 (IntKind.wrap .i64 (100 + ((l2.length : Nat) : Int))))]).length * 24 ≤ 70368744177664 then
        some (.inl (.h1 t0 b1 (l2 ++ [(Gi_Node.mk 0 1 (IntKind.wrap .i64 (100 + ((l2.length : Nat) : Int))))])))
      else none
    else
      some (.inr (l2, b1))
  | .h2 b0 l1 =>
    if ((l1.length : Nat) : Int) < 31 then
      if (l1 ++ [(Gi_Node.mk (IntKind.wrap .i64 (((l1.length : Nat) : Int) - 1)) ((l1.length : Nat) : Int) 1)]).length * 24 ≤ 70368744177664 then
        some (.inl (.h2 b0 (l1 ++ [(Gi_Node.mk (IntKind.wrap .i64 (((l1.length : Nat) : Int) - 1)) ((l1.length : Nat) : Int) 1)])))
      else none
    else
      some (.inr (l1, b0))
noncomputable def Ds_l1Cur_anyNodes (a0 : Gs_l1Cur) : Option ((List Gi_Node) × Gs_l1Cur) :=
  Option.bind (Ds_l1Cur_nodes a0) fun r1 =>
  Option.bind (Ds_l1Cur_pick r1.2 24) fun r2 =>
  if (r2.1 : Int) = 0 then
    Option.bind (r1.1[(Int.toNat 0)]?) fun x4 =>
    some ((List.set r1.1 (Int.toNat 0) (Gi_Node.mk 0 x4.Turn x4.Hash)), r2.2)
  else
    if (r2.1 : Int) = 1 then
      if 0 ≤ (IntKind.wrap .i64 (((r1.1.length : Nat) : Int) - 1)) then
        Option.bind (r1.1[(Int.toNat (IntKind.wrap .i64 (((r1.1.length : Nat) : Int) - 1)))]?) fun x6 =>
        if (r1.1 ++ [x6]).length * 24 ≤ 70368744177664 then
          some ((r1.1 ++ [x6]), r2.2)
        else none
      else none
    else
      if (r2.1 : Int) = 2 then
        if 0 ≤ (IntKind.wrap .i64 (((r1.1.length : Nat) : Int) - 1)) then
          Option.bind (r1.1[(Int.toNat (IntKind.wrap .i64 (((r1.1.length : Nat) : Int) - 1)))]?) fun x7 =>
          if 0 ≤ (IntKind.wrap .i64 (((r1.1.length : Nat) : Int) - 1)) then
            Option.bind (r1.1[(Int.toNat (IntKind.wrap .i64 (((r1.1.length : Nat) : Int) - 1)))]?) fun x9 =>
            some ((List.set r1.1 (Int.toNat (IntKind.wrap .i64 (((r1.1.length : Nat) : Int) - 1))) (Gi_Node.mk x9.Parent (IntKind.wrap .i64 (x7.Turn + 1)) x9.Hash)), r2.2)
          else none
        else none
      else
        if (r2.1 : Int) = 3 then
          Option.bind (Ds_l1Cur_pick r2.2 2) fun r7 =>
          loop Bs_l1Cur_anyNodes (.h1 (IntKind.wrap .i64 (40 + r7.1)) r7.2 r1.1)
        else
          if (r2.1 : Int) = 4 then
            Option.bind (Ds_l1Cur_anySeed r2.2) fun r8 =>
            if 0 ≤ (IntKind.wrap .i64 (((r1.1.length : Nat) : Int) - 1)) then
              Option.bind (r1.1[(Int.toNat (IntKind.wrap .i64 (((r1.1.length : Nat) : Int) - 1)))]?) fun x10 =>
              some ((List.set r1.1 (Int.toNat (IntKind.wrap .i64 (((r1.1.length : Nat) : Int) - 1))) (Gi_Node.mk x10.Parent x10.Turn r8.1)), r8.2)
            else none
          else
            if (r2.1 : Int) = 5 then
              if (1 : Int) ≤ ((r1.1.length : Nat) : Int) then
                loop Bs_l1Cur_anyNodes (.h2 r2.2 (List.take ((Int.toNat 1) - 0) (List.drop 0 r1.1)))
              else none
            else
              some (r1.1, r2.2)
/-! loop example/g00886/spec DrawGraftTree -/
noncomputable def Ds_DrawGraftTree (a0 : (List Int)) : Option ((List Gi_Node) × (List Gi_Node)) :=
  Option.bind (Ds_l1Cur_anyNodes (Gs_l1Cur.mk a0 0 0)) fun r1 =>
  Option.bind (Ds_l1Cur_anyNodes r1.2) fun r2 =>
  Option.bind (Ds_l1Cur_one r2.2 16) fun r3 =>
  if r3.1 = true then
    Option.bind (r2.1[(Int.toNat 0)]?) fun x5 =>
    some (r1.1, (List.set r2.1 (Int.toNat 0) (Gi_Node.mk x5.Parent x5.Turn 6)))
  else
    some (r1.1, r2.1)
/-! loop example/g00886/impl inRange -/
noncomputable def Di_inRange (a0 : Int) (a1 : Int) (a2 : Int) : Option (Bool) :=
  if a1 ≤ a0 then
    some (decide (a0 ≤ a2))
  else
    some false
/-! loop example/g00886/impl isSeed -/
noncomputable def Di_isSeed (a0 : Int) : Option (Bool) :=
  Option.bind (Di_inRange a0 0 4611686016279904236) fun r1 =>
  some r1
/-! loop example/g00886/impl isIndex -/
noncomputable def Di_isIndex (a0 : Int) (a1 : Int) : Option (Bool) :=
  Option.bind (Di_inRange a0 0 (IntKind.wrap .i64 (a1 - 1))) fun r1 =>
  some r1
/-! loop example/g00886/impl isTurn -/
noncomputable def Di_isTurn (a0 : Int) : Option (Bool) :=
  Option.bind (Di_inRange a0 0 30) fun r1 =>
  some r1
/-! loop example/g00886/impl childWith 1 -/
noncomputable def Di_childWith_1 (a0 : Gi_Node) (a1 : Int) (a2 : Int) : Option (Bool) :=
  if (a0.Parent : Int) = a1 then
    some ((a0.Hash : Int) == a2)
  else
    some false
/-! slices IndexFunc   loop example/g00886/impl Node loop example/g00886/impl Node  -/
inductive Sslices_IndexFunc_i_Node_i_childWith_1 where
  | h1 (s0 : (List Gi_Node)) (f1 : Int) (f2 : Int) (t3 : Int) (t4 : Int)
noncomputable def Bslices_IndexFunc_i_Node_i_childWith_1 : Sslices_IndexFunc_i_Node_i_childWith_1 → Option (Sslices_IndexFunc_i_Node_i_childWith_1 ⊕ (Int))
  | .h1 s0 f1 f2 t3 t4 =>
    if t4 < t3 then
      if 0 ≤ t4 then
        Option.bind (s0[(Int.toNat t4)]?) fun x3 =>
        Option.bind (Di_childWith_1 x3 f1 f2) fun r4 =>
        if r4 = true then
          some (.inr t4)
        else
          some (.inl (.h1 s0 f1 f2 t3 (IntKind.wrap .i64 (t4 + 1))))
      else none
    else
      some (.inr (-1))
noncomputable def Dslices_IndexFunc_i_Node_i_childWith_1 (a0 : (List Gi_Node)) (a100 : Int) (a101 : Int) : Option (Int) :=
  loop Bslices_IndexFunc_i_Node_i_childWith_1 (.h1 a0 a100 a101 ((a0.length : Nat) : Int) 0)
/-! loop example/g00886/impl childWith -/
noncomputable def Di_childWith (a0 : (List Gi_Node)) (a1 : Int) (a2 : Int) : Option (Int) :=
  Option.bind (Dslices_IndexFunc_i_Node_i_childWith_1 a0 a1 a2) fun r1 =>
  some r1
/-! loop example/g00886/impl IsTree -/
inductive Si_IsTree where
  | h1 (t0 : (List Gi_Node)) (t1 : (List Gi_Node)) (t2 : Int) (t3 : Int)
noncomputable def Bi_IsTree : Si_IsTree → Option (Si_IsTree ⊕ (Bool))
  | .h1 t0 t1 t2 t3 =>
    if t3 < t2 then
      if 0 ≤ t3 then
        Option.bind (t1[(Int.toNat t3)]?) fun x3 =>
        Option.bind (Di_isSeed x3.Hash) fun r4 =>
        if r4 = true then
          if t3 > 0 then
            Option.bind (Di_isIndex x3.Parent t3) fun r7 =>
            if r7 = true then
              if 0 ≤ x3.Parent then
                Option.bind (t0[(Int.toNat x3.Parent)]?) fun x10 =>
                if (x3.Turn : Int) = (IntKind.wrap .i64 (x10.Turn + 1)) then
                  Option.bind (Di_isTurn x3.Turn) fun r12 =>
                  if r12 = true then
                    Option.bind (Di_childWith t0 x3.Parent x3.Hash) fun r14 =>
                    if (r14 : Int) = t3 then
                      some (.inl (.h1 t0 t1 t2 (IntKind.wrap .i64 (t3 + 1))))
                    else
                      some (.inr false)
                  else
                    some (.inr false)
                else
                  some (.inr false)
              else none
            else
              some (.inr false)
          else
            some (.inl (.h1 t0 t1 t2 (IntKind.wrap .i64 (t3 + 1))))
        else
          some (.inr false)
      else none
    else
      some (.inr true)
noncomputable def Di_IsTree (a0 : (List Gi_Node)) : Option (Bool) :=
  Option.bind (Di_inRange ((a0.length : Nat) : Int) 1 40) fun r1 =>
  if r1 = true then
    Option.bind (a0[(Int.toNat 0)]?) fun x3 =>
    if (x3.Parent : Int) = (-1) then
      Option.bind (a0[(Int.toNat 0)]?) fun x5 =>
      if (x5.Turn : Int) = 0 then
        loop Bi_IsTree (.h1 a0 a0 ((a0.length : Nat) : Int) 0)
      else
        some false
    else
      some false
  else
    some false
/-! slices Clone -/
noncomputable def Dslices_Clone_i_Node (a0 : (List Gi_Node)) : Option (List Gi_Node) := if List.length a0 * 24 ≤ 70368744177664 then some a0 else none
/-! loop example/g00886/impl childOf -/
noncomputable def Di_childOf (a0 : (List Gi_Node)) (a1 : Int) (a2 : Int) : Option ((List Gi_Node) × Int × Bool) :=
  Option.bind (Di_childWith a0 a1 a2) fun r1 =>
  if r1 ≥ 0 then
    Option.bind (Dslices_Clone_i_Node a0) fun r3 =>
    some (r3, r1, true)
  else
    if (((a0.length : Nat) : Int) : Int) = 40 then
      some ([], 0, false)
    else
      if 0 ≤ a1 then
        Option.bind (a0[(Int.toNat a1)]?) fun x5 =>
        if (x5.Turn : Int) = 30 then
          some ([], 0, false)
        else
          Option.bind (Dslices_Clone_i_Node a0) fun r7 =>
          if 0 ≤ a1 then
            Option.bind (a0[(Int.toNat a1)]?) fun x9 =>
            if (r7 ++ [(Gi_Node.mk a1 (IntKind.wrap .i64 (x9.Turn + 1)) a2)]).length * 24 ≤ 70368744177664 then
              some ((r7 ++ [(Gi_Node.mk a1 (IntKind.wrap .i64 (x9.Turn + 1)) a2)]), ((a0.length : Nat) : Int), true)
            else none
          else none
      else none
/-! loop example/g00886/impl GraftTree -/
inductive Si_GraftTree where
  | h1 (t0 : (List Gi_Node)) (t1 : Int) (t2 : Int) (l3 : (List Gi_Node)) (l4 : (List Int))
noncomputable def Bi_GraftTree : Si_GraftTree → Option (Si_GraftTree ⊕ ((List Gi_Node) × (List Int) × Bool))
  | .h1 t0 t1 t2 l3 l4 =>
    if t2 < t1 then
      if 0 ≤ t2 then
        Option.bind (t0[(Int.toNat t2)]?) fun x3 =>
        if 0 ≤ x3.Parent then
          Option.bind (l4[(Int.toNat x3.Parent)]?) fun x5 =>
          Option.bind (Di_childOf l3 x5 x3.Hash) fun r6 =>
          if r6.2.2 = true then
            if (l4 ++ [r6.2.1]).length * 8 ≤ 70368744177664 then
              some (.inl (.h1 t0 t1 (IntKind.wrap .i64 (t2 + 1)) r6.1 (l4 ++ [r6.2.1])))
            else none
          else
            some (.inr ([], [], false))
        else none
      else none
    else
      some (.inr (l3, l4, true))
noncomputable def Di_GraftTree (a0 : (List Gi_Node)) (a1 : (List Gi_Node)) : Option ((List Gi_Node) × (List Int) × Bool) :=
  Option.bind (Di_IsTree a0) fun r1 =>
  if r1 = true then
    Option.bind (Di_IsTree a1) fun r3 =>
    if r3 = true then
      Option.bind (a0[(Int.toNat 0)]?) fun x5 =>
      Option.bind (a1[(Int.toNat 0)]?) fun x6 =>
      if (x5.Hash : Int) = x6.Hash then
        Option.bind (Dslices_Clone_i_Node a0) fun r8 =>
        if (1 : Int) ≤ ((a1.length : Nat) : Int) then
          loop Bi_GraftTree (.h1 (List.take (a1.length - (Int.toNat 1)) (List.drop (Int.toNat 1) a1)) (((List.take (a1.length - (Int.toNat 1)) (List.drop (Int.toNat 1) a1)).length : Nat) : Int) 0 r8 [0])
        else none
      else
        some ([], [], false)
    else
      some ([], [], false)
  else
    some ([], [], false)
/-! loop example/g00886/spec l1In -/
noncomputable def Ds_l1In (a0 : Int) (a1 : Int) (a2 : Int) : Option (Bool) :=
  if a0 ≥ a1 then
    some (decide (a0 ≤ a2))
  else
    some false
/-! loop example/g00886/spec dSeed -/
noncomputable def Ds_dSeed (a0 : Int) : Option (Bool) :=
  Option.bind (Ds_l1In a0 0 4611686016279904236) fun r1 =>
  some r1
/-! loop example/g00886/spec nGood -/
inductive Ss_nGood where
  | h1 (t0 : (List Gi_Node)) (t1 : (List Gi_Node)) (t2 : Int) (t3 : Int)
noncomputable def Bs_nGood : Ss_nGood → Option (Ss_nGood ⊕ (Bool))
  | .h1 t0 t1 t2 t3 =>
    if t3 < t2 then
      if 0 ≤ t3 then
        Option.bind (t1[(Int.toNat t3)]?) fun x3 =>
        Option.bind (Ds_dSeed x3.Hash) fun r4 =>
        if r4 = true then
          if (t3 : Int) = 0 then
            if (x3.Parent : Int) = (-1) then
              if (x3.Turn : Int) = 0 then
                some (.inl (.h1 t0 t1 t2 (IntKind.wrap .i64 (t3 + 1))))
              else
                some (.inr false)
            else
              some (.inr false)
          else
            Option.bind (Ds_l1In x3.Parent 0 (IntKind.wrap .i64 (t3 - 1))) fun r7 =>
            if r7 = true then
              if 0 ≤ x3.Parent then
                Option.bind (t0[(Int.toNat x3.Parent)]?) fun x10 =>
                if (x3.Turn : Int) = (IntKind.wrap .i64 (x10.Turn + 1)) then
                  if x3.Turn > 30 then
                    some (.inr false)
                  else
                    if (0 : Int) ≤ t3 then
                      if (t3 : Int) ≤ ((t0.length : Nat) : Int) then
                        Option.bind (Ds_nChild (List.take ((Int.toNat t3) - 0) (List.drop 0 t0)) x3.Parent x3.Hash) fun r15 =>
                        if r15 ≥ 0 then
                          some (.inr false)
                        else
                          some (.inl (.h1 t0 t1 t2 (IntKind.wrap .i64 (t3 + 1))))
                      else none
                    else none
                else
                  some (.inr false)
              else none
            else
              some (.inr false)
        else
          some (.inr false)
      else none
    else
      some (.inr true)
noncomputable def Ds_nGood (a0 : (List Gi_Node)) : Option (Bool) :=
  Option.bind (Ds_l1In ((a0.length : Nat) : Int) 1 40) fun r1 =>
  if r1 = true then
    loop Bs_nGood (.h1 a0 a0 ((a0.length : Nat) : Int) 0)
  else
    some false
/-! loop example/g00886/spec GraftTree -/
inductive Ss_GraftTree where
  | h1 (t0 : (List Gi_Node)) (t1 : Int) (t2 : Int) (l3 : (List Gi_Node)) (l4 : (List Int))
noncomputable def Bs_GraftTree : Ss_GraftTree → Option (Ss_GraftTree ⊕ ((List Gi_Node) × (List Int) × Bool))
  | .h1 t0 t1 t2 l3 l4 =>
    if t2 < t1 then
      if 0 ≤ t2 then
        Option.bind (t0[(Int.toNat t2)]?) fun x3 =>
        if 0 ≤ x3.Parent then
          Option.bind (l4[(Int.toNat x3.Parent)]?) fun x5 =>
          Option.bind (Ds_nAdd l3 x5 x3.Hash) fun r6 =>
          if r6.2.2 = true then
            if (l4 ++ [r6.2.1]).length * 8 ≤ 70368744177664 then
              some (.inl (.h1 t0 t1 (IntKind.wrap .i64 (t2 + 1)) r6.1 (l4 ++ [r6.2.1])))
            else none
          else
            some (.inr ([], [], false))
        else none
      else none
    else
      some (.inr (l3, l4, true))
noncomputable def Ds_GraftTree (a0 : (List Gi_Node)) (a1 : (List Gi_Node)) : Option ((List Gi_Node) × (List Int) × Bool) :=
  Option.bind (Ds_nGood a0) fun r1 =>
  if r1 = true then
    Option.bind (Ds_nGood a1) fun r3 =>
    if r3 = true then
      Option.bind (a0[(Int.toNat 0)]?) fun x5 =>
      Option.bind (a1[(Int.toNat 0)]?) fun x6 =>
      if (x5.Hash : Int) = x6.Hash then
        if a0.length * 24 ≤ 70368744177664 then
          if (1 : Int) ≤ ((a1.length : Nat) : Int) then
            loop Bs_GraftTree (.h1 (List.take (a1.length - (Int.toNat 1)) (List.drop (Int.toNat 1) a1)) (((List.take (a1.length - (Int.toNat 1)) (List.drop (Int.toNat 1) a1)).length : Nat) : Int) 0 a0 [0])
          else none
        else none
      else
        some ([], [], false)
    else
      some ([], [], false)
  else
    some ([], [], false)
/-! loop example/g00886/laws pSameNodes -/
inductive Sw_pSameNodes where
  | h1 (va0 : (List Gi_Node)) (b1 : (List Gi_Node)) (t2 : Int) (t3 : Int)
noncomputable def Bw_pSameNodes : Sw_pSameNodes → Option (Sw_pSameNodes ⊕ (Bool))
  | .h1 va0 b1 t2 t3 =>
    if t3 < t2 then
      if 0 ≤ t3 then
        Option.bind (va0[(Int.toNat t3)]?) fun x3 =>
        if 0 ≤ t3 then
          Option.bind (b1[(Int.toNat t3)]?) fun x5 =>
          if (!((x3.Parent == x5.Parent) && ((x3.Turn == x5.Turn) && (x3.Hash == x5.Hash)))) = true then
            some (.inr false)
          else
            some (.inl (.h1 va0 b1 t2 (IntKind.wrap .i64 (t3 + 1))))
        else none
      else none
    else
      some (.inr true)
noncomputable def Dw_pSameNodes (a0 : (List Gi_Node)) (a1 : (List Gi_Node)) : Option (Bool) :=
  if (((a0.length : Nat) : Int) : Int) = ((a1.length : Nat) : Int) then
    loop Bw_pSameNodes (.h1 a0 a1 ((a0.length : Nat) : Int) 0)
  else
    some false
/-! loop example/g00886/laws sameInts -/
inductive Sw_sameInts where
  | h1 (va0 : (List Int)) (b1 : (List Int)) (t2 : Int) (t3 : Int)
noncomputable def Bw_sameInts : Sw_sameInts → Option (Sw_sameInts ⊕ (Bool))
  | .h1 va0 b1 t2 t3 =>
    if t3 < t2 then
      if 0 ≤ t3 then
        Option.bind (va0[(Int.toNat t3)]?) fun x3 =>
        if 0 ≤ t3 then
          Option.bind (b1[(Int.toNat t3)]?) fun x5 =>
          if (x3 : Int) = x5 then
            some (.inl (.h1 va0 b1 t2 (IntKind.wrap .i64 (t3 + 1))))
          else
            some (.inr false)
        else none
      else none
    else
      some (.inr true)
noncomputable def Dw_sameInts (a0 : (List Int)) (a1 : (List Int)) : Option (Bool) :=
  if (((a0.length : Nat) : Int) : Int) = ((a1.length : Nat) : Int) then
    loop Bw_sameInts (.h1 a0 a1 ((a0.length : Nat) : Int) 0)
  else
    some false
/-!   loop example/g00886/spec l1Cur  nodeOf -/
noncomputable def Ds_l1Cur_nodeOf (a0 : Gs_l1Cur) (a1 : (List Gi_Node)) : Option (Int × Gs_l1Cur) :=
  Option.bind (Ds_l1Cur_pick a0 16) fun r1 =>
  Option.bind (Ds_l1Cur_pick r1.2 (IntKind.wrap .i64 (((a1.length : Nat) : Int) + (IntKind.wrap .i64 (Int.tdiv r1.1 15))))) fun r2 =>
  Option.bind (Ds_l1Cur_pick r2.2 24) fun r3 =>
  some ((IntKind.wrap .i64 (r2.1 - (IntKind.wrap .i64 (Int.tdiv r3.1 23)))), r3.2)
/-! loop example/g00886/spec DrawForkOf -/
noncomputable def Ds_DrawForkOf (a0 : (List Int)) : Option ((List Gi_Node) × Int × Int) :=
  Option.bind (Ds_l1Cur_anyNodes (Gs_l1Cur.mk a0 0 0)) fun r1 =>
  Option.bind (Ds_l1Cur_nodeOf r1.2 r1.1) fun r2 =>
  Option.bind (Ds_l1Cur_nodeOf r2.2 r1.1) fun r3 =>
  some (r1.1, r2.1, r3.1)
/-! slices Reverse   int int  -/
inductive Sslices_Reverse_int where
  | h1 (i0 : Int) (j1 : Int) (l2 : (List Int))
noncomputable def Bslices_Reverse_int : Sslices_Reverse_int → Option (Sslices_Reverse_int ⊕ ((List Int)))
  | .h1 i0 j1 l2 =>
    if i0 < j1 then
      if 0 ≤ j1 then
        Option.bind (l2[(Int.toNat j1)]?) fun x3 =>
        if 0 ≤ i0 then
          Option.bind (l2[(Int.toNat i0)]?) fun x5 =>
          if 0 ≤ i0 then
            Option.bind (l2[(Int.toNat i0)]?) fun x7 =>
            if 0 ≤ j1 then
              Option.bind ((List.set l2 (Int.toNat i0) x3)[(Int.toNat j1)]?) fun x9 =>
              some (.inl (.h1 (IntKind.wrap .i64 (i0 + 1)) (IntKind.wrap .i64 (j1 - 1)) (List.set (List.set l2 (Int.toNat i0) x3) (Int.toNat j1) x5)))
            else none
          else none
        else none
      else none
    else
      some (.inr l2)
noncomputable def Dslices_Reverse_int (a0 : (List Int)) : Option ((List Int)) :=
  loop Bslices_Reverse_int (.h1 0 (IntKind.wrap .i64 (((a0.length : Nat) : Int) - 1)) a0)
/-! loop example/g00886/impl lineTo -/
inductive Si_lineTo where
  | h1 (l0 : (List Gi_Node)) (i1 : Int) (l2 : (List Int))
noncomputable def Bi_lineTo : Si_lineTo → Option (Si_lineTo ⊕ ((List Int)))
  | .h1 l0 i1 l2 =>
    if i1 ≥ 0 then
      if (l2 ++ [i1]).length * 8 ≤ 70368744177664 then
        if 0 ≤ i1 then
          Option.bind (l0[(Int.toNat i1)]?) fun x4 =>
          some (.inl (.h1 l0 x4.Parent (l2 ++ [i1])))
        else none
      else none
    else
      Option.bind (Dslices_Reverse_int l2) fun r2 =>
      if r2.length = l2.length then
        some (.inr r2)
      else none
noncomputable def Di_lineTo (a0 : (List Gi_Node)) (a1 : Int) : Option ((List Int)) :=
  loop Bi_lineTo (.h1 a0 a1 ([] : List Int))
/-! loop example/g00886/impl ForkOf -/
inductive Si_ForkOf where
  | h1 (fork0 : Int) (n1 : Int) (l2 : (List Int)) (l3 : (List Int))
noncomputable def Bi_ForkOf : Si_ForkOf → Option (Si_ForkOf ⊕ (Int × Bool))
  | .h1 fork0 n1 l2 l3 =>
    if n1 < (if ((l3.length : Nat) : Int) < ((l2.length : Nat) : Int) then ((l3.length : Nat) : Int) else ((l2.length : Nat) : Int)) then
      if 0 ≤ n1 then
        Option.bind (l2[(Int.toNat n1)]?) fun x3 =>
        if 0 ≤ n1 then
          Option.bind (l3[(Int.toNat n1)]?) fun x5 =>
          if (x3 : Int) = x5 then
            if 0 ≤ n1 then
              Option.bind (l2[(Int.toNat n1)]?) fun x8 =>
              some (.inl (.h1 x8 (IntKind.wrap .i64 (n1 + 1)) l2 l3))
            else none
          else
            some (.inr (fork0, true))
        else none
      else none
    else
      some (.inr (fork0, true))
noncomputable def Di_ForkOf (a0 : (List Gi_Node)) (a1 : Int) (a2 : Int) : Option (Int × Bool) :=
  Option.bind (Di_IsTree a0) fun r1 =>
  if r1 = true then
    Option.bind (Di_isIndex a1 ((a0.length : Nat) : Int)) fun r3 =>
    if r3 = true then
      Option.bind (Di_isIndex a2 ((a0.length : Nat) : Int)) fun r5 =>
      if r5 = true then
        Option.bind (Di_lineTo a0 a1) fun r7 =>
        Option.bind (Di_lineTo a0 a2) fun r8 =>
        loop Bi_ForkOf (.h1 0 0 r7 r8)
      else
        some (0, false)
    else
      some (0, false)
  else
    some (0, false)
/-! loop example/g00886/spec nNode -/
noncomputable def Ds_nNode (a0 : (List Gi_Node)) (a1 : Int) : Option (Bool) :=
  Option.bind (Ds_nGood a0) fun r1 =>
  if r1 = true then
    Option.bind (Ds_l1In a1 0 (IntKind.wrap .i64 (((a0.length : Nat) : Int) - 1))) fun r3 =>
    some r3
  else
    some false
/-! loop example/g00886/spec nLine -/
inductive Ss_nLine where
  | h1 (l0 : (List Gi_Node)) (i1 : Int) (l2 : (List Int))
noncomputable def Bs_nLine : Ss_nLine → Option (Ss_nLine ⊕ ((List Int)))
  | .h1 l0 i1 l2 =>
    if i1 ≥ 0 then
      if ([i1] ++ l2).length * 8 ≤ 70368744177664 then
        if 0 ≤ i1 then
          Option.bind (l0[(Int.toNat i1)]?) fun x4 =>
          some (.inl (.h1 l0 x4.Parent ([i1] ++ l2)))
        else none
      else none
    else
      some (.inr l2)
noncomputable def Ds_nLine (a0 : (List Gi_Node)) (a1 : Int) : Option ((List Int)) :=
  loop Bs_nLine (.h1 a0 a1 ([] : List Int))
/-! loop example/g00886/spec ForkOf -/
inductive Ss_ForkOf where
  | h1 (last0 : Int) (n1 : Int) (l2 : (List Int)) (l3 : (List Int))
noncomputable def Bs_ForkOf : Ss_ForkOf → Option (Ss_ForkOf ⊕ (Int × Bool))
  | .h1 last0 n1 l2 l3 =>
    if n1 < ((l2.length : Nat) : Int) then
      if n1 < ((l3.length : Nat) : Int) then
        if 0 ≤ n1 then
          Option.bind (l2[(Int.toNat n1)]?) fun x4 =>
          if 0 ≤ n1 then
            Option.bind (l3[(Int.toNat n1)]?) fun x6 =>
            if (x4 : Int) = x6 then
              if 0 ≤ n1 then
                Option.bind (l2[(Int.toNat n1)]?) fun x9 =>
                some (.inl (.h1 x9 (IntKind.wrap .i64 (n1 + 1)) l2 l3))
              else none
            else
              some (.inr (last0, true))
          else none
        else none
      else
        some (.inr (last0, true))
    else
      some (.inr (last0, true))
noncomputable def Ds_ForkOf (a0 : (List Gi_Node)) (a1 : Int) (a2 : Int) : Option (Int × Bool) :=
  Option.bind (Ds_nNode a0 a1) fun r1 =>
  if r1 = true then
    Option.bind (Ds_nNode a0 a2) fun r3 =>
    if r3 = true then
      Option.bind (Ds_nLine a0 a1) fun r5 =>
      Option.bind (Ds_nLine a0 a2) fun r6 =>
      loop Bs_ForkOf (.h1 0 0 r5 r6)
    else
      some (0, false)
  else
    some (0, false)
/-! loop example/g00886/impl LineTo -/
noncomputable def Di_LineTo (a0 : (List Gi_Node)) (a1 : Int) : Option ((List Int) × Bool) :=
  Option.bind (Di_IsTree a0) fun r1 =>
  if r1 = true then
    Option.bind (Di_isIndex a1 ((a0.length : Nat) : Int)) fun r3 =>
    if r3 = true then
      Option.bind (Di_lineTo a0 a1) fun r5 =>
      some (r5, true)
    else
      some ([], false)
  else
    some ([], false)
/-! loop example/g00886/spec LineTo -/
noncomputable def Ds_LineTo (a0 : (List Gi_Node)) (a1 : Int) : Option ((List Int) × Bool) :=
  Option.bind (Ds_nNode a0 a1) fun r1 =>
  if r1 = true then
    Option.bind (Ds_nLine a0 a1) fun r3 =>
    some (r3, true)
  else
    some ([], false)
/-! loop example/g00886/impl tipsOf 1 -/
noncomputable def Di_tipsOf_1 (a0 : Gi_Node) (a1 : Int) : Option (Bool) :=
  some ((a0.Parent : Int) == a1)
/-! slices IndexFunc   loop example/g00886/impl Node loop example/g00886/impl Node  -/
inductive Sslices_IndexFunc_i_Node_i_tipsOf_1 where
  | h1 (s0 : (List Gi_Node)) (f1 : Int) (t2 : Int) (t3 : Int)
noncomputable def Bslices_IndexFunc_i_Node_i_tipsOf_1 : Sslices_IndexFunc_i_Node_i_tipsOf_1 → Option (Sslices_IndexFunc_i_Node_i_tipsOf_1 ⊕ (Int))
  | .h1 s0 f1 t2 t3 =>
    if t3 < t2 then
      if 0 ≤ t3 then
        Option.bind (s0[(Int.toNat t3)]?) fun x3 =>
        Option.bind (Di_tipsOf_1 x3 f1) fun r4 =>
        if r4 = true then
          some (.inr t3)
        else
          some (.inl (.h1 s0 f1 t2 (IntKind.wrap .i64 (t3 + 1))))
      else none
    else
      some (.inr (-1))
noncomputable def Dslices_IndexFunc_i_Node_i_tipsOf_1 (a0 : (List Gi_Node)) (a100 : Int) : Option (Int) :=
  loop Bslices_IndexFunc_i_Node_i_tipsOf_1 (.h1 a0 a100 ((a0.length : Nat) : Int) 0)
/-! slices ContainsFunc   loop example/g00886/impl Node loop example/g00886/impl Node  -/
noncomputable def Dslices_ContainsFunc_i_Node_i_tipsOf_1 (a0 : (List Gi_Node)) (a100 : Int) : Option (Bool) :=
  Option.bind (Dslices_IndexFunc_i_Node_i_tipsOf_1 a0 a100) fun r1 =>
  some (decide (r1 ≥ 0))
/-! loop example/g00886/impl tipsOf -/
inductive Si_tipsOf where
  | h1 (l0 : (List Gi_Node)) (t1 : Int) (t2 : Int) (l3 : (List Int))
noncomputable def Bi_tipsOf : Si_tipsOf → Option (Si_tipsOf ⊕ ((List Int)))
  | .h1 l0 t1 t2 l3 =>
    if t2 < t1 then
      Option.bind (Dslices_ContainsFunc_i_Node_i_tipsOf_1 l0 t2) fun r2 =>
      if r2 = true then
        some (.inl (.h1 l0 t1 (IntKind.wrap .i64 (t2 + 1)) l3))
      else
        if (l3 ++ [t2]).length * 8 ≤ 70368744177664 then
          some (.inl (.h1 l0 t1 (IntKind.wrap .i64 (t2 + 1)) (l3 ++ [t2])))
        else none
    else
      some (.inr l3)
noncomputable def Di_tipsOf (a0 : (List Gi_Node)) : Option ((List Int)) :=
  loop Bi_tipsOf (.h1 a0 ((a0.length : Nat) : Int) 0 ([] : List Int))
/-! loop example/g00886/impl TipsOf -/
noncomputable def Di_TipsOf (a0 : (List Gi_Node)) : Option ((List Int) × Bool) :=
  Option.bind (Di_IsTree a0) fun r1 =>
  if r1 = true then
    Option.bind (Di_tipsOf a0) fun r3 =>
    some (r3, true)
  else
    some ([], false)
/-! loop example/g00886/spec nTips -/
inductive Ss_nTips where
  | h1 (l0 : (List Gi_Node)) (t1 : Int) (t2 : Int) (l3 : (List Int))
  | h2 (l0 : (List Gi_Node)) (i1 : Int) (tip2 : Bool) (t3 : Int) (t4 : Int) (t5 : (List Gi_Node)) (t6 : Int) (t7 : Int) (l8 : (List Int))
noncomputable def Bs_nTips : Ss_nTips → Option (Ss_nTips ⊕ ((List Int)))
  | .h1 l0 t1 t2 l3 =>
    if t2 < t1 then
      some (.inl (.h2 l0 t2 true t1 t2 l0 ((l0.length : Nat) : Int) 0 l3))
    else
      some (.inr l3)
  | .h2 l0 i1 true t3 t4 t5 t6 t7 l8 =>
    if t7 < t6 then
      if 0 ≤ t7 then
        Option.bind (t5[(Int.toNat t7)]?) fun x3 =>
        some (.inl (.h2 l0 i1 ((x3.Parent : Int) != i1) t3 t4 t5 t6 (IntKind.wrap .i64 (t7 + 1)) l8))
      else none
    else
      if (l8 ++ [i1]).length * 8 ≤ 70368744177664 then
        some (.inl (.h1 l0 t3 (IntKind.wrap .i64 (t4 + 1)) (l8 ++ [i1])))
      else none
  | .h2 l0 i1 false t3 t4 t5 t6 t7 l8 =>
    if t7 < t6 then
      if 0 ≤ t7 then
        Option.bind (t5[(Int.toNat t7)]?) fun x3 =>
        some (.inl (.h2 l0 i1 false t3 t4 t5 t6 (IntKind.wrap .i64 (t7 + 1)) l8))
      else none
    else
      some (.inl (.h1 l0 t3 (IntKind.wrap .i64 (t4 + 1)) l8))
noncomputable def Ds_nTips (a0 : (List Gi_Node)) : Option ((List Int)) :=
  loop Bs_nTips (.h1 a0 ((a0.length : Nat) : Int) 0 ([] : List Int))
/-! loop example/g00886/spec TipsOf -/
noncomputable def Ds_TipsOf (a0 : (List Gi_Node)) : Option ((List Int) × Bool) :=
  Option.bind (Ds_nGood a0) fun r1 =>
  if r1 = true then
    Option.bind (Ds_nTips a0) fun r3 =>
    some (r3, true)
  else
    some ([], false)
/-! loop example/g00886/impl MainTip -/
inductive Si_MainTip where
  | h1 (l0 : (List Gi_Node)) (best1 : Int) (t2 : Int) (t3 : Int) (l4 : (List Int))
noncomputable def Bi_MainTip : Si_MainTip → Option (Si_MainTip ⊕ (Int × Bool))
  | .h1 l0 best1 t2 t3 l4 =>
    if t3 < t2 then
      if 0 ≤ t3 then
        Option.bind (l4[(Int.toNat t3)]?) fun x3 =>
        if best1 < 0 then
          some (.inl (.h1 l0 x3 t2 (IntKind.wrap .i64 (t3 + 1)) l4))
        else
          if 0 ≤ x3 then
            Option.bind (l0[(Int.toNat x3)]?) fun x6 =>
            if 0 ≤ best1 then
              Option.bind (l0[(Int.toNat best1)]?) fun x8 =>
              if x6.Turn > x8.Turn then
                some (.inl (.h1 l0 x3 t2 (IntKind.wrap .i64 (t3 + 1)) l4))
              else
                some (.inl (.h1 l0 best1 t2 (IntKind.wrap .i64 (t3 + 1)) l4))
            else none
          else none
      else none
    else
      some (.inr (best1, true))
noncomputable def Di_MainTip (a0 : (List Gi_Node)) : Option (Int × Bool) :=
  Option.bind (Di_IsTree a0) fun r1 =>
  if r1 = true then
    Option.bind (Di_tipsOf a0) fun r3 =>
    loop Bi_MainTip (.h1 a0 (-1) ((r3.length : Nat) : Int) 0 r3)
  else
    some (0, false)
/-! loop example/g00886/spec MainTip -/
inductive Ss_MainTip where
  | h1 (l0 : (List Gi_Node)) (best1 : Int) (t2 : Int) (t3 : Int) (l4 : (List Int))
noncomputable def Bs_MainTip : Ss_MainTip → Option (Ss_MainTip ⊕ (Int × Bool))
  | .h1 l0 best1 t2 t3 l4 =>
    if t3 < t2 then
      if 0 ≤ t3 then
        Option.bind (l4[(Int.toNat t3)]?) fun x3 =>
        if best1 < 0 then
          some (.inl (.h1 l0 x3 t2 (IntKind.wrap .i64 (t3 + 1)) l4))
        else
          if 0 ≤ x3 then
            Option.bind (l0[(Int.toNat x3)]?) fun x6 =>
            if 0 ≤ best1 then
              Option.bind (l0[(Int.toNat best1)]?) fun x8 =>
              if x6.Turn > x8.Turn then
                some (.inl (.h1 l0 x3 t2 (IntKind.wrap .i64 (t3 + 1)) l4))
              else
                some (.inl (.h1 l0 best1 t2 (IntKind.wrap .i64 (t3 + 1)) l4))
            else none
          else none
      else none
    else
      some (.inr (best1, true))
noncomputable def Ds_MainTip (a0 : (List Gi_Node)) : Option (Int × Bool) :=
  Option.bind (Ds_nGood a0) fun r1 =>
  if r1 = true then
    Option.bind (Ds_nTips a0) fun r3 =>
    loop Bs_MainTip (.h1 a0 (-1) ((r3.length : Nat) : Int) 0 r3)
  else
    some (0, false)
/-! loop example/g00886/spec DrawChildOf -/
noncomputable def Ds_DrawChildOf (a0 : (List Int)) : Option ((List Gi_Node) × Int × Int) :=
  Option.bind (Ds_l1Cur_anyNodes (Gs_l1Cur.mk a0 0 0)) fun r1 =>
  Option.bind (Ds_l1Cur_pick r1.2 5) fun r2 =>
  Option.bind (Ds_l1Cur_one r2.2 24) fun r3 =>
  if r3.1 = true then
    Option.bind (Ds_l1Cur_anySeed r3.2) fun r5 =>
    Option.bind (Ds_l1Cur_one r5.2 3) fun r6 =>
    if r6.1 = true then
      some (r1.1, (IntKind.wrap .i64 (((r1.1.length : Nat) : Int) - 1)), r5.1)
    else
      Option.bind (Ds_l1Cur_nodeOf r6.2 r1.1) fun r8 =>
      some (r1.1, r8.1, r5.1)
  else
    Option.bind (Ds_l1Cur_one r3.2 3) fun r5 =>
    if r5.1 = true then
      some (r1.1, (IntKind.wrap .i64 (((r1.1.length : Nat) : Int) - 1)), r2.1)
    else
      Option.bind (Ds_l1Cur_nodeOf r5.2 r1.1) fun r7 =>
      some (r1.1, r7.1, r2.1)
/-! loop example/g00886/impl ChildOf -/
noncomputable def Di_ChildOf (a0 : (List Gi_Node)) (a1 : Int) (a2 : Int) : Option ((List Gi_Node) × Int × Bool) :=
  Option.bind (Di_IsTree a0) fun r1 =>
  if r1 = true then
    Option.bind (Di_isIndex a1 ((a0.length : Nat) : Int)) fun r3 =>
    if r3 = true then
      Option.bind (Di_isSeed a2) fun r5 =>
      if r5 = true then
        Option.bind (Di_childOf a0 a1 a2) fun r7 =>
        some (r7.1, r7.2.1, r7.2.2)
      else
        some ([], 0, false)
    else
      some ([], 0, false)
  else
    some ([], 0, false)
/-! loop example/g00886/spec ChildOf -/
noncomputable def Ds_ChildOf (a0 : (List Gi_Node)) (a1 : Int) (a2 : Int) : Option ((List Gi_Node) × Int × Bool) :=
  Option.bind (Ds_nNode a0 a1) fun r1 =>
  if r1 = true then
    Option.bind (Ds_dSeed a2) fun r3 =>
    if r3 = true then
      Option.bind (Ds_nAdd a0 a1 a2) fun r5 =>
      some (r5.1, r5.2.1, r5.2.2)
    else
      some ([], 0, false)
  else
    some ([], 0, false)
/-! loop example/g00886/laws FnTrees -/
inductive Sw_FnTrees where
  | h1 (t0 : (List Int)) (t1 : Int) (t2 : Int) (l3 : (List Gi_Node)) (l4 : (List Int)) (l5 : (List Gi_Node))
  | h2 (t0 : (List Int))
noncomputable def Bw_FnTrees : Sw_FnTrees → Option (Sw_FnTrees ⊕ (Bool))
  | .h1 t0 t1 t2 l3 l4 l5 =>
    if t2 < t1 then
      if 0 ≤ t2 then
        Option.bind (l5[(Int.toNat t2)]?) fun x3 =>
        if 0 ≤ t2 then
          Option.bind (l4[(Int.toNat t2)]?) fun x5 =>
          if 0 ≤ x5 then
            Option.bind (l3[(Int.toNat x5)]?) fun x7 =>
            if (x7.Hash : Int) = x3.Hash then
              if 0 ≤ t2 then
                Option.bind (l4[(Int.toNat t2)]?) fun x10 =>
                if 0 ≤ x10 then
                  Option.bind (l3[(Int.toNat x10)]?) fun x12 =>
                  if (x12.Turn : Int) = x3.Turn then
                    some (.inl (.h1 t0 t1 (IntKind.wrap .i64 (t2 + 1)) l3 l4 l5))
                  else
                    some (.inr false)
                else none
              else none
            else
              some (.inr false)
          else none
        else none
      else none
    else
      some (.inl (.h2 t0))
  | .h2 t0 =>
    Option.bind (Ds_DrawForkOf t0) fun r1 =>
    Option.bind (Di_ForkOf r1.1 r1.2.1 r1.2.2) fun r2 =>
    Option.bind (Ds_ForkOf r1.1 r1.2.1 r1.2.2) fun r3 =>
    Option.bind (Di_LineTo r1.1 r1.2.1) fun r4 =>
    Option.bind (Ds_LineTo r1.1 r1.2.1) fun r5 =>
    if (!(r2.2 == r3.2)) = true then
      some (.inr false)
    else
      if (r2.1 : Int) = r3.1 then
        if (!(r4.2 == r5.2)) = true then
          some (.inr false)
        else
          Option.bind (Dw_sameInts r4.1 r5.1) fun r9 =>
          if r9 = true then
            Option.bind (Di_TipsOf r1.1) fun r11 =>
            Option.bind (Ds_TipsOf r1.1) fun r12 =>
            Option.bind (Di_MainTip r1.1) fun r13 =>
            Option.bind (Ds_MainTip r1.1) fun r14 =>
            Option.bind (Ds_DrawChildOf t0) fun r15 =>
            Option.bind (Di_ChildOf r15.1 r15.2.1 r15.2.2) fun r16 =>
            Option.bind (Ds_ChildOf r15.1 r15.2.1 r15.2.2) fun r17 =>
            if (r11.2 == r12.2) = true then
              Option.bind (Dw_sameInts r11.1 r12.1) fun r19 =>
              if r19 = true then
                if (r13.2 == r14.2) = true then
                  if (r13.1 : Int) = r14.1 then
                    if (r16.2.2 == r17.2.2) = true then
                      if (r16.2.1 : Int) = r17.2.1 then
                        Option.bind (Dw_pSameNodes r16.1 r17.1) fun r25 =>
                        some (.inr r25)
                      else
                        some (.inr false)
                    else
                      some (.inr false)
                  else
                    some (.inr false)
                else
                  some (.inr false)
              else
                some (.inr false)
            else
              some (.inr false)
          else
            some (.inr false)
      else
        some (.inr false)
noncomputable def Dw_FnTrees (a0 : (List Int)) (a1 : (List Int)) : Option (Bool) :=
  Option.bind (Dw_big a0 a1) fun r1 =>
  if r1 = true then
    some true
  else
    Option.bind (Ds_DrawGraftTree a0) fun r3 =>
    Option.bind (Di_GraftTree r3.1 r3.2) fun r4 =>
    if r4.2.2 = true then
      Option.bind (Ds_GraftTree r3.1 r3.2) fun r6 =>
      if (!(true == r6.2.2)) = true then
        some false
      else
        Option.bind (Dw_pSameNodes r4.1 r6.1) fun r8 =>
        if r8 = true then
          Option.bind (Dw_sameInts r4.2.1 r6.2.1) fun r10 =>
          if r10 = true then
            Option.bind (Di_IsTree r4.1) fun r12 =>
            if r12 = true then
              if (((r6.2.1.length : Nat) : Int) : Int) = ((r3.2.length : Nat) : Int) then
                loop Bw_FnTrees (.h1 a1 ((r3.2.length : Nat) : Int) 0 r6.1 r6.2.1 r3.2)
              else
                some false
            else
              some false
          else
            some false
        else
          some false
    else
      Option.bind (Ds_GraftTree r3.1 r3.2) fun r6 =>
      if (!(false == r6.2.2)) = true then
        some false
      else
        Option.bind (Dw_pSameNodes r4.1 r6.1) fun r8 =>
        if r8 = true then
          Option.bind (Dw_sameInts r4.2.1 r6.2.1) fun r10 =>
          if r10 = true then
            loop Bw_FnTrees (.h2 a1)
          else
            some false
        else
          some false
end Go.Proofs.Ytfnhclmdobdkbaa.Ab
