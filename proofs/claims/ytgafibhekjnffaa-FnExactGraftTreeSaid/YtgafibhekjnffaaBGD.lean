/- Part of the proof of FnExactGraftTree: no condition of its own. -/
import Derived.Test.YtgafibhekjnffaaAb4
set_option linter.unusedVariables false
set_option linter.unusedSimpArgs false
open Go
namespace Go.Proofs.Ytgafibhekjnffaa.Ab
structure Gw_Node where
  mk ::
  Parent : Int
  Turn : Int
  Hash : Int
def gw_Node (x : Gw_Node) : D := .agg [I x.Parent, I x.Turn, I x.Hash]
structure Gi_Node where
  mk ::
  Parent : Int
  Turn : Int
  Hash : Int
def gi_Node (x : Gi_Node) : D := .agg [I x.Parent, I x.Turn, I x.Hash]
/-! loop example/g00886/laws szNodeS -/
noncomputable def Dw_szNodeS (a0 : (List Gw_Node)) (a1 : Int) : Option (Int) :=
  if (IntKind.wrap .i64 (a1 - ((a0.length : Nat) : Int))) < 0 then
    some (-1)
  else
    some (IntKind.wrap .i64 (a1 - ((a0.length : Nat) : Int)))
/-! loop example/g00886/laws toNode -/
noncomputable def Dw_toNode (a0 : Gw_Node) : Option (Gi_Node) :=
  some (Gi_Node.mk a0.Parent a0.Turn a0.Hash)
/-! loop example/g00886/laws toNodeS -/
inductive Sw_toNodeS where
  | h1 (va0 : (List Gw_Node)) (i1 : Int) (l2 : (List Gi_Node))
noncomputable def Bw_toNodeS : Sw_toNodeS → Option (Sw_toNodeS ⊕ ((List Gi_Node)))
  | .h1 va0 i1 l2 =>
    if i1 < ((va0.length : Nat) : Int) then
      if 0 ≤ i1 then
        Option.bind (va0[(Int.toNat i1)]?) fun x3 =>
        Option.bind (Dw_toNode x3) fun r4 =>
        if 0 ≤ i1 then
          Option.bind (l2[(Int.toNat i1)]?) fun x6 =>
          some (.inl (.h1 va0 (IntKind.wrap .i64 (i1 + 1)) (List.set l2 (Int.toNat i1) r4)))
        else none
      else none
    else
      some (.inr l2)
noncomputable def Dw_toNodeS (a0 : (List Gw_Node)) : Option ((List Gi_Node)) :=
  if Int.toNat ((a0.length : Nat) : Int) * 24 ≤ 140737488355328 then
    loop Bw_toNodeS (.h1 a0 0 (List.replicate (Int.toNat ((a0.length : Nat) : Int)) (Gi_Node.mk 0 0 0)))
  else none
/-! loop example/g00886/spec l1In -/
noncomputable def Ds_l1In (a0 : Int) (a1 : Int) (a2 : Int) : Option (Bool) :=
  if a0 ≥ a1 then
    some (decide (a0 ≤ a2))
  else
    some false
/-! loop example/g00886/spec dSeed -/
noncomputable def Ds_dSeed (a0 : Int) : Option (Bool) :=
  Option.bind (Ds_l1In a0 0 4611686016279904236) fun r1 =>
  some r1
/-! loop example/g00886/spec nChild -/
inductive Ss_nChild where
  | h1 (parent0 : Int) (vhash1 : Int) (t2 : (List Gi_Node)) (t3 : Int) (t4 : Int)
noncomputable def Bs_nChild : Ss_nChild → Option (Ss_nChild ⊕ (Int))
  | .h1 parent0 vhash1 t2 t3 t4 =>
    if t4 < t3 then
      if 0 ≤ t4 then
        Option.bind (t2[(Int.toNat t4)]?) fun x3 =>
        if (x3.Parent : Int) = parent0 then
          if (x3.Hash : Int) = vhash1 then
            some (.inr t4)
          else
            some (.inl (.h1 parent0 vhash1 t2 t3 (IntKind.wrap .i64 (t4 + 1))))
        else
          some (.inl (.h1 parent0 vhash1 t2 t3 (IntKind.wrap .i64 (t4 + 1))))
      else none
    else
      some (.inr (-1))
noncomputable def Ds_nChild (a0 : (List Gi_Node)) (a1 : Int) (a2 : Int) : Option (Int) :=
  loop Bs_nChild (.h1 a1 a2 a0 ((a0.length : Nat) : Int) 0)
/-! loop example/g00886/spec nGood -/
inductive Ss_nGood where
  | h1 (i0 : (List Gi_Node)) (t1 : (List Gi_Node)) (t2 : Int) (t3 : Int)
noncomputable def Bs_nGood : Ss_nGood → Option (Ss_nGood ⊕ (Bool))
  | .h1 i0 t1 t2 t3 =>
    if t3 < t2 then
      if 0 ≤ t3 then
        Option.bind (t1[(Int.toNat t3)]?) fun x3 =>
        Option.bind (Ds_dSeed x3.Hash) fun r4 =>
        if r4 = true then
          if (t3 : Int) = 0 then
            if (x3.Parent : Int) = (-1) then
              if (x3.Turn : Int) = 0 then
                some (.inl (.h1 i0 t1 t2 (IntKind.wrap .i64 (t3 + 1))))
              else
                some (.inr false)
            else
              some (.inr false)
          else
            Option.bind (Ds_l1In x3.Parent 0 (IntKind.wrap .i64 (t3 - 1))) fun r7 =>
            if r7 = true then
              if 0 ≤ x3.Parent then
                Option.bind (i0[(Int.toNat x3.Parent)]?) fun x10 =>
                if (x3.Turn : Int) = (IntKind.wrap .i64 (x10.Turn + 1)) then
                  if x3.Turn > 30 then
                    some (.inr false)
                  else
                    if (0 : Int) ≤ t3 then
                      if (t3 : Int) ≤ ((i0.length : Nat) : Int) then
                        Option.bind (Ds_nChild (List.take ((Int.toNat t3) - 0) (List.drop 0 i0)) x3.Parent x3.Hash) fun r15 =>
                        if r15 ≥ 0 then
                          some (.inr false)
                        else
                          some (.inl (.h1 i0 t1 t2 (IntKind.wrap .i64 (t3 + 1))))
                      else none
                    else none
                else
                  some (.inr false)
              else none
            else
              some (.inr false)
        else
          some (.inr false)
      else none
    else
      some (.inr true)
noncomputable def Ds_nGood (a0 : (List Gi_Node)) : Option (Bool) :=
  Option.bind (Ds_l1In ((a0.length : Nat) : Int) 1 40) fun r1 =>
  if r1 = true then
    loop Bs_nGood (.h1 a0 a0 ((a0.length : Nat) : Int) 0)
  else
    some false
/-! loop example/g00886/spec nAdd -/
noncomputable def Ds_nAdd (a0 : (List Gi_Node)) (a1 : Int) (a2 : Int) : Option ((List Gi_Node) × Int × Bool) :=
  Option.bind (Ds_nChild a0 a1 a2) fun r1 =>
  if r1 ≥ 0 then
    if a0.length * 24 ≤ 70368744177664 then
      some (a0, r1, true)
    else none
  else
    if (((a0.length : Nat) : Int) : Int) = 40 then
      some ([], 0, false)
    else
      if 0 ≤ a1 then
        Option.bind (a0[(Int.toNat a1)]?) fun x5 =>
        if (x5.Turn : Int) = 30 then
          some ([], 0, false)
        else
          if a0.length * 24 ≤ 70368744177664 then
            if 0 ≤ a1 then
              Option.bind (a0[(Int.toNat a1)]?) fun x9 =>
              if (a0 ++ [(Gi_Node.mk a1 (IntKind.wrap .i64 (x9.Turn + 1)) a2)]).length * 24 ≤ 70368744177664 then
                some ((a0 ++ [(Gi_Node.mk a1 (IntKind.wrap .i64 (x9.Turn + 1)) a2)]), ((a0.length : Nat) : Int), true)
              else none
            else none
          else none
      else none
/-! loop example/g00886/spec GraftTree -/
inductive Ss_GraftTree where
  | h1 (t0 : (List Gi_Node)) (t1 : Int) (t2 : Int) (l3 : (List Gi_Node)) (l4 : (List Int))
noncomputable def Bs_GraftTree : Ss_GraftTree → Option (Ss_GraftTree ⊕ ((List Gi_Node) × (List Int) × Bool))
  | .h1 t0 t1 t2 l3 l4 =>
    if t2 < t1 then
      if 0 ≤ t2 then
        Option.bind (t0[(Int.toNat t2)]?) fun x3 =>
        if 0 ≤ x3.Parent then
          Option.bind (l4[(Int.toNat x3.Parent)]?) fun x5 =>
          Option.bind (Ds_nAdd l3 x5 x3.Hash) fun r6 =>
          if r6.2.2 = true then
            if (l4 ++ [r6.2.1]).length * 8 ≤ 70368744177664 then
              some (.inl (.h1 t0 t1 (IntKind.wrap .i64 (t2 + 1)) r6.1 (l4 ++ [r6.2.1])))
            else none
          else
            some (.inr ([], [], false))
        else none
      else none
    else
      some (.inr (l3, l4, true))
noncomputable def Ds_GraftTree (a0 : (List Gi_Node)) (a1 : (List Gi_Node)) : Option ((List Gi_Node) × (List Int) × Bool) :=
  Option.bind (Ds_nGood a0) fun r1 =>
  if r1 = true then
    Option.bind (Ds_nGood a1) fun r3 =>
    if r3 = true then
      Option.bind (a0[(Int.toNat 0)]?) fun x5 =>
      Option.bind (a1[(Int.toNat 0)]?) fun x6 =>
      if (x5.Hash : Int) = x6.Hash then
        if a0.length * 24 ≤ 70368744177664 then
          if (1 : Int) ≤ ((a1.length : Nat) : Int) then
            loop Bs_GraftTree (.h1 (List.take (a1.length - (Int.toNat 1)) (List.drop (Int.toNat 1) a1)) (((List.take (a1.length - (Int.toNat 1)) (List.drop (Int.toNat 1) a1)).length : Nat) : Int) 0 a0 [0])
          else none
        else none
      else
        some ([], [], false)
    else
      some ([], [], false)
  else
    some ([], [], false)
/-! loop example/g00886/impl inRange -/
noncomputable def Di_inRange (a0 : Int) (a1 : Int) (a2 : Int) : Option (Bool) :=
  if a1 ≤ a0 then
    some (decide (a0 ≤ a2))
  else
    some false
/-! loop example/g00886/impl isSeed -/
noncomputable def Di_isSeed (a0 : Int) : Option (Bool) :=
  Option.bind (Di_inRange a0 0 4611686016279904236) fun r1 =>
  some r1
/-! loop example/g00886/impl isIndex -/
noncomputable def Di_isIndex (a0 : Int) (a1 : Int) : Option (Bool) :=
  Option.bind (Di_inRange a0 0 (IntKind.wrap .i64 (a1 - 1))) fun r1 =>
  some r1
/-! loop example/g00886/impl isTurn -/
noncomputable def Di_isTurn (a0 : Int) : Option (Bool) :=
  Option.bind (Di_inRange a0 0 30) fun r1 =>
  some r1
/-! loop example/g00886/impl childWith 1 -/
noncomputable def Di_childWith_1 (a0 : Gi_Node) (a1 : Int) (a2 : Int) : Option (Bool) :=
  if (a0.Parent : Int) = a1 then
    some ((a0.Hash : Int) == a2)
  else
    some false
/-! slices IndexFunc   loop example/g00886/impl Node loop example/g00886/impl Node  -/
inductive Sslices_IndexFunc_i_Node_i_childWith_1 where
  | h1 (s0 : (List Gi_Node)) (f1 : Int) (f2 : Int) (t3 : Int) (t4 : Int)
noncomputable def Bslices_IndexFunc_i_Node_i_childWith_1 : Sslices_IndexFunc_i_Node_i_childWith_1 → Option (Sslices_IndexFunc_i_Node_i_childWith_1 ⊕ (Int))
  | .h1 s0 f1 f2 t3 t4 =>
    if t4 < t3 then
      if 0 ≤ t4 then
        Option.bind (s0[(Int.toNat t4)]?) fun x3 =>
        Option.bind (Di_childWith_1 x3 f1 f2) fun r4 =>
        if r4 = true then
          some (.inr t4)
        else
          some (.inl (.h1 s0 f1 f2 t3 (IntKind.wrap .i64 (t4 + 1))))
      else none
    else
      some (.inr (-1))
noncomputable def Dslices_IndexFunc_i_Node_i_childWith_1 (a0 : (List Gi_Node)) (a100 : Int) (a101 : Int) : Option (Int) :=
  loop Bslices_IndexFunc_i_Node_i_childWith_1 (.h1 a0 a100 a101 ((a0.length : Nat) : Int) 0)
/-! loop example/g00886/impl childWith -/
noncomputable def Di_childWith (a0 : (List Gi_Node)) (a1 : Int) (a2 : Int) : Option (Int) :=
  Option.bind (Dslices_IndexFunc_i_Node_i_childWith_1 a0 a1 a2) fun r1 =>
  some r1
/-! loop example/g00886/impl IsTree -/
inductive Si_IsTree where
  | h1 (i0 : (List Gi_Node)) (t1 : (List Gi_Node)) (t2 : Int) (t3 : Int)
noncomputable def Bi_IsTree : Si_IsTree → Option (Si_IsTree ⊕ (Bool))
  | .h1 i0 t1 t2 t3 =>
    if t3 < t2 then
      if 0 ≤ t3 then
        Option.bind (t1[(Int.toNat t3)]?) fun x3 =>
        Option.bind (Di_isSeed x3.Hash) fun r4 =>
        if r4 = true then
          if t3 > 0 then
            Option.bind (Di_isIndex x3.Parent t3) fun r7 =>
            if r7 = true then
              if 0 ≤ x3.Parent then
                Option.bind (i0[(Int.toNat x3.Parent)]?) fun x10 =>
                if (x3.Turn : Int) = (IntKind.wrap .i64 (x10.Turn + 1)) then
                  Option.bind (Di_isTurn x3.Turn) fun r12 =>
                  if r12 = true then
                    Option.bind (Di_childWith i0 x3.Parent x3.Hash) fun r14 =>
                    if (r14 : Int) = t3 then
                      some (.inl (.h1 i0 t1 t2 (IntKind.wrap .i64 (t3 + 1))))
                    else
                      some (.inr false)
                  else
                    some (.inr false)
                else
                  some (.inr false)
              else none
            else
              some (.inr false)
          else
            some (.inl (.h1 i0 t1 t2 (IntKind.wrap .i64 (t3 + 1))))
        else
          some (.inr false)
      else none
    else
      some (.inr true)
noncomputable def Di_IsTree (a0 : (List Gi_Node)) : Option (Bool) :=
  Option.bind (Di_inRange ((a0.length : Nat) : Int) 1 40) fun r1 =>
  if r1 = true then
    Option.bind (a0[(Int.toNat 0)]?) fun x3 =>
    if (x3.Parent : Int) = (-1) then
      Option.bind (a0[(Int.toNat 0)]?) fun x5 =>
      if (x5.Turn : Int) = 0 then
        loop Bi_IsTree (.h1 a0 a0 ((a0.length : Nat) : Int) 0)
      else
        some false
    else
      some false
  else
    some false
/-! slices Clone -/
noncomputable def Dslices_Clone_i_Node (a0 : (List Gi_Node)) : Option (List Gi_Node) := if List.length a0 * 24 ≤ 70368744177664 then some a0 else none
/-! loop example/g00886/impl childOf -/
noncomputable def Di_childOf (a0 : (List Gi_Node)) (a1 : Int) (a2 : Int) : Option ((List Gi_Node) × Int × Bool) :=
  Option.bind (Di_childWith a0 a1 a2) fun r1 =>
  if r1 ≥ 0 then
    Option.bind (Dslices_Clone_i_Node a0) fun r3 =>
    some (r3, r1, true)
  else
    if (((a0.length : Nat) : Int) : Int) = 40 then
      some ([], 0, false)
    else
      if 0 ≤ a1 then
        Option.bind (a0[(Int.toNat a1)]?) fun x5 =>
        if (x5.Turn : Int) = 30 then
          some ([], 0, false)
        else
          Option.bind (Dslices_Clone_i_Node a0) fun r7 =>
          if 0 ≤ a1 then
            Option.bind (a0[(Int.toNat a1)]?) fun x9 =>
            if (r7 ++ [(Gi_Node.mk a1 (IntKind.wrap .i64 (x9.Turn + 1)) a2)]).length * 24 ≤ 70368744177664 then
              some ((r7 ++ [(Gi_Node.mk a1 (IntKind.wrap .i64 (x9.Turn + 1)) a2)]), ((a0.length : Nat) : Int), true)
            else none
          else none
      else none
/-! loop example/g00886/impl GraftTree -/
inductive Si_GraftTree where
  | h1 (t0 : (List Gi_Node)) (t1 : Int) (t2 : Int) (l3 : (List Gi_Node)) (l4 : (List Int))
noncomputable def Bi_GraftTree : Si_GraftTree → Option (Si_GraftTree ⊕ ((List Gi_Node) × (List Int) × Bool))
  | .h1 t0 t1 t2 l3 l4 =>
    if t2 < t1 then
      if 0 ≤ t2 then
        Option.bind (t0[(Int.toNat t2)]?) fun x3 =>
        if 0 ≤ x3.Parent then
          Option.bind (l4[(Int.toNat x3.Parent)]?) fun x5 =>
          Option.bind (Di_childOf l3 x5 x3.Hash) fun r6 =>
          if r6.2.2 = true then
            if (l4 ++ [r6.2.1]).length * 8 ≤ 70368744177664 then
              some (.inl (.h1 t0 t1 (IntKind.wrap .i64 (t2 + 1)) r6.1 (l4 ++ [r6.2.1])))
            else none
          else
            some (.inr ([], [], false))
        else none
      else none
    else
      some (.inr (l3, l4, true))
noncomputable def Di_GraftTree (a0 : (List Gi_Node)) (a1 : (List Gi_Node)) : Option ((List Gi_Node) × (List Int) × Bool) :=
  Option.bind (Di_IsTree a0) fun r1 =>
  if r1 = true then
    Option.bind (Di_IsTree a1) fun r3 =>
    if r3 = true then
      Option.bind (a0[(Int.toNat 0)]?) fun x5 =>
      Option.bind (a1[(Int.toNat 0)]?) fun x6 =>
      if (x5.Hash : Int) = x6.Hash then
        Option.bind (Dslices_Clone_i_Node a0) fun r8 =>
        if (1 : Int) ≤ ((a1.length : Nat) : Int) then
          loop Bi_GraftTree (.h1 (List.take (a1.length - (Int.toNat 1)) (List.drop (Int.toNat 1) a1)) (((List.take (a1.length - (Int.toNat 1)) (List.drop (Int.toNat 1) a1)).length : Nat) : Int) 0 r8 [0])
        else none
      else
        some ([], [], false)
    else
      some ([], [], false)
  else
    some ([], [], false)
/-! loop example/g00886/laws eqNode -/
noncomputable def Dw_eqNode (a0 : Gi_Node) (a1 : Gi_Node) : Option (Bool) :=
  if (a0.Parent : Int) = a1.Parent then
    if (a0.Turn : Int) = a1.Turn then
      if (a0.Hash : Int) = a1.Hash then
        some true
      else
        some false
    else
      some false
  else
    some false
/-! loop example/g00886/laws eqNodeS -/
inductive Sw_eqNodeS where
  | h1 (va0 : (List Gi_Node)) (b1 : (List Gi_Node)) (i2 : Int)
noncomputable def Bw_eqNodeS : Sw_eqNodeS → Option (Sw_eqNodeS ⊕ (Bool))
  | .h1 va0 b1 i2 =>
    if i2 < ((va0.length : Nat) : Int) then
      if 0 ≤ i2 then
        Option.bind (va0[(Int.toNat i2)]?) fun x3 =>
        if 0 ≤ i2 then
          Option.bind (b1[(Int.toNat i2)]?) fun x5 =>
          Option.bind (Dw_eqNode x3 x5) fun r6 =>
          if r6 = true then
            some (.inl (.h1 va0 b1 (IntKind.wrap .i64 (i2 + 1))))
          else
            some (.inr false)
        else none
      else none
    else
      some (.inr true)
noncomputable def Dw_eqNodeS (a0 : (List Gi_Node)) (a1 : (List Gi_Node)) : Option (Bool) :=
  if (((a0.length : Nat) : Int) : Int) = ((a1.length : Nat) : Int) then
    loop Bw_eqNodeS (.h1 a0 a1 0)
  else
    some false
/-! loop example/g00886/laws eqIntS -/
inductive Sw_eqIntS where
  | h1 (va0 : (List Int)) (b1 : (List Int)) (i2 : Int)
noncomputable def Bw_eqIntS : Sw_eqIntS → Option (Sw_eqIntS ⊕ (Bool))
  | .h1 va0 b1 i2 =>
    if i2 < ((va0.length : Nat) : Int) then
      if 0 ≤ i2 then
        Option.bind (va0[(Int.toNat i2)]?) fun x3 =>
        if 0 ≤ i2 then
          Option.bind (b1[(Int.toNat i2)]?) fun x5 =>
          if (x3 : Int) = x5 then
            some (.inl (.h1 va0 b1 (IntKind.wrap .i64 (i2 + 1))))
          else
            some (.inr false)
        else none
      else none
    else
      some (.inr true)
noncomputable def Dw_eqIntS (a0 : (List Int)) (a1 : (List Int)) : Option (Bool) :=
  if (((a0.length : Nat) : Int) : Int) = ((a1.length : Nat) : Int) then
    loop Bw_eqIntS (.h1 a0 a1 0)
  else
    some false
/-! loop example/g00886/laws markNodeS -/
inductive Sw_markNodeS where
  | h1 (k0 : Int) (i1 : Int) (l2 : (List Gi_Node))
noncomputable def Bw_markNodeS : Sw_markNodeS → Option (Sw_markNodeS ⊕ (Int × (List Gi_Node)))
  | .h1 k0 i1 l2 =>
    if i1 < ((l2.length : Nat) : Int) then
      if 0 ≤ i1 then
        Option.bind (l2[(Int.toNat i1)]?) fun x3 =>
        if 0 ≤ i1 then
          Option.bind ((List.set l2 (Int.toNat i1) (Gi_Node.mk k0 x3.Turn x3.Hash))[(Int.toNat i1)]?) fun x5 =>
          if 0 ≤ i1 then
            Option.bind ((List.set (List.set l2 (Int.toNat i1) (Gi_Node.mk k0 x3.Turn x3.Hash)) (Int.toNat i1) (Gi_Node.mk x5.Parent (IntKind.wrap .i64 (k0 + 1)) x5.Hash))[(Int.toNat i1)]?) fun x7 =>
            some (.inl (.h1 (IntKind.wrap .i64 ((IntKind.wrap .i64 ((IntKind.wrap .i64 (k0 + 1)) + 1)) + 1)) (IntKind.wrap .i64 (i1 + 1)) (List.set (List.set (List.set l2 (Int.toNat i1) (Gi_Node.mk k0 x3.Turn x3.Hash)) (Int.toNat i1) (Gi_Node.mk x5.Parent (IntKind.wrap .i64 (k0 + 1)) x5.Hash)) (Int.toNat i1) (Gi_Node.mk x7.Parent x7.Turn (IntKind.wrap .i64 ((IntKind.wrap .i64 (k0 + 1)) + 1))))))
          else none
        else none
      else none
    else
      some (.inr (k0, l2))
noncomputable def Dw_markNodeS (a0 : (List Gi_Node)) (a1 : Int) : Option (Int × (List Gi_Node)) :=
  loop Bw_markNodeS (.h1 a1 0 a0)
/-! loop example/g00886/laws markIntS -/
inductive Sw_markIntS where
  | h1 (k0 : Int) (i1 : Int) (l2 : (List Int))
noncomputable def Bw_markIntS : Sw_markIntS → Option (Sw_markIntS ⊕ (Int × (List Int)))
  | .h1 k0 i1 l2 =>
    if i1 < ((l2.length : Nat) : Int) then
      if 0 ≤ i1 then
        Option.bind (l2[(Int.toNat i1)]?) fun x3 =>
        some (.inl (.h1 (IntKind.wrap .i64 (k0 + 1)) (IntKind.wrap .i64 (i1 + 1)) (List.set l2 (Int.toNat i1) k0)))
      else none
    else
      some (.inr (k0, l2))
noncomputable def Dw_markIntS (a0 : (List Int)) (a1 : Int) : Option (Int × (List Int)) :=
  loop Bw_markIntS (.h1 a1 0 a0)
/-! loop example/g00886/laws heldNodeS -/
inductive Sw_heldNodeS where
  | h1 (va0 : (List Gi_Node)) (k1 : Int) (i2 : Int)
noncomputable def Bw_heldNodeS : Sw_heldNodeS → Option (Sw_heldNodeS ⊕ (Int))
  | .h1 va0 k1 i2 =>
    if i2 < ((va0.length : Nat) : Int) then
      if 0 ≤ i2 then
        Option.bind (va0[(Int.toNat i2)]?) fun x3 =>
        if (x3.Parent : Int) = k1 then
          if 0 ≤ i2 then
            Option.bind (va0[(Int.toNat i2)]?) fun x6 =>
            if (x6.Turn : Int) = (IntKind.wrap .i64 (k1 + 1)) then
              if 0 ≤ i2 then
                Option.bind (va0[(Int.toNat i2)]?) fun x9 =>
                if (x9.Hash : Int) = (IntKind.wrap .i64 ((IntKind.wrap .i64 (k1 + 1)) + 1)) then
                  some (.inl (.h1 va0 (IntKind.wrap .i64 ((IntKind.wrap .i64 ((IntKind.wrap .i64 (k1 + 1)) + 1)) + 1)) (IntKind.wrap .i64 (i2 + 1))))
                else
                  some (.inr (-1))
              else none
            else
              some (.inr (-1))
          else none
        else
          some (.inr (-1))
      else none
    else
      some (.inr k1)
noncomputable def Dw_heldNodeS (a0 : (List Gi_Node)) (a1 : Int) : Option (Int) :=
  loop Bw_heldNodeS (.h1 a0 a1 0)
/-! loop example/g00886/laws heldIntS -/
inductive Sw_heldIntS where
  | h1 (va0 : (List Int)) (k1 : Int) (i2 : Int)
noncomputable def Bw_heldIntS : Sw_heldIntS → Option (Sw_heldIntS ⊕ (Int))
  | .h1 va0 k1 i2 =>
    if i2 < ((va0.length : Nat) : Int) then
      if 0 ≤ i2 then
        Option.bind (va0[(Int.toNat i2)]?) fun x3 =>
        if (x3 : Int) = k1 then
          some (.inl (.h1 va0 (IntKind.wrap .i64 (k1 + 1)) (IntKind.wrap .i64 (i2 + 1))))
        else
          some (.inr (-1))
      else none
    else
      some (.inr k1)
noncomputable def Dw_heldIntS (a0 : (List Int)) (a1 : Int) : Option (Int) :=
  loop Bw_heldIntS (.h1 a0 a1 0)
/-! loop example/g00886/laws FnExactGraftTree -/
noncomputable def Dw_FnExactGraftTree (a0 : (List Gw_Node)) (a1 : (List Gw_Node)) : Option (Bool) :=
  Option.bind (Dw_szNodeS a0 1048576) fun r1 =>
  if r1 < 0 then
    some true
  else
    Option.bind (Dw_szNodeS a1 r1) fun r3 =>
    if r3 < 0 then
      some true
    else
      Option.bind (Dw_toNodeS a0) fun r5 =>
      Option.bind (Dw_toNodeS a1) fun r6 =>
      Option.bind (Ds_GraftTree r5 r6) fun r7 =>
      Option.bind (Dw_toNodeS a0) fun r8 =>
      Option.bind (Dw_toNodeS a1) fun r9 =>
      Option.bind (Di_GraftTree r8 r9) fun r10 =>
      Option.bind (Dw_eqNodeS r10.1 r7.1) fun r11 =>
      if r11 = true then
        Option.bind (Dw_eqIntS r10.2.1 r7.2.1) fun r13 =>
        if r13 = true then
          if (!(r10.2.2 == r7.2.2)) = true then
            some false
          else
            Option.bind (Dw_toNodeS a0) fun r16 =>
            Option.bind (Dw_eqNodeS r8 r16) fun r17 =>
            if r17 = true then
              Option.bind (Dw_toNodeS a1) fun r19 =>
              Option.bind (Dw_eqNodeS r9 r19) fun r20 =>
              if r20 = true then
                Option.bind (Dw_markNodeS r8 1) fun r22 =>
                if r22.2.length = r8.length then
                  Option.bind (Dw_markNodeS r9 r22.1) fun r24 =>
                  if r24.2.length = r9.length then
                    if r24.1 < 0 then
                      some false
                    else
                      Option.bind (Dw_eqNodeS r10.1 r7.1) fun r27 =>
                      if r27 = true then
                        Option.bind (Dw_eqIntS r10.2.1 r7.2.1) fun r29 =>
                        if r29 = true then
                          if (!(r10.2.2 == r7.2.2)) = true then
                            some false
                          else
                            Option.bind (Dw_markNodeS r10.1 1) fun r32 =>
                            if r32.2.length = r10.1.length then
                              Option.bind (Dw_markIntS r10.2.1 r32.1) fun r34 =>
                              if r34.2.length = r10.2.1.length then
                                Option.bind (Dw_heldNodeS r32.2 1) fun r36 =>
                                if r36 < 0 then
                                  some false
                                else
                                  Option.bind (Dw_heldIntS r34.2 r36) fun r38 =>
                                  if r38 < 0 then
                                    some false
                                  else
                                    if (r38 : Int) = r34.1 then
                                      Option.bind (Dw_toNodeS a0) fun r41 =>
                                      Option.bind (Dw_toNodeS a1) fun r42 =>
                                      Option.bind (Di_GraftTree r41 r42) fun r43 =>
                                      Option.bind (Dw_eqNodeS r43.1 r7.1) fun r44 =>
                                      if r44 = true then
                                        Option.bind (Dw_eqIntS r43.2.1 r7.2.1) fun r46 =>
                                        if r46 = true then
                                          if (!(r43.2.2 == r7.2.2)) = true then
                                            some false
                                          else
                                            Option.bind (Dw_heldNodeS r32.2 1) fun r49 =>
                                            if r49 < 0 then
                                              some false
                                            else
                                              Option.bind (Dw_heldIntS r34.2 r49) fun r51 =>
                                              if r51 < 0 then
                                                some false
                                              else
                                                if (r51 : Int) = r34.1 then
                                                  some true
                                                else
                                                  some false
                                        else
                                          some false
                                      else
                                        some false
                                    else
                                      some false
                              else none
                            else none
                        else
                          some false
                      else
                        some false
                  else none
                else none
              else
                some false
            else
              some false
        else
          some false
      else
        some false
end Go.Proofs.Ytgafibhekjnffaa.Ab
