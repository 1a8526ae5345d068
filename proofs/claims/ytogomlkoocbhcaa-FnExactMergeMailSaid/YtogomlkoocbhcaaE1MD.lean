/- Part of the proof of FnExactMergeMail: no condition of its own. -/
import Derived.Test.YtogomlkoocbhcaaAb4
set_option linter.unusedVariables false
set_option linter.unusedSimpArgs false
open Go
namespace Go.Proofs.Ytogomlkoocbhcaa.Ab
structure Gw_Mail where
 mk ::
 Turn : Int
 Side : Int
 Seal : Int
def gw_Mail (x : Gw_Mail) : D := .agg [I x.Turn, I x.Side, I x.Seal]
structure Gi_Mail where
 mk ::
 Turn : Int
 Side : Int
 Seal : Int
def gi_Mail (x : Gi_Mail) : D := .agg [I x.Turn, I x.Side, I x.Seal]

noncomputable def Dw_szMailS (a0 : (List Gw_Mail)) (a1 : Int) : Option (Int) :=
 if (IntKind.wrap .i64 (a1 - ((a0.length : Nat) : Int))) < 0 then
 some (-1)
 else
 some (IntKind.wrap .i64 (a1 - ((a0.length : Nat) : Int)))
noncomputable def Dw_toMail (a0 : Gw_Mail) : Option (Gi_Mail) :=
 some (Gi_Mail.mk a0.Turn a0.Side a0.Seal)
inductive Sw_toMailS where
 | h1 (va0 : (List Gw_Mail)) (i1 : Int) (l2 : (List Gi_Mail))
noncomputable def Bw_toMailS : Sw_toMailS → Option (Sw_toMailS ⊕ ((List Gi_Mail)))
 | .h1 va0 i1 l2 =>
  if i1 < ((va0.length : Nat) : Int) then
  if 0 ≤ i1 then
  Option.bind (va0[(Int.toNat i1)]?) fun x3 =>
  Option.bind (Dw_toMail x3) fun r4 =>
  if 0 ≤ i1 then
  Option.bind (l2[(Int.toNat i1)]?) fun x6 =>
  some (.inl (.h1 va0 (IntKind.wrap .i64 (i1 + 1)) (List.set l2 (Int.toNat i1) r4)))
  else none
  else none
  else
  some (.inr l2)
noncomputable def Dw_toMailS (a0 : (List Gw_Mail)) : Option ((List Gi_Mail)) :=
 if Int.toNat ((a0.length : Nat) : Int) * 24 ≤ 140737488355328 then
 loop Bw_toMailS (.h1 a0 0 (List.replicate (Int.toNat ((a0.length : Nat) : Int)) (Gi_Mail.mk 0 0 0)))
 else none
noncomputable def Ds_l1In (a0 : Int) (a1 : Int) (a2 : Int) : Option (Bool) :=
 if a0 ≥ a1 then
 some (decide (a0 ≤ a2))
 else
 some false
noncomputable def Ds_dSeed (a0 : Int) : Option (Bool) :=
 Option.bind (Ds_l1In a0 0 4611686016279904236) fun r1 =>
 some r1
noncomputable def Ds_nKey (a0 : Gi_Mail) : Option (Int) :=
 some (IntKind.wrap .i64 ((IntKind.wrap .i64 (2 * a0.Turn)) + a0.Side))
inductive Ss_nMails where
 | h1 (l0 : (List Gi_Mail)) (t1 : (List Gi_Mail)) (t2 : Int) (t3 : Int)
noncomputable def Bs_nMails : Ss_nMails → Option (Ss_nMails ⊕ (Bool))
 | .h1 l0 t1 t2 t3 =>
  if t3 < t2 then
  if 0 ≤ t3 then
  Option.bind (t1[(Int.toNat t3)]?) fun x3 =>
  Option.bind (Ds_l1In x3.Turn 0 30) fun r4 =>
  if r4 = true then
  Option.bind (Ds_l1In x3.Side 0 1) fun r6 =>
  if r6 = true then
  Option.bind (Ds_dSeed x3.Seal) fun r8 =>
  if r8 = true then
  if t3 > 0 then
  if 0 ≤ (IntKind.wrap .i64 (t3 - 1)) then
  Option.bind (l0[(Int.toNat (IntKind.wrap .i64 (t3 - 1)))]?) fun x12 =>
  Option.bind (Ds_nKey x12) fun r13 =>
  Option.bind (Ds_nKey x3) fun r14 =>
  if r13 ≥ r14 then
  some (.inr false)
  else
  some (.inl (.h1 l0 t1 t2 (IntKind.wrap .i64 (t3 + 1))))
  else none
  else
  some (.inl (.h1 l0 t1 t2 (IntKind.wrap .i64 (t3 + 1))))
  else
  some (.inr false)
  else
  some (.inr false)
  else
  some (.inr false)
  else none
  else
  some (.inr (decide (((l0.length : Nat) : Int) ≤ 20)))
noncomputable def Ds_nMails (a0 : (List Gi_Mail)) : Option (Bool) :=
 loop Bs_nMails (.h1 a0 a0 ((a0.length : Nat) : Int) 0)
inductive Ss_nFind where
 | h1 (key0 : Int) (t1 : (List Gi_Mail)) (t2 : Int) (t3 : Int)
noncomputable def Bs_nFind : Ss_nFind → Option (Ss_nFind ⊕ (Int))
 | .h1 key0 t1 t2 t3 =>
  if t3 < t2 then
  if 0 ≤ t3 then
  Option.bind (t1[(Int.toNat t3)]?) fun x3 =>
  Option.bind (Ds_nKey x3) fun r4 =>
  if (r4 : Int) = key0 then
  some (.inr t3)
  else
  some (.inl (.h1 key0 t1 t2 (IntKind.wrap .i64 (t3 + 1))))
  else none
  else
  some (.inr (-1))
noncomputable def Ds_nFind (a0 : (List Gi_Mail)) (a1 : Int) : Option (Int) :=
 loop Bs_nFind (.h1 a1 a0 ((a0.length : Nat) : Int) 0)
inductive Ss_MergeMail where
 | h1 (va0 : (List Gi_Mail)) (b1 : (List Gi_Mail)) (key2 : Int) (l3 : (List Gi_Mail)) (l4 : (List Gi_Mail))
noncomputable def Bs_MergeMail : Ss_MergeMail → Option (Ss_MergeMail ⊕ ((List Gi_Mail) × (List Gi_Mail) × Bool))
 | .h1 va0 b1 key2 l3 l4 =>
  if key2 ≤ 61 then
  Option.bind (Ds_nFind va0 key2) fun r2 =>
  Option.bind (Ds_nFind b1 key2) fun r3 =>
  if r2 ≥ 0 then
  if r3 ≥ 0 then
  if 0 ≤ r2 then
  Option.bind (va0[(Int.toNat r2)]?) fun x7 =>
  if 0 ≤ r3 then
  Option.bind (b1[(Int.toNat r3)]?) fun x9 =>
  if (x7.Seal : Int) = x9.Seal then
  if r2 ≥ 0 then
  if 0 ≤ r2 then
  Option.bind (va0[(Int.toNat r2)]?) fun x13 =>
  if (l3 ++ [x13]).length * 24 ≤ 70368744177664 then
  some (.inl (.h1 va0 b1 (IntKind.wrap .i64 (key2 + 1)) (l3 ++ [x13]) l4))
  else none
  else none
  else
  if r3 ≥ 0 then
  if 0 ≤ r3 then
  Option.bind (b1[(Int.toNat r3)]?) fun x14 =>
  if (l3 ++ [x14]).length * 24 ≤ 70368744177664 then
  some (.inl (.h1 va0 b1 (IntKind.wrap .i64 (key2 + 1)) (l3 ++ [x14]) l4))
  else none
  else none
  else
  some (.inl (.h1 va0 b1 (IntKind.wrap .i64 (key2 + 1)) l3 l4))
  else
  if 0 ≤ r2 then
  Option.bind (va0[(Int.toNat r2)]?) fun x12 =>
  if (l4 ++ [x12]).length * 24 ≤ 70368744177664 then
  some (.inl (.h1 va0 b1 (IntKind.wrap .i64 (key2 + 1)) l3 (l4 ++ [x12])))
  else none
  else none
  else none
  else none
  else
  if r2 ≥ 0 then
  if 0 ≤ r2 then
  Option.bind (va0[(Int.toNat r2)]?) fun x8 =>
  if (l3 ++ [x8]).length * 24 ≤ 70368744177664 then
  some (.inl (.h1 va0 b1 (IntKind.wrap .i64 (key2 + 1)) (l3 ++ [x8]) l4))
  else none
  else none
  else
  if r3 ≥ 0 then
  if 0 ≤ r3 then
  Option.bind (b1[(Int.toNat r3)]?) fun x9 =>
  if (l3 ++ [x9]).length * 24 ≤ 70368744177664 then
  some (.inl (.h1 va0 b1 (IntKind.wrap .i64 (key2 + 1)) (l3 ++ [x9]) l4))
  else none
  else none
  else
  some (.inl (.h1 va0 b1 (IntKind.wrap .i64 (key2 + 1)) l3 l4))
  else
  if r2 ≥ 0 then
  if 0 ≤ r2 then
  Option.bind (va0[(Int.toNat r2)]?) fun x7 =>
  if (l3 ++ [x7]).length * 24 ≤ 70368744177664 then
  some (.inl (.h1 va0 b1 (IntKind.wrap .i64 (key2 + 1)) (l3 ++ [x7]) l4))
  else none
  else none
  else
  if r3 ≥ 0 then
  if 0 ≤ r3 then
  Option.bind (b1[(Int.toNat r3)]?) fun x8 =>
  if (l3 ++ [x8]).length * 24 ≤ 70368744177664 then
  some (.inl (.h1 va0 b1 (IntKind.wrap .i64 (key2 + 1)) (l3 ++ [x8]) l4))
  else none
  else none
  else
  some (.inl (.h1 va0 b1 (IntKind.wrap .i64 (key2 + 1)) l3 l4))
  else
  if ((l3.length : Nat) : Int) > 20 then
  some (.inr ([], [], false))
  else
  some (.inr (l3, l4, true))
noncomputable def Ds_MergeMail (a0 : (List Gi_Mail)) (a1 : (List Gi_Mail)) : Option ((List Gi_Mail) × (List Gi_Mail) × Bool) :=
 Option.bind (Ds_nMails a0) fun r1 =>
 if r1 = true then
 Option.bind (Ds_nMails a1) fun r3 =>
 if r3 = true then
 loop Bs_MergeMail (.h1 a0 a1 0 ([] : List Gi_Mail) ([] : List Gi_Mail))
 else
 some ([], [], false)
 else
 some ([], [], false)
noncomputable def Di_inRange (a0 : Int) (a1 : Int) (a2 : Int) : Option (Bool) :=
 if a1 ≤ a0 then
 some (decide (a0 ≤ a2))
 else
 some false
noncomputable def Di_isTurn (a0 : Int) : Option (Bool) :=
 Option.bind (Di_inRange a0 0 30) fun r1 =>
 some r1
noncomputable def Di_isSide (a0 : Int) : Option (Bool) :=
 Option.bind (Di_inRange a0 0 1) fun r1 =>
 some r1
noncomputable def Di_isSeed (a0 : Int) : Option (Bool) :=
 Option.bind (Di_inRange a0 0 4611686016279904236) fun r1 =>
 some r1
noncomputable def Di_compareMails (a0 : Gi_Mail) (a1 : Gi_Mail) : Option (Int) :=
 if (a0.Turn : Int) = a1.Turn then
 some (IntKind.wrap .i64 (a0.Side - a1.Side))
 else
 some (IntKind.wrap .i64 (a0.Turn - a1.Turn))
inductive Si_IsMailbox where
 | h1 (l0 : (List Gi_Mail)) (t1 : (List Gi_Mail)) (t2 : Int) (t3 : Int)
noncomputable def Bi_IsMailbox : Si_IsMailbox → Option (Si_IsMailbox ⊕ (Bool))
 | .h1 l0 t1 t2 t3 =>
  if t3 < t2 then
  if 0 ≤ t3 then
  Option.bind (t1[(Int.toNat t3)]?) fun x3 =>
  Option.bind (Di_isTurn x3.Turn) fun r4 =>
  if r4 = true then
  Option.bind (Di_isSide x3.Side) fun r6 =>
  if r6 = true then
  Option.bind (Di_isSeed x3.Seal) fun r8 =>
  if r8 = true then
  if t3 > 0 then
  if 0 ≤ (IntKind.wrap .i64 (t3 - 1)) then
  Option.bind (l0[(Int.toNat (IntKind.wrap .i64 (t3 - 1)))]?) fun x12 =>
  Option.bind (Di_compareMails x12 x3) fun r13 =>
  if r13 ≥ 0 then
  some (.inr false)
  else
  some (.inl (.h1 l0 t1 t2 (IntKind.wrap .i64 (t3 + 1))))
  else none
  else
  some (.inl (.h1 l0 t1 t2 (IntKind.wrap .i64 (t3 + 1))))
  else
  some (.inr false)
  else
  some (.inr false)
  else
  some (.inr false)
  else none
  else
  some (.inr true)
noncomputable def Di_IsMailbox (a0 : (List Gi_Mail)) : Option (Bool) :=
 if ((a0.length : Nat) : Int) > 20 then
 some false
 else
 loop Bi_IsMailbox (.h1 a0 a0 ((a0.length : Nat) : Int) 0)
noncomputable def Di_MergeMail_1_1 (a0 : Gi_Mail) (a1 : Gi_Mail) : Option (Bool) :=
 Option.bind (Di_compareMails a1 a0) fun r1 =>
 some ((r1 : Int) == 0)
inductive Sslices_IndexFunc_i_Mail_i_MergeMail_1_1 where
 | h1 (s0 : (List Gi_Mail)) (f1 : Gi_Mail) (t2 : Int) (t3 : Int)
noncomputable def Bslices_IndexFunc_i_Mail_i_MergeMail_1_1 : Sslices_IndexFunc_i_Mail_i_MergeMail_1_1 → Option (Sslices_IndexFunc_i_Mail_i_MergeMail_1_1 ⊕ (Int))
 | .h1 s0 f1 t2 t3 =>
  if t3 < t2 then
  if 0 ≤ t3 then
  Option.bind (s0[(Int.toNat t3)]?) fun x3 =>
  Option.bind (Di_MergeMail_1_1 x3 f1) fun r4 =>
  if r4 = true then
  some (.inr t3)
  else
  some (.inl (.h1 s0 f1 t2 (IntKind.wrap .i64 (t3 + 1))))
  else none
  else
  some (.inr (-1))
noncomputable def Dslices_IndexFunc_i_Mail_i_MergeMail_1_1 (a0 : (List Gi_Mail)) (a100 : Gi_Mail) : Option (Int) :=
 loop Bslices_IndexFunc_i_Mail_i_MergeMail_1_1 (.h1 a0 a100 ((a0.length : Nat) : Int) 0)
noncomputable def Di_MergeMail_1 (a0 : (List Gi_Mail)) (a1 : Gi_Mail) : Option (Int) :=
 Option.bind (Dslices_IndexFunc_i_Mail_i_MergeMail_1_1 a0 a1) fun r1 =>
 some r1
noncomputable def Dslices_SortFunc_i_Mail_i_compareMails (a0 : (List Gi_Mail)) : Option (List Gi_Mail) := sortD Di_compareMails a0
inductive Si_MergeMail where
 | h1 (va0 : (List Gi_Mail)) (b1 : (List Gi_Mail)) (t2 : (List Gi_Mail)) (t3 : Int) (t4 : Int) (l5 : (List Gi_Mail)) (l6 : (List Gi_Mail))
 | h2 (va0 : (List Gi_Mail)) (t1 : (List Gi_Mail)) (t2 : Int) (t3 : Int) (l4 : (List Gi_Mail)) (l5 : (List Gi_Mail))
noncomputable def Bi_MergeMail : Si_MergeMail → Option (Si_MergeMail ⊕ ((List Gi_Mail) × (List Gi_Mail) × Bool))
 | .h1 va0 b1 t2 t3 t4 l5 l6 =>
  if t4 < t3 then
  if 0 ≤ t4 then
  Option.bind (t2[(Int.toNat t4)]?) fun x3 =>
  Option.bind (Di_MergeMail_1 b1 x3) fun r4 =>
  if r4 ≥ 0 then
  if 0 ≤ r4 then
  Option.bind (b1[(Int.toNat r4)]?) fun x7 =>
  if (x7.Seal : Int) = x3.Seal then
  if (l5 ++ [x3]).length * 24 ≤ 70368744177664 then
  some (.inl (.h1 va0 b1 t2 t3 (IntKind.wrap .i64 (t4 + 1)) (l5 ++ [x3]) l6))
  else none
  else
  if (l6 ++ [x3]).length * 24 ≤ 70368744177664 then
  some (.inl (.h1 va0 b1 t2 t3 (IntKind.wrap .i64 (t4 + 1)) l5 (l6 ++ [x3])))
  else none
  else none
  else
  if (l5 ++ [x3]).length * 24 ≤ 70368744177664 then
  some (.inl (.h1 va0 b1 t2 t3 (IntKind.wrap .i64 (t4 + 1)) (l5 ++ [x3]) l6))
  else none
  else none
  else
  some (.inl (.h2 va0 b1 ((b1.length : Nat) : Int) 0 l5 l6))
 | .h2 va0 t1 t2 t3 l4 l5 =>
  if t3 < t2 then
  if 0 ≤ t3 then
  Option.bind (t1[(Int.toNat t3)]?) fun x3 =>
  Option.bind (Di_MergeMail_1 va0 x3) fun r4 =>
  if r4 < 0 then
  if (l4 ++ [x3]).length * 24 ≤ 70368744177664 then
  some (.inl (.h2 va0 t1 t2 (IntKind.wrap .i64 (t3 + 1)) (l4 ++ [x3]) l5))
  else none
  else
  some (.inl (.h2 va0 t1 t2 (IntKind.wrap .i64 (t3 + 1)) l4 l5))
  else none
  else
  if ((l4.length : Nat) : Int) > 20 then
  some (.inr ([], [], false))
  else
  Option.bind (Dslices_SortFunc_i_Mail_i_compareMails l4) fun r3 =>
  if r3.length = l4.length then
  some (.inr (r3, l5, true))
  else none
noncomputable def Di_MergeMail (a0 : (List Gi_Mail)) (a1 : (List Gi_Mail)) : Option ((List Gi_Mail) × (List Gi_Mail) × Bool) :=
 Option.bind (Di_IsMailbox a0) fun r1 =>
 if r1 = true then
 Option.bind (Di_IsMailbox a1) fun r3 =>
 if r3 = true then
 loop Bi_MergeMail (.h1 a0 a1 a0 ((a0.length : Nat) : Int) 0 ([] : List Gi_Mail) ([] : List Gi_Mail))
 else
 some ([], [], false)
 else
 some ([], [], false)
noncomputable def Dw_eqMail (a0 : Gi_Mail) (a1 : Gi_Mail) : Option (Bool) :=
 if (a0.Turn : Int) = a1.Turn then
 if (a0.Side : Int) = a1.Side then
 if (a0.Seal : Int) = a1.Seal then
 some true
 else
 some false
 else
 some false
 else
 some false
inductive Sw_eqMailS where
 | h1 (va0 : (List Gi_Mail)) (b1 : (List Gi_Mail)) (i2 : Int)
noncomputable def Bw_eqMailS : Sw_eqMailS → Option (Sw_eqMailS ⊕ (Bool))
 | .h1 va0 b1 i2 =>
  if i2 < ((va0.length : Nat) : Int) then
  if 0 ≤ i2 then
  Option.bind (va0[(Int.toNat i2)]?) fun x3 =>
  if 0 ≤ i2 then
  Option.bind (b1[(Int.toNat i2)]?) fun x5 =>
  Option.bind (Dw_eqMail x3 x5) fun r6 =>
  if r6 = true then
  some (.inl (.h1 va0 b1 (IntKind.wrap .i64 (i2 + 1))))
  else
  some (.inr false)
  else none
  else none
  else
  some (.inr true)
noncomputable def Dw_eqMailS (a0 : (List Gi_Mail)) (a1 : (List Gi_Mail)) : Option (Bool) :=
 if (((a0.length : Nat) : Int) : Int) = ((a1.length : Nat) : Int) then
 loop Bw_eqMailS (.h1 a0 a1 0)
 else
 some false
inductive Sw_markMailS where
 | h1 (k0 : Int) (i1 : Int) (l2 : (List Gi_Mail))
noncomputable def Bw_markMailS : Sw_markMailS → Option (Sw_markMailS ⊕ (Int × (List Gi_Mail)))
 | .h1 k0 i1 l2 =>
  if i1 < ((l2.length : Nat) : Int) then
  if 0 ≤ i1 then
  Option.bind (l2[(Int.toNat i1)]?) fun x3 =>
  if 0 ≤ i1 then
  Option.bind ((List.set l2 (Int.toNat i1) (Gi_Mail.mk k0 x3.Side x3.Seal))[(Int.toNat i1)]?) fun x5 =>
  if 0 ≤ i1 then
  Option.bind ((List.set (List.set l2 (Int.toNat i1) (Gi_Mail.mk k0 x3.Side x3.Seal)) (Int.toNat i1) (Gi_Mail.mk x5.Turn (IntKind.wrap .i64 (k0 + 1)) x5.Seal))[(Int.toNat i1)]?) fun x7 =>
  some (.inl (.h1 (IntKind.wrap .i64 ((IntKind.wrap .i64 ((IntKind.wrap .i64 (k0 + 1)) + 1)) + 1)) (IntKind.wrap .i64 (i1 + 1)) (List.set (List.set (List.set l2 (Int.toNat i1) (Gi_Mail.mk k0 x3.Side x3.Seal)) (Int.toNat i1) (Gi_Mail.mk x5.Turn (IntKind.wrap .i64 (k0 + 1)) x5.Seal)) (Int.toNat i1) (Gi_Mail.mk x7.Turn x7.Side (IntKind.wrap .i64 ((IntKind.wrap .i64 (k0 + 1)) + 1))))))
  else none
  else none
  else none
  else
  some (.inr (k0, l2))
noncomputable def Dw_markMailS (a0 : (List Gi_Mail)) (a1 : Int) : Option (Int × (List Gi_Mail)) :=
 loop Bw_markMailS (.h1 a1 0 a0)
inductive Sw_heldMailS where
 | h1 (va0 : (List Gi_Mail)) (k1 : Int) (i2 : Int)
noncomputable def Bw_heldMailS : Sw_heldMailS → Option (Sw_heldMailS ⊕ (Int))
 | .h1 va0 k1 i2 =>
  if i2 < ((va0.length : Nat) : Int) then
  if 0 ≤ i2 then
  Option.bind (va0[(Int.toNat i2)]?) fun x3 =>
  if (x3.Turn : Int) = k1 then
  if 0 ≤ i2 then
  Option.bind (va0[(Int.toNat i2)]?) fun x6 =>
  if (x6.Side : Int) = (IntKind.wrap .i64 (k1 + 1)) then
  if 0 ≤ i2 then
  Option.bind (va0[(Int.toNat i2)]?) fun x9 =>
  if (x9.Seal : Int) = (IntKind.wrap .i64 ((IntKind.wrap .i64 (k1 + 1)) + 1)) then
  some (.inl (.h1 va0 (IntKind.wrap .i64 ((IntKind.wrap .i64 ((IntKind.wrap .i64 (k1 + 1)) + 1)) + 1)) (IntKind.wrap .i64 (i2 + 1))))
  else
  some (.inr (-1))
  else none
  else
  some (.inr (-1))
  else none
  else
  some (.inr (-1))
  else none
  else
  some (.inr k1)
noncomputable def Dw_heldMailS (a0 : (List Gi_Mail)) (a1 : Int) : Option (Int) :=
 loop Bw_heldMailS (.h1 a0 a1 0)
noncomputable def Dw_FnExactMergeMail (a0 : (List Gw_Mail)) (a1 : (List Gw_Mail)) : Option (Bool) :=
 Option.bind (Dw_szMailS a0 1048576) fun r1 =>
 if r1 < 0 then
 some true
 else
 Option.bind (Dw_szMailS a1 r1) fun r3 =>
 if r3 < 0 then
 some true
 else
 Option.bind (Dw_toMailS a0) fun r5 =>
 Option.bind (Dw_toMailS a1) fun r6 =>
 Option.bind (Ds_MergeMail r5 r6) fun r7 =>
 Option.bind (Dw_toMailS a0) fun r8 =>
 Option.bind (Dw_toMailS a1) fun r9 =>
 Option.bind (Di_MergeMail r8 r9) fun r10 =>
 Option.bind (Dw_eqMailS r10.1 r7.1) fun r11 =>
 if r11 = true then
 Option.bind (Dw_eqMailS r10.2.1 r7.2.1) fun r13 =>
 if r13 = true then
 if (!(r10.2.2 == r7.2.2)) = true then
 some false
 else
 Option.bind (Dw_toMailS a0) fun r16 =>
 Option.bind (Dw_eqMailS r8 r16) fun r17 =>
 if r17 = true then
 Option.bind (Dw_toMailS a1) fun r19 =>
 Option.bind (Dw_eqMailS r9 r19) fun r20 =>
 if r20 = true then
 Option.bind (Dw_markMailS r8 1) fun r22 =>
 if r22.2.length = r8.length then
 Option.bind (Dw_markMailS r9 r22.1) fun r24 =>
 if r24.2.length = r9.length then
 if r24.1 < 0 then
 some false
 else
 Option.bind (Dw_eqMailS r10.1 r7.1) fun r27 =>
 if r27 = true then
 Option.bind (Dw_eqMailS r10.2.1 r7.2.1) fun r29 =>
 if r29 = true then
 if (!(r10.2.2 == r7.2.2)) = true then
 some false
 else
 Option.bind (Dw_markMailS r10.1 1) fun r32 =>
 if r32.2.length = r10.1.length then
 Option.bind (Dw_markMailS r10.2.1 r32.1) fun r34 =>
 if r34.2.length = r10.2.1.length then
 Option.bind (Dw_heldMailS r32.2 1) fun r36 =>
 if r36 < 0 then
 some false
 else
 Option.bind (Dw_heldMailS r34.2 r36) fun r38 =>
 if r38 < 0 then
 some false
 else
 if (r38 : Int) = r34.1 then
 Option.bind (Dw_toMailS a0) fun r41 =>
 Option.bind (Dw_toMailS a1) fun r42 =>
 Option.bind (Di_MergeMail r41 r42) fun r43 =>
 Option.bind (Dw_eqMailS r43.1 r7.1) fun r44 =>
 if r44 = true then
 Option.bind (Dw_eqMailS r43.2.1 r7.2.1) fun r46 =>
 if r46 = true then
 if (!(r43.2.2 == r7.2.2)) = true then
 some false
 else
 Option.bind (Dw_heldMailS r32.2 1) fun r49 =>
 if r49 < 0 then
 some false
 else
 Option.bind (Dw_heldMailS r34.2 r49) fun r51 =>
 if r51 < 0 then
 some false
 else
 if (r51 : Int) = r34.1 then
 some true
 else
 some false
 else
 some false
 else
 some false
 else
 some false
 else none
 else none
 else
 some false
 else
 some false
 else none
 else none
 else
 some false
 else
 some false
 else
 some false
 else
 some false
end Go.Proofs.Ytogomlkoocbhcaa.Ab
