/- Part of the proof of FnLanes: no condition of its own. -/
import Derived.Test.YtnfeelacifllmaaAb6
set_option linter.unusedVariables false
set_option linter.unusedSimpArgs false
open Go
namespace Go.Proofs.Ytnfeelacifllmaa.Ab
structure Gi_Lane where
  mk ::
  From : Int
  To : Int
  Load : Int
def gi_Lane (x : Gi_Lane) : D := .agg [I x.From, I x.To, I x.Load]
structure Gi_Lanes where
  mk ::
  Depots : Int
  Lanes : (List Gi_Lane)
  Stores : (List Int)
def gi_Lanes (x : Gi_Lanes) : D := .agg [I x.Depots, sl 3 gi_Lane x.Lanes, sl 1 I x.Stores]
structure Gi_Convoy where
  mk ::
  Day : Int
  Lane : Int
  Load : Int
def gi_Convoy (x : Gi_Convoy) : D := .agg [I x.Day, I x.Lane, I x.Load]
structure Gi_arc where
  mk ::
  from_ : Int
  to_ : Int
  most : Int
  flow : Int
  frozen : Bool
def gi_arc (x : Gi_arc) : D := .agg [I x.from_, I x.to_, I x.most, I x.flow, .bool x.frozen]
structure Gi_network where
  mk ::
  places : Int
  arcs : (List Gi_arc)
def gi_network (x : Gi_network) : D := .agg [I x.places, sl 5 gi_arc x.arcs]
def goi_network (x : Gi_network) : D := .agg [I x.places, ow 5 gi_arc x.arcs]
structure Gi_visit where
  mk ::
  arc : Int
  back : Bool
  seen : Bool
def gi_visit (x : Gi_visit) : D := .agg [I x.arc, .bool x.back, .bool x.seen]
structure Gs_qArc where
  mk ::
  from_ : Int
  to_ : Int
  most : Int
  flow : Int
def gs_qArc (x : Gs_qArc) : D := .agg [I x.from_, I x.to_, I x.most, I x.flow]
structure Gs_qNet where
  mk ::
  arcs : (List Gs_qArc)
  places : Int
def gs_qNet (x : Gs_qNet) : D := .agg [sl 4 gs_qArc x.arcs, I x.places]
def gos_qNet (x : Gs_qNet) : D := .agg [ow 4 gs_qArc x.arcs, I x.places]
structure Gs_l1Cur where
  mk ::
  code : (List Int)
  at_ : Int
  seed : Int
def gs_l1Cur (x : Gs_l1Cur) : D := .agg [sl 1 (D.int .u8) x.code, I x.at_, .int .u64 x.seed]

noncomputable def Dw_big (a0 : (List Int)) (a1 : (List Int)) : Option (Bool) :=
  if ((a0.length : Nat) : Int) > 1048576 then
  some true
  else
  some (decide (((a1.length : Nat) : Int) > (IntKind.wrap .i64 (1048576 - ((a0.length : Nat) : Int)))))
noncomputable def Ds_l1Cur_next (a0 : Gs_l1Cur) : Option (Int × Gs_l1Cur) :=
  if a0.at_ < ((a0.code.length : Nat) : Int) then
  if 0 ≤ a0.at_ then
  Option.bind (a0.code[(Int.toNat a0.at_)]?) fun x3 =>
  if (IntKind.wrap .i64 (a0.at_ + 1)) ≤ ((a0.code.length : Nat) : Int) then
  some ((IntKind.wrap .i64 x3), (Gs_l1Cur.mk a0.code (IntKind.wrap .i64 (a0.at_ + 1)) (IntKind.wrap .u64 ((IntKind.wrap .u64 ((IntKind.wrap .u64 (a0.seed * 6364136223846793005)) + (IntKind.wrap .u64 (IntKind.wrap .i64 x3)))) + 1442695040888963407))))
  else
  some ((IntKind.wrap .i64 (IntKind.wrap .u64 ((BitVec.toNat (BitVec.ofInt (IntKind.bits .u64) (Int.fdiv (IntKind.wrap .u64 ((IntKind.wrap .u64 ((IntKind.wrap .u64 (a0.seed * 6364136223846793005)) + (IntKind.wrap .u64 (IntKind.wrap .i64 x3)))) + 1442695040888963407)) (2 ^ min (Int.toNat 40) (IntKind.bits .u64))) &&& BitVec.ofInt (IntKind.bits .u64) 255) : Nat) : Int))), (Gs_l1Cur.mk a0.code (IntKind.wrap .i64 (a0.at_ + 1)) (IntKind.wrap .u64 ((IntKind.wrap .u64 ((IntKind.wrap .u64 (a0.seed * 6364136223846793005)) + (IntKind.wrap .u64 (IntKind.wrap .i64 x3)))) + 1442695040888963407))))
  else none
  else
  if (IntKind.wrap .i64 (a0.at_ + 1)) ≤ ((a0.code.length : Nat) : Int) then
  some (0, (Gs_l1Cur.mk a0.code (IntKind.wrap .i64 (a0.at_ + 1)) (IntKind.wrap .u64 ((IntKind.wrap .u64 ((IntKind.wrap .u64 (a0.seed * 6364136223846793005)) + (IntKind.wrap .u64 0))) + 1442695040888963407))))
  else
  some ((IntKind.wrap .i64 (IntKind.wrap .u64 ((BitVec.toNat (BitVec.ofInt (IntKind.bits .u64) (Int.fdiv (IntKind.wrap .u64 ((IntKind.wrap .u64 ((IntKind.wrap .u64 (a0.seed * 6364136223846793005)) + (IntKind.wrap .u64 0))) + 1442695040888963407)) (2 ^ min (Int.toNat 40) (IntKind.bits .u64))) &&& BitVec.ofInt (IntKind.bits .u64) 255) : Nat) : Int))), (Gs_l1Cur.mk a0.code (IntKind.wrap .i64 (a0.at_ + 1)) (IntKind.wrap .u64 ((IntKind.wrap .u64 ((IntKind.wrap .u64 (a0.seed * 6364136223846793005)) + (IntKind.wrap .u64 0))) + 1442695040888963407))))
noncomputable def Ds_l1Cur_pick (a0 : Gs_l1Cur) (a1 : Int) : Option (Int × Gs_l1Cur) :=
  if a1 ≤ 1 then
  some (0, a0)
  else
  Option.bind (Ds_l1Cur_next a0) fun r2 =>
  if a1 > 200 then
  Option.bind (Ds_l1Cur_next r2.2) fun r4 =>
  if ¬ a1 = 0 then
  some ((Int.tmod (IntKind.wrap .i64 ((IntKind.wrap .i64 (r2.1 * 256)) + r4.1)) a1), r4.2)
  else none
  else
  if ¬ a1 = 0 then
  some ((Int.tmod r2.1 a1), r2.2)
  else none
noncomputable def Ds_l1Cur_among (a0 : Gs_l1Cur) (a1 : (List Int)) : Option (Int × Gs_l1Cur) :=
  Option.bind (Ds_l1Cur_pick a0 ((a1.length : Nat) : Int)) fun r1 =>
  if 0 ≤ r1.1 then
  Option.bind (a1[(Int.toNat r1.1)]?) fun x3 =>
  some (x3, r1.2)
  else none
inductive Ss_l1Cur_lanes where
 | h1 (k0 : Int) (b1 : Gs_l1Cur) (b2 : Int) (b3 : Int)
 | h2 (k0 : Int) (b1 : Gs_l1Cur) (b2 : Int) (b3 : Int) (l4 : (List Int))
 | h3 (k0 : Int) (b1 : Gs_l1Cur) (b2 : Int) (b3 : Int)
 | h4 (k0 : Int) (b1 : Gs_l1Cur) (b2 : Int) (b3 : Int) (l4 : (List Int))
 | h5 (k0 : Int) (b1 : Gs_l1Cur) (b2 : Int) (b3 : Int) (l4 : (List Gi_Lane))
 | h6 (k0 : Int) (b1 : Gs_l1Cur) (b2 : Int) (b3 : Int) (l4 : (List Gi_Lane)) (l5 : (List Int))
noncomputable def Bs_l1Cur_lanes : Ss_l1Cur_lanes → Option (Ss_l1Cur_lanes ⊕ (Gi_Lanes × Gs_l1Cur))
 | .h1 k0 b1 b2 b3 =>
  if k0 < b3 then
  Option.bind (Ds_l1Cur_among b1 [0, 2, 5, 20]) fun r2 =>
  if [r2.1].length * 8 ≤ 70368744177664 then
  some (.inl (.h2 (IntKind.wrap .i64 (k0 + 1)) r2.2 b2 b3 [r2.1]))
  else none
  else
  Option.bind (Ds_l1Cur_pick b1 8) fun r2 =>
  some (.inl (.h3 r2.1 r2.2 b2 b3))
 | .h2 k0 b1 b2 b3 l4 =>
  if k0 < b3 then
  Option.bind (Ds_l1Cur_among b1 [0, 2, 5, 20]) fun r2 =>
  if (l4 ++ [r2.1]).length * 8 ≤ 70368744177664 then
  some (.inl (.h2 (IntKind.wrap .i64 (k0 + 1)) r2.2 b2 b3 (l4 ++ [r2.1])))
  else none
  else
  Option.bind (Ds_l1Cur_pick b1 8) fun r2 =>
  some (.inl (.h4 r2.1 r2.2 b2 b3 l4))
 | .h3 k0 b1 b2 b3 =>
  if k0 > 0 then
  Option.bind (Ds_l1Cur_pick b1 b3) fun r2 =>
  Option.bind (Ds_l1Cur_pick r2.2 b3) fun r3 =>
  Option.bind (Ds_l1Cur_pick r3.2 12) fun r4 =>
  if (r2.1 : Int) = r3.1 then
  some (.inl (.h3 (IntKind.wrap .i64 (k0 - 1)) r4.2 b2 b3))
  else
  if [(Gi_Lane.mk r2.1 r3.1 r4.1)].length * 24 ≤ 70368744177664 then
  some (.inl (.h5 (IntKind.wrap .i64 (k0 - 1)) r4.2 b2 b3 [(Gi_Lane.mk r2.1 r3.1 r4.1)]))
  else none
  else
  some (.inr ((Gi_Lanes.mk b3 [] []), b1))
 | .h4 k0 b1 b2 b3 l4 =>
  if k0 > 0 then
  Option.bind (Ds_l1Cur_pick b1 b3) fun r2 =>
  Option.bind (Ds_l1Cur_pick r2.2 b3) fun r3 =>
  Option.bind (Ds_l1Cur_pick r3.2 12) fun r4 =>
  if (r2.1 : Int) = r3.1 then
  some (.inl (.h4 (IntKind.wrap .i64 (k0 - 1)) r4.2 b2 b3 l4))
  else
  if [(Gi_Lane.mk r2.1 r3.1 r4.1)].length * 24 ≤ 70368744177664 then
  some (.inl (.h6 (IntKind.wrap .i64 (k0 - 1)) r4.2 b2 b3 [(Gi_Lane.mk r2.1 r3.1 r4.1)] l4))
  else none
  else
  some (.inr ((Gi_Lanes.mk b3 [] l4), b1))
 | .h5 k0 b1 b2 b3 l4 =>
  if k0 > 0 then
  Option.bind (Ds_l1Cur_pick b1 b3) fun r2 =>
  Option.bind (Ds_l1Cur_pick r2.2 b3) fun r3 =>
  Option.bind (Ds_l1Cur_pick r3.2 12) fun r4 =>
  if (r2.1 : Int) = r3.1 then
  some (.inl (.h5 (IntKind.wrap .i64 (k0 - 1)) r4.2 b2 b3 l4))
  else
  if (l4 ++ [(Gi_Lane.mk r2.1 r3.1 r4.1)]).length * 24 ≤ 70368744177664 then
  some (.inl (.h5 (IntKind.wrap .i64 (k0 - 1)) r4.2 b2 b3 (l4 ++ [(Gi_Lane.mk r2.1 r3.1 r4.1)])))
  else none
  else
  some (.inr ((Gi_Lanes.mk b3 l4 []), b1))
 | .h6 k0 b1 b2 b3 l4 l5 =>
  if k0 > 0 then
  Option.bind (Ds_l1Cur_pick b1 b3) fun r2 =>
  Option.bind (Ds_l1Cur_pick r2.2 b3) fun r3 =>
  Option.bind (Ds_l1Cur_pick r3.2 12) fun r4 =>
  if (r2.1 : Int) = r3.1 then
  some (.inl (.h6 (IntKind.wrap .i64 (k0 - 1)) r4.2 b2 b3 l4 l5))
  else
  if (l4 ++ [(Gi_Lane.mk r2.1 r3.1 r4.1)]).length * 24 ≤ 70368744177664 then
  some (.inl (.h6 (IntKind.wrap .i64 (k0 - 1)) r4.2 b2 b3 (l4 ++ [(Gi_Lane.mk r2.1 r3.1 r4.1)]) l5))
  else none
  else
  some (.inr ((Gi_Lanes.mk b3 l4 l5), b1))
noncomputable def Ds_l1Cur_lanes (a0 : Gs_l1Cur) : Option (Gi_Lanes × Gs_l1Cur) :=
  Option.bind (Ds_l1Cur_pick a0 4) fun r1 =>
  loop Bs_l1Cur_lanes (.h1 0 r1.2 0 (IntKind.wrap .i64 (2 + r1.1)))
inductive Ss_l1Cur_anyLanes where
 | h1 (n0 : Int) (b1 : Gs_l1Cur) (b2 : Int) (b3 : Int) (l4 : (List Gi_Lane)) (l5 : (List Int))
noncomputable def Bs_l1Cur_anyLanes : Ss_l1Cur_anyLanes → Option (Ss_l1Cur_anyLanes ⊕ (Gi_Lanes × Gs_l1Cur))
 | .h1 n0 b1 b2 b3 l4 l5 =>
  if ((l4.length : Nat) : Int) < n0 then
  if (l4 ++ [(Gi_Lane.mk 0 1 1)]).length * 24 ≤ 70368744177664 then
  some (.inl (.h1 n0 b1 b2 b3 (l4 ++ [(Gi_Lane.mk 0 1 1)]) l5))
  else none
  else
  some (.inr ((Gi_Lanes.mk b3 l4 l5), b1))
noncomputable def Ds_l1Cur_anyLanes (a0 : Gs_l1Cur) : Option (Gi_Lanes × Gs_l1Cur) :=
  Option.bind (Ds_l1Cur_lanes a0) fun r1 =>
  Option.bind (Ds_l1Cur_pick r1.2 24) fun r2 =>
  if (r2.1 : Int) = 0 then
  Option.bind (Ds_l1Cur_among r2.2 [1, 6, 7]) fun r4 =>
  some ((Gi_Lanes.mk r4.1 r1.1.Lanes r1.1.Stores), r4.2)
  else
  if (r2.1 : Int) = 1 then
  Option.bind (Ds_l1Cur_among r2.2 [0, 9, (-1)]) fun r5 =>
  if (r1.1.Lanes ++ [(Gi_Lane.mk 0 r5.1 1)]).length * 24 ≤ 70368744177664 then
  some ((Gi_Lanes.mk r1.1.Depots (r1.1.Lanes ++ [(Gi_Lane.mk 0 r5.1 1)]) r1.1.Stores), r5.2)
  else none
  else
  if (r2.1 : Int) = 2 then
  Option.bind (Ds_l1Cur_among r2.2 [(-1), 1000, 1001]) fun r6 =>
  Option.bind (r1.1.Stores[(Int.toNat 0)]?) fun x7 =>
  some ((Gi_Lanes.mk r1.1.Depots r1.1.Lanes (List.set r1.1.Stores (Int.toNat 0) r6.1)), r6.2)
  else
  if (r2.1 : Int) = 3 then
  Option.bind (Ds_l1Cur_pick r2.2 2) fun r7 =>
  loop Bs_l1Cur_anyLanes (.h1 (IntKind.wrap .i64 (15 + r7.1)) r7.2 0 r1.1.Depots r1.1.Lanes r1.1.Stores)
  else
  if (r2.1 : Int) = 4 then
  Option.bind (Ds_l1Cur_among r2.2 [1000, 1001, (-1)]) fun r8 =>
  if (r1.1.Lanes ++ [(Gi_Lane.mk 0 1 r8.1)]).length * 24 ≤ 70368744177664 then
  some ((Gi_Lanes.mk r1.1.Depots (r1.1.Lanes ++ [(Gi_Lane.mk 0 1 r8.1)]) r1.1.Stores), r8.2)
  else none
  else
  some (r1.1, r2.2)
noncomputable def Ds_l1Most (a0 : Int) (a1 : Int) : Option (Int) :=
  if a0 > a1 then
  some a0
  else
  some a1
noncomputable def Ds_l1Cur_one (a0 : Gs_l1Cur) (a1 : Int) : Option (Bool × Gs_l1Cur) :=
  Option.bind (Ds_l1Cur_pick a0 a1) fun r1 =>
  some (((r1.1 : Int) == 0), r1.2)
noncomputable def Ds_l1Cur_trip (a0 : Gs_l1Cur) : Option (Gi_Lanes × Int × Int × Int × Gs_l1Cur) :=
  Option.bind (Ds_l1Cur_anyLanes a0) fun r1 =>
  Option.bind (Ds_l1Most r1.1.Depots 1) fun r2 =>
  Option.bind (Ds_l1Cur_pick r1.2 r2) fun r3 =>
  Option.bind (Ds_l1Most r1.1.Depots 1) fun r4 =>
  Option.bind (Ds_l1Cur_pick r3.2 r4) fun r5 =>
  if (r3.1 : Int) = r5.1 then
  Option.bind (Ds_l1Cur_one r5.2 12) fun r7 =>
  if r7.1 = true then
  Option.bind (Ds_l1Cur_pick r7.2 5) fun r9 =>
  Option.bind (Ds_l1Cur_pick r9.2 30) fun r10 =>
  Option.bind (Ds_l1Cur_pick r10.2 30) fun r11 =>
  some (r1.1, r3.1, r5.1, (IntKind.wrap .i64 ((IntKind.wrap .i64 (r9.1 + (IntKind.wrap .i64 ((IntKind.wrap .i64 (Int.tdiv r10.1 29)) * 3)))) - (IntKind.wrap .i64 (Int.tdiv r11.1 29)))), r11.2)
  else
  Option.bind (Ds_l1Most r1.1.Depots 1) fun r9 =>
  if ¬ r9 = 0 then
  Option.bind (Ds_l1Cur_pick r7.2 5) fun r11 =>
  Option.bind (Ds_l1Cur_pick r11.2 30) fun r12 =>
  Option.bind (Ds_l1Cur_pick r12.2 30) fun r13 =>
  some (r1.1, r3.1, (Int.tmod (IntKind.wrap .i64 (r3.1 + 1)) r9), (IntKind.wrap .i64 ((IntKind.wrap .i64 (r11.1 + (IntKind.wrap .i64 ((IntKind.wrap .i64 (Int.tdiv r12.1 29)) * 3)))) - (IntKind.wrap .i64 (Int.tdiv r13.1 29)))), r13.2)
  else none
  else
  Option.bind (Ds_l1Cur_pick r5.2 5) fun r7 =>
  Option.bind (Ds_l1Cur_pick r7.2 30) fun r8 =>
  Option.bind (Ds_l1Cur_pick r8.2 30) fun r9 =>
  some (r1.1, r3.1, r5.1, (IntKind.wrap .i64 ((IntKind.wrap .i64 (r7.1 + (IntKind.wrap .i64 ((IntKind.wrap .i64 (Int.tdiv r8.1 29)) * 3)))) - (IntKind.wrap .i64 (Int.tdiv r9.1 29)))), r9.2)
noncomputable def Ds_DrawGreatestDelivery (a0 : (List Int)) : Option (Gi_Lanes × Int × Int × Int) :=
  Option.bind (Ds_l1Cur_trip (Gs_l1Cur.mk a0 0 0)) fun r1 =>
  some (r1.1, r1.2.1, r1.2.2.1, r1.2.2.2.1)
noncomputable def Ds_DrawDeliveryPlan (a0 : (List Int)) : Option (Gi_Lanes × Int × Int × Int) :=
  Option.bind (Ds_DrawGreatestDelivery a0) fun r1 =>
  some (r1.1, r1.2.1, r1.2.2.1, r1.2.2.2)
noncomputable def Di_inRange (a0 : Int) (a1 : Int) (a2 : Int) : Option (Bool) :=
  if a1 ≤ a0 then
  some (decide (a0 ≤ a2))
  else
  some false
noncomputable def Di_isIndex (a0 : Int) (a1 : Int) : Option (Bool) :=
  Option.bind (Di_inRange a0 0 (IntKind.wrap .i64 (a1 - 1))) fun r1 =>
  some r1
noncomputable def Di_IsLanes_1 (a0 : Int) : Option (Bool) :=
  Option.bind (Di_inRange a0 0 1000) fun r1 =>
  some (!r1)
inductive Sslices_IndexFunc_int_i_IsLanes_1 where
 | h1 (s0 : (List Int)) (t1 : Int) (t2 : Int)
noncomputable def Bslices_IndexFunc_int_i_IsLanes_1 : Sslices_IndexFunc_int_i_IsLanes_1 → Option (Sslices_IndexFunc_int_i_IsLanes_1 ⊕ (Int))
 | .h1 s0 t1 t2 =>
  if t2 < t1 then
  if 0 ≤ t2 then
  Option.bind (s0[(Int.toNat t2)]?) fun x3 =>
  Option.bind (Di_IsLanes_1 x3) fun r4 =>
  if r4 = true then
  some (.inr t2)
  else
  some (.inl (.h1 s0 t1 (IntKind.wrap .i64 (t2 + 1))))
  else none
  else
  some (.inr (-1))
noncomputable def Dslices_IndexFunc_int_i_IsLanes_1 (a0 : (List Int)) : Option (Int) :=
  loop Bslices_IndexFunc_int_i_IsLanes_1 (.h1 a0 ((a0.length : Nat) : Int) 0)
noncomputable def Dslices_ContainsFunc_int_i_IsLanes_1 (a0 : (List Int)) : Option (Bool) :=
  Option.bind (Dslices_IndexFunc_int_i_IsLanes_1 a0) fun r1 =>
  some (decide (r1 ≥ 0))
inductive Si_IsLanes where
 | h1 (t0 : (List Gi_Lane)) (t1 : Int) (t2 : Int) (b3 : Gi_Lanes)
noncomputable def Bi_IsLanes : Si_IsLanes → Option (Si_IsLanes ⊕ (Bool))
 | .h1 t0 t1 t2 b3 =>
  if t2 < t1 then
  if 0 ≤ t2 then
  Option.bind (t0[(Int.toNat t2)]?) fun x3 =>
  Option.bind (Di_isIndex x3.From b3.Depots) fun r4 =>
  if r4 = true then
  Option.bind (Di_isIndex x3.To b3.Depots) fun r6 =>
  if r6 = true then
  if (x3.From : Int) = x3.To then
  some (.inr false)
  else
  Option.bind (Di_inRange x3.Load 0 1000) fun r9 =>
  if r9 = true then
  some (.inl (.h1 t0 t1 (IntKind.wrap .i64 (t2 + 1)) b3))
  else
  some (.inr false)
  else
  some (.inr false)
  else
  some (.inr false)
  else none
  else
  Option.bind (Dslices_ContainsFunc_int_i_IsLanes_1 b3.Stores) fun r2 =>
  some (.inr (!r2))
noncomputable def Di_IsLanes (a0 : Gi_Lanes) : Option (Bool) :=
  Option.bind (Di_inRange a0.Depots 2 6) fun r1 =>
  if r1 = true then
  if ((a0.Lanes.length : Nat) : Int) > 15 then
  some false
  else
  if (((a0.Stores.length : Nat) : Int) : Int) = a0.Depots then
  loop Bi_IsLanes (.h1 a0.Lanes ((a0.Lanes.length : Nat) : Int) 0 a0)
  else
  some false
  else
  some false
noncomputable def Di_isTransport (a0 : Gi_Lanes) (a1 : Int) (a2 : Int) (a3 : Int) : Option (Bool) :=
  Option.bind (Di_IsLanes a0) fun r1 =>
  if r1 = true then
  Option.bind (Di_isIndex a1 a0.Depots) fun r3 =>
  if r3 = true then
  Option.bind (Di_isIndex a2 a0.Depots) fun r5 =>
  if r5 = true then
  if (a1 : Int) = a2 then
  some false
  else
  Option.bind (Di_inRange a3 0 6) fun r8 =>
  some r8
  else
  some false
  else
  some false
  else
  some false
inductive Si_networkOf where
 | h1 (vfrom0 : Int) (vto1 : Int) (days2 : Int) (t3 : Int) (t4 : Int) (b5 : Gi_Lanes) (b6 : Int) (l7 : (List Gi_arc))
 | h2 (vfrom0 : Int) (vto1 : Int) (days2 : Int) (d3 : Int) (t4 : Int) (t5 : Int) (t6 : (List Gi_Lane)) (t7 : Int) (t8 : Int) (b9 : Gi_Lanes) (b10 : Int) (l11 : (List Gi_arc))
 | h3 (vfrom0 : Int) (vto1 : Int) (t2 : Int) (t3 : Int) (b4 : Gi_Lanes) (b5 : Int) (l6 : (List Gi_arc))
 | h4 (vfrom0 : Int) (vto1 : Int) (days2 : Int) (d3 : Int) (t4 : Int) (t5 : Int) (t6 : (List Gi_Lane)) (t7 : Int) (t8 : Int) (b9 : Gi_Lanes) (b10 : Int) (l11 : (List Gi_arc))
 | h5 (vfrom0 : Int) (vto1 : Int) (days2 : Int) (t3 : Int) (t4 : Int) (b5 : Gi_Lanes) (b6 : Int) (l7 : (List Gi_arc))
 | h6 (vfrom0 : Int) (vto1 : Int) (d2 : Int) (t3 : Int) (t4 : Int) (t5 : (List Int)) (t6 : Int) (t7 : Int) (b8 : Gi_Lanes) (b9 : Int) (l10 : (List Gi_arc))
 | h7 (vfrom0 : Int) (vto1 : Int) (d2 : Int) (t3 : Int) (t4 : Int) (t5 : (List Int)) (t6 : Int) (t7 : Int) (b8 : Gi_Lanes) (b9 : Int) (l10 : (List Gi_arc))
noncomputable def Bi_networkOf : Si_networkOf → Option (Si_networkOf ⊕ (Gi_network))
 | .h1 vfrom0 vto1 days2 t3 t4 b5 b6 l7 =>
  if t4 < t3 then
  some (.inl (.h2 vfrom0 vto1 days2 t4 t3 t4 b5.Lanes ((b5.Lanes.length : Nat) : Int) 0 b5 b6 l7))
  else
  some (.inl (.h3 vfrom0 vto1 days2 0 b5 b6 l7))
 | .h2 vfrom0 vto1 days2 d3 t4 t5 t6 t7 t8 b9 b10 l11 =>
  if t8 < t7 then
  if 0 ≤ t8 then
  Option.bind (t6[(Int.toNat t8)]?) fun x3 =>
  if (l11 ++ [(Gi_arc.mk (IntKind.wrap .i64 ((IntKind.wrap .i64 (d3 * b9.Depots)) + x3.From)) (IntKind.wrap .i64 ((IntKind.wrap .i64 ((IntKind.wrap .i64 (d3 + 1)) * b9.Depots)) + x3.To)) x3.Load 0 false)]).length * 40 ≤ 70368744177664 then
  some (.inl (.h4 vfrom0 vto1 days2 d3 t4 t5 t6 t7 (IntKind.wrap .i64 (t8 + 1)) b9 b10 (l11 ++ [(Gi_arc.mk (IntKind.wrap .i64 ((IntKind.wrap .i64 (d3 * b9.Depots)) + x3.From)) (IntKind.wrap .i64 ((IntKind.wrap .i64 ((IntKind.wrap .i64 (d3 + 1)) * b9.Depots)) + x3.To)) x3.Load 0 false)])))
  else none
  else none
  else
  some (.inl (.h5 vfrom0 vto1 days2 t4 (IntKind.wrap .i64 (t5 + 1)) b9 b10 l11))
 | .h3 vfrom0 vto1 t2 t3 b4 b5 l6 =>
  if t3 < t2 then
  some (.inl (.h6 vfrom0 vto1 t3 t2 t3 b4.Stores ((b4.Stores.length : Nat) : Int) 0 b4 b5 l6))
  else
  some (.inr (Gi_network.mk b5 l6))
 | .h4 vfrom0 vto1 days2 d3 t4 t5 t6 t7 t8 b9 b10 l11 =>
  if t8 < t7 then
  if 0 ≤ t8 then
  Option.bind (t6[(Int.toNat t8)]?) fun x3 =>
  if (l11 ++ [(Gi_arc.mk (IntKind.wrap .i64 ((IntKind.wrap .i64 (d3 * b9.Depots)) + x3.From)) (IntKind.wrap .i64 ((IntKind.wrap .i64 ((IntKind.wrap .i64 (d3 + 1)) * b9.Depots)) + x3.To)) x3.Load 0 false)]).length * 40 ≤ 70368744177664 then
  some (.inl (.h4 vfrom0 vto1 days2 d3 t4 t5 t6 t7 (IntKind.wrap .i64 (t8 + 1)) b9 b10 (l11 ++ [(Gi_arc.mk (IntKind.wrap .i64 ((IntKind.wrap .i64 (d3 * b9.Depots)) + x3.From)) (IntKind.wrap .i64 ((IntKind.wrap .i64 ((IntKind.wrap .i64 (d3 + 1)) * b9.Depots)) + x3.To)) x3.Load 0 false)])))
  else none
  else none
  else
  some (.inl (.h5 vfrom0 vto1 days2 t4 (IntKind.wrap .i64 (t5 + 1)) b9 b10 l11))
 | .h5 vfrom0 vto1 days2 t3 t4 b5 b6 l7 =>
  if t4 < t3 then
  some (.inl (.h2 vfrom0 vto1 days2 t4 t3 t4 b5.Lanes ((b5.Lanes.length : Nat) : Int) 0 b5 b6 l7))
  else
  some (.inl (.h3 vfrom0 vto1 days2 0 b5 b6 l7))
 | .h6 vfrom0 vto1 d2 t3 t4 t5 t6 t7 b8 b9 l10 =>
  if t7 < t6 then
  if 0 ≤ t7 then
  Option.bind (t5[(Int.toNat t7)]?) fun x3 =>
  if (t7 : Int) = vfrom0 then
  if (l10 ++ [(Gi_arc.mk (IntKind.wrap .i64 ((IntKind.wrap .i64 (d2 * b8.Depots)) + t7)) (IntKind.wrap .i64 ((IntKind.wrap .i64 ((IntKind.wrap .i64 (d2 + 1)) * b8.Depots)) + t7)) 1000000000 0 false)]).length * 40 ≤ 70368744177664 then
  some (.inl (.h7 vfrom0 vto1 d2 t3 t4 t5 t6 (IntKind.wrap .i64 (t7 + 1)) b8 b9 (l10 ++ [(Gi_arc.mk (IntKind.wrap .i64 ((IntKind.wrap .i64 (d2 * b8.Depots)) + t7)) (IntKind.wrap .i64 ((IntKind.wrap .i64 ((IntKind.wrap .i64 (d2 + 1)) * b8.Depots)) + t7)) 1000000000 0 false)])))
  else none
  else
  if (t7 : Int) = vto1 then
  if (l10 ++ [(Gi_arc.mk (IntKind.wrap .i64 ((IntKind.wrap .i64 (d2 * b8.Depots)) + t7)) (IntKind.wrap .i64 ((IntKind.wrap .i64 ((IntKind.wrap .i64 (d2 + 1)) * b8.Depots)) + t7)) 1000000000 0 false)]).length * 40 ≤ 70368744177664 then
  some (.inl (.h7 vfrom0 vto1 d2 t3 t4 t5 t6 (IntKind.wrap .i64 (t7 + 1)) b8 b9 (l10 ++ [(Gi_arc.mk (IntKind.wrap .i64 ((IntKind.wrap .i64 (d2 * b8.Depots)) + t7)) (IntKind.wrap .i64 ((IntKind.wrap .i64 ((IntKind.wrap .i64 (d2 + 1)) * b8.Depots)) + t7)) 1000000000 0 false)])))
  else none
  else
  if (l10 ++ [(Gi_arc.mk (IntKind.wrap .i64 ((IntKind.wrap .i64 (d2 * b8.Depots)) + t7)) (IntKind.wrap .i64 ((IntKind.wrap .i64 ((IntKind.wrap .i64 (d2 + 1)) * b8.Depots)) + t7)) x3 0 false)]).length * 40 ≤ 70368744177664 then
  some (.inl (.h7 vfrom0 vto1 d2 t3 t4 t5 t6 (IntKind.wrap .i64 (t7 + 1)) b8 b9 (l10 ++ [(Gi_arc.mk (IntKind.wrap .i64 ((IntKind.wrap .i64 (d2 * b8.Depots)) + t7)) (IntKind.wrap .i64 ((IntKind.wrap .i64 ((IntKind.wrap .i64 (d2 + 1)) * b8.Depots)) + t7)) x3 0 false)])))
  else none
  else none
  else
  some (.inl (.h3 vfrom0 vto1 t3 (IntKind.wrap .i64 (t4 + 1)) b8 b9 l10))
 | .h7 vfrom0 vto1 d2 t3 t4 t5 t6 t7 b8 b9 l10 =>
  if t7 < t6 then
  if 0 ≤ t7 then
  Option.bind (t5[(Int.toNat t7)]?) fun x3 =>
  if (t7 : Int) = vfrom0 then
  if (l10 ++ [(Gi_arc.mk (IntKind.wrap .i64 ((IntKind.wrap .i64 (d2 * b8.Depots)) + t7)) (IntKind.wrap .i64 ((IntKind.wrap .i64 ((IntKind.wrap .i64 (d2 + 1)) * b8.Depots)) + t7)) 1000000000 0 false)]).length * 40 ≤ 70368744177664 then
  some (.inl (.h7 vfrom0 vto1 d2 t3 t4 t5 t6 (IntKind.wrap .i64 (t7 + 1)) b8 b9 (l10 ++ [(Gi_arc.mk (IntKind.wrap .i64 ((IntKind.wrap .i64 (d2 * b8.Depots)) + t7)) (IntKind.wrap .i64 ((IntKind.wrap .i64 ((IntKind.wrap .i64 (d2 + 1)) * b8.Depots)) + t7)) 1000000000 0 false)])))
  else none
  else
  if (t7 : Int) = vto1 then
  if (l10 ++ [(Gi_arc.mk (IntKind.wrap .i64 ((IntKind.wrap .i64 (d2 * b8.Depots)) + t7)) (IntKind.wrap .i64 ((IntKind.wrap .i64 ((IntKind.wrap .i64 (d2 + 1)) * b8.Depots)) + t7)) 1000000000 0 false)]).length * 40 ≤ 70368744177664 then
  some (.inl (.h7 vfrom0 vto1 d2 t3 t4 t5 t6 (IntKind.wrap .i64 (t7 + 1)) b8 b9 (l10 ++ [(Gi_arc.mk (IntKind.wrap .i64 ((IntKind.wrap .i64 (d2 * b8.Depots)) + t7)) (IntKind.wrap .i64 ((IntKind.wrap .i64 ((IntKind.wrap .i64 (d2 + 1)) * b8.Depots)) + t7)) 1000000000 0 false)])))
  else none
  else
  if (l10 ++ [(Gi_arc.mk (IntKind.wrap .i64 ((IntKind.wrap .i64 (d2 * b8.Depots)) + t7)) (IntKind.wrap .i64 ((IntKind.wrap .i64 ((IntKind.wrap .i64 (d2 + 1)) * b8.Depots)) + t7)) x3 0 false)]).length * 40 ≤ 70368744177664 then
  some (.inl (.h7 vfrom0 vto1 d2 t3 t4 t5 t6 (IntKind.wrap .i64 (t7 + 1)) b8 b9 (l10 ++ [(Gi_arc.mk (IntKind.wrap .i64 ((IntKind.wrap .i64 (d2 * b8.Depots)) + t7)) (IntKind.wrap .i64 ((IntKind.wrap .i64 ((IntKind.wrap .i64 (d2 + 1)) * b8.Depots)) + t7)) x3 0 false)])))
  else none
  else none
  else
  some (.inl (.h3 vfrom0 vto1 t3 (IntKind.wrap .i64 (t4 + 1)) b8 b9 l10))
noncomputable def Di_networkOf (a0 : Gi_Lanes) (a1 : Int) (a2 : Int) (a3 : Int) : Option (Gi_network) :=
  loop Bi_networkOf (.h1 a1 a2 a3 a3 0 a0 (IntKind.wrap .i64 ((IntKind.wrap .i64 (a3 + 1)) * a0.Depots)) ([] : List Gi_arc))
inductive Si_network_search where
 | h1 (n0 : Gi_network) (vat1 : Int) (l2 : (List Gi_visit)) (l3 : (List Int))
 | h2 (n0 : Gi_network) (vat1 : Int) (t2 : (List Gi_arc)) (t3 : Int) (t4 : Int) (l5 : (List Gi_visit)) (l6 : (List Int))
noncomputable def Bi_network_search : Si_network_search → Option (Si_network_search ⊕ ((List Gi_visit)))
 | .h1 n0 vat1 l2 l3 =>
  if vat1 < ((l3.length : Nat) : Int) then
  some (.inl (.h2 n0 vat1 n0.arcs ((n0.arcs.length : Nat) : Int) 0 l2 l3))
  else
  some (.inr l2)
 | .h2 n0 vat1 t2 t3 t4 l5 l6 =>
  if t4 < t3 then
  if 0 ≤ t4 then
  Option.bind (t2[(Int.toNat t4)]?) fun x3 =>
  if x3.frozen = true then
  some (.inl (.h2 n0 vat1 t2 t3 (IntKind.wrap .i64 (t4 + 1)) l5 l6))
  else
  if 0 ≤ vat1 then
  Option.bind (l6[(Int.toNat vat1)]?) fun x6 =>
  if (x3.from_ : Int) = x6 then
  if 0 ≤ x3.to_ then
  Option.bind (l5[(Int.toNat x3.to_)]?) fun x9 =>
  if x9.seen = true then
  if 0 ≤ vat1 then
  Option.bind (l6[(Int.toNat vat1)]?) fun x12 =>
  if (x3.to_ : Int) = x12 then
  if 0 ≤ x3.from_ then
  Option.bind (l5[(Int.toNat x3.from_)]?) fun x15 =>
  if x15.seen = true then
  some (.inl (.h2 n0 vat1 t2 t3 (IntKind.wrap .i64 (t4 + 1)) l5 l6))
  else
  if x3.flow > 0 then
  if 0 ≤ x3.from_ then
  Option.bind (l5[(Int.toNat x3.from_)]?) fun x19 =>
  if (l6 ++ [x3.from_]).length * 8 ≤ 70368744177664 then
  some (.inl (.h2 n0 vat1 t2 t3 (IntKind.wrap .i64 (t4 + 1)) (List.set l5 (Int.toNat x3.from_) (Gi_visit.mk t4 true true)) (l6 ++ [x3.from_])))
  else none
  else none
  else
  some (.inl (.h2 n0 vat1 t2 t3 (IntKind.wrap .i64 (t4 + 1)) l5 l6))
  else none
  else
  some (.inl (.h2 n0 vat1 t2 t3 (IntKind.wrap .i64 (t4 + 1)) l5 l6))
  else none
  else
  if x3.flow < x3.most then
  if 0 ≤ x3.to_ then
  Option.bind (l5[(Int.toNat x3.to_)]?) fun x13 =>
  if (l6 ++ [x3.to_]).length * 8 ≤ 70368744177664 then
  if 0 ≤ vat1 then
  Option.bind ((l6 ++ [x3.to_])[(Int.toNat vat1)]?) fun x16 =>
  if (x3.to_ : Int) = x16 then
  if 0 ≤ x3.from_ then
  Option.bind ((List.set l5 (Int.toNat x3.to_) (Gi_visit.mk t4 false true))[(Int.toNat x3.from_)]?) fun x19 =>
  if x19.seen = true then
  some (.inl (.h2 n0 vat1 t2 t3 (IntKind.wrap .i64 (t4 + 1)) (List.set l5 (Int.toNat x3.to_) (Gi_visit.mk t4 false true)) (l6 ++ [x3.to_])))
  else
  if x3.flow > 0 then
  if 0 ≤ x3.from_ then
  Option.bind ((List.set l5 (Int.toNat x3.to_) (Gi_visit.mk t4 false true))[(Int.toNat x3.from_)]?) fun x23 =>
  if ((l6 ++ [x3.to_]) ++ [x3.from_]).length * 8 ≤ 70368744177664 then
  some (.inl (.h2 n0 vat1 t2 t3 (IntKind.wrap .i64 (t4 + 1)) (List.set (List.set l5 (Int.toNat x3.to_) (Gi_visit.mk t4 false true)) (Int.toNat x3.from_) (Gi_visit.mk t4 true true)) ((l6 ++ [x3.to_]) ++ [x3.from_])))
  else none
  else none
  else
  some (.inl (.h2 n0 vat1 t2 t3 (IntKind.wrap .i64 (t4 + 1)) (List.set l5 (Int.toNat x3.to_) (Gi_visit.mk t4 false true)) (l6 ++ [x3.to_])))
  else none
  else
  some (.inl (.h2 n0 vat1 t2 t3 (IntKind.wrap .i64 (t4 + 1)) (List.set l5 (Int.toNat x3.to_) (Gi_visit.mk t4 false true)) (l6 ++ [x3.to_])))
  else none
  else none
  else none
  else
  if 0 ≤ vat1 then
  Option.bind (l6[(Int.toNat vat1)]?) fun x13 =>
  if (x3.to_ : Int) = x13 then
  if 0 ≤ x3.from_ then
  Option.bind (l5[(Int.toNat x3.from_)]?) fun x16 =>
  if x16.seen = true then
  some (.inl (.h2 n0 vat1 t2 t3 (IntKind.wrap .i64 (t4 + 1)) l5 l6))
  else
  if x3.flow > 0 then
  if 0 ≤ x3.from_ then
  Option.bind (l5[(Int.toNat x3.from_)]?) fun x20 =>
  if (l6 ++ [x3.from_]).length * 8 ≤ 70368744177664 then
  some (.inl (.h2 n0 vat1 t2 t3 (IntKind.wrap .i64 (t4 + 1)) (List.set l5 (Int.toNat x3.from_) (Gi_visit.mk t4 true true)) (l6 ++ [x3.from_])))
  else none
  else none
  else
  some (.inl (.h2 n0 vat1 t2 t3 (IntKind.wrap .i64 (t4 + 1)) l5 l6))
  else none
  else
  some (.inl (.h2 n0 vat1 t2 t3 (IntKind.wrap .i64 (t4 + 1)) l5 l6))
  else none
  else none
  else
  if 0 ≤ vat1 then
  Option.bind (l6[(Int.toNat vat1)]?) fun x9 =>
  if (x3.to_ : Int) = x9 then
  if 0 ≤ x3.from_ then
  Option.bind (l5[(Int.toNat x3.from_)]?) fun x12 =>
  if x12.seen = true then
  some (.inl (.h2 n0 vat1 t2 t3 (IntKind.wrap .i64 (t4 + 1)) l5 l6))
  else
  if x3.flow > 0 then
  if 0 ≤ x3.from_ then
  Option.bind (l5[(Int.toNat x3.from_)]?) fun x16 =>
  if (l6 ++ [x3.from_]).length * 8 ≤ 70368744177664 then
  some (.inl (.h2 n0 vat1 t2 t3 (IntKind.wrap .i64 (t4 + 1)) (List.set l5 (Int.toNat x3.from_) (Gi_visit.mk t4 true true)) (l6 ++ [x3.from_])))
  else none
  else none
  else
  some (.inl (.h2 n0 vat1 t2 t3 (IntKind.wrap .i64 (t4 + 1)) l5 l6))
  else none
  else
  some (.inl (.h2 n0 vat1 t2 t3 (IntKind.wrap .i64 (t4 + 1)) l5 l6))
  else none
  else none
  else none
  else
  some (.inl (.h1 n0 (IntKind.wrap .i64 (vat1 + 1)) l5 l6))
noncomputable def Di_network_search (a0 : Gi_network) (a1 : Int) : Option ((List Gi_visit)) :=
  if 0 ≤ a0.places then
  if Int.toNat a0.places * 16 ≤ 140737488355328 then
  if 0 ≤ a1 then
  Option.bind ((List.replicate (Int.toNat a0.places) (Gi_visit.mk 0 false false))[(Int.toNat a1)]?) fun x4 =>
  loop Bi_network_search (.h1 a0 0 (List.set (List.replicate (Int.toNat a0.places) (Gi_visit.mk 0 false false)) (Int.toNat a1) (Gi_visit.mk (-1) false true)) [a1])
  else none
  else none
  else none
inductive Si_network_push where
 | h1 (vfrom0 : Int) (vto1 : Int) (most2 : Int) (moved3 : Int) (b4 : Int) (l5 : (List Gi_arc))
 | h2 (vfrom0 : Int) (vto1 : Int) (most2 : Int) (moved3 : Int) (vroom4 : Int) (vat5 : Int) (b6 : Int) (l7 : (List Gi_arc)) (l8 : (List Gi_visit))
 | h3 (vfrom0 : Int) (vto1 : Int) (most2 : Int) (moved3 : Int) (vroom4 : Int) (vat5 : Int) (b6 : Int) (l7 : (List Gi_arc)) (l8 : (List Gi_visit))
noncomputable def Bi_network_push : Si_network_push → Option (Si_network_push ⊕ (Int × Gi_network))
 | .h1 vfrom0 vto1 most2 moved3 b4 l5 =>
  if moved3 < most2 then
  Option.bind (Di_network_search (Gi_network.mk b4 l5) vfrom0) fun r2 =>
  if 0 ≤ vto1 then
  Option.bind (r2[(Int.toNat vto1)]?) fun x4 =>
  if x4.seen = true then
  some (.inl (.h2 vfrom0 vto1 most2 moved3 (IntKind.wrap .i64 (most2 - moved3)) vto1 b4 l5 r2))
  else
  some (.inr (moved3, (Gi_network.mk b4 l5)))
  else none
  else
  some (.inr (moved3, (Gi_network.mk b4 l5)))
 | .h2 vfrom0 vto1 most2 moved3 vroom4 vat5 b6 l7 l8 =>
  if (vat5 : Int) = vfrom0 then
  some (.inl (.h3 vfrom0 vto1 most2 moved3 vroom4 vto1 b6 l7 l8))
  else
  if 0 ≤ vat5 then
  Option.bind (l8[(Int.toNat vat5)]?) fun x3 =>
  if 0 ≤ x3.arc then
  Option.bind (l7[(Int.toNat x3.arc)]?) fun x5 =>
  if 0 ≤ vat5 then
  Option.bind (l8[(Int.toNat vat5)]?) fun x7 =>
  if x7.back = true then
  some (.inl (.h2 vfrom0 vto1 most2 moved3 (if x5.flow < vroom4 then x5.flow else vroom4) x5.to_ b6 l7 l8))
  else
  some (.inl (.h2 vfrom0 vto1 most2 moved3 (if (IntKind.wrap .i64 (x5.most - x5.flow)) < vroom4 then (IntKind.wrap .i64 (x5.most - x5.flow)) else vroom4) x5.from_ b6 l7 l8))
  else none
  else none
  else none
 | .h3 vfrom0 vto1 most2 moved3 vroom4 vat5 b6 l7 l8 =>
  if (vat5 : Int) = vfrom0 then
  some (.inl (.h1 vfrom0 vto1 most2 (IntKind.wrap .i64 (moved3 + vroom4)) b6 l7))
  else
  if 0 ≤ vat5 then
  Option.bind (l8[(Int.toNat vat5)]?) fun x3 =>
  if 0 ≤ x3.arc then
  Option.bind (l7[(Int.toNat x3.arc)]?) fun x5 =>
  if 0 ≤ vat5 then
  Option.bind (l8[(Int.toNat vat5)]?) fun x7 =>
  if x7.back = true then
  Option.bind ((List.set l7 (Int.toNat x3.arc) (Gi_arc.mk x5.from_ x5.to_ x5.most (IntKind.wrap .i64 (x5.flow - vroom4)) x5.frozen))[(Int.toNat x3.arc)]?) fun x9 =>
  some (.inl (.h3 vfrom0 vto1 most2 moved3 vroom4 x9.to_ b6 (List.set l7 (Int.toNat x3.arc) (Gi_arc.mk x5.from_ x5.to_ x5.most (IntKind.wrap .i64 (x5.flow - vroom4)) x5.frozen)) l8))
  else
  Option.bind ((List.set l7 (Int.toNat x3.arc) (Gi_arc.mk x5.from_ x5.to_ x5.most (IntKind.wrap .i64 (x5.flow + vroom4)) x5.frozen))[(Int.toNat x3.arc)]?) fun x9 =>
  some (.inl (.h3 vfrom0 vto1 most2 moved3 vroom4 x9.from_ b6 (List.set l7 (Int.toNat x3.arc) (Gi_arc.mk x5.from_ x5.to_ x5.most (IntKind.wrap .i64 (x5.flow + vroom4)) x5.frozen)) l8))
  else none
  else none
  else none
noncomputable def Di_network_push (a0 : Gi_network) (a1 : Int) (a2 : Int) (a3 : Int) : Option (Int × Gi_network) :=
  loop Bi_network_push (.h1 a1 a2 a3 0 a0.places a0.arcs)
noncomputable def Di_delivered (a0 : Gi_Lanes) (a1 : Int) (a2 : Int) (a3 : Int) : Option (Gi_network × Int) :=
  Option.bind (Di_networkOf a0 a1 a2 a3) fun r1 =>
  if (a3 : Int) = 0 then
  some (r1, 0)
  else
  Option.bind (Di_network_push r1 a1 (IntKind.wrap .i64 ((IntKind.wrap .i64 (a3 * a0.Depots)) + a2)) 1000000000) fun r3 =>
  if r3.2.arcs.length = r1.arcs.length then
  some (r3.2, r3.1)
  else none
inductive Si_DeliveryPlan where
 | h1 (t0 : Int) (t1 : Int) (b2 : Gi_Lanes) (b3 : Int) (l4 : (List Gi_Convoy)) (l5 : (List Gi_arc))
noncomputable def Bi_DeliveryPlan : Si_DeliveryPlan → Option (Si_DeliveryPlan ⊕ ((List Gi_Convoy) × Bool))
 | .h1 t0 t1 b2 b3 l4 l5 =>
  if t1 < t0 then
  if 0 ≤ t1 then
  Option.bind (l5[(Int.toNat t1)]?) fun x3 =>
  Option.bind ((List.set l5 (Int.toNat t1) (Gi_arc.mk x3.from_ x3.to_ x3.most x3.flow true))[(Int.toNat t1)]?) fun x4 =>
  Option.bind ((List.set l5 (Int.toNat t1) (Gi_arc.mk x3.from_ x3.to_ x3.most x3.flow true))[(Int.toNat t1)]?) fun x5 =>
  Option.bind ((List.set l5 (Int.toNat t1) (Gi_arc.mk x3.from_ x3.to_ x3.most x3.flow true))[(Int.toNat t1)]?) fun x6 =>
  Option.bind ((List.set l5 (Int.toNat t1) (Gi_arc.mk x3.from_ x3.to_ x3.most x3.flow true))[(Int.toNat t1)]?) fun x7 =>
  Option.bind (Di_network_push (Gi_network.mk b3 (List.set l5 (Int.toNat t1) (Gi_arc.mk x3.from_ x3.to_ x3.most x3.flow true))) x5.from_ x6.to_ x7.flow) fun r8 =>
  if r8.2.arcs.length = (List.set l5 (Int.toNat t1) (Gi_arc.mk x3.from_ x3.to_ x3.most x3.flow true)).length then
  Option.bind (r8.2.arcs[(Int.toNat t1)]?) fun x10 =>
  if x10.flow = x4.flow then
  Option.bind (r8.2.arcs[(Int.toNat t1)]?) fun x12 =>
  Option.bind ((List.set r8.2.arcs (Int.toNat t1) (Gi_arc.mk x12.from_ x12.to_ x12.most (IntKind.wrap .i64 (x4.flow - r8.1)) x12.frozen))[(Int.toNat t1)]?) fun x13 =>
  if x13.flow > 0 then
  if ¬ ((b2.Lanes.length : Nat) : Int) = 0 then
  if ¬ ((b2.Lanes.length : Nat) : Int) = 0 then
  Option.bind ((List.set r8.2.arcs (Int.toNat t1) (Gi_arc.mk x12.from_ x12.to_ x12.most (IntKind.wrap .i64 (x4.flow - r8.1)) x12.frozen))[(Int.toNat t1)]?) fun x17 =>
  if (l4 ++ [(Gi_Convoy.mk (IntKind.wrap .i64 (Int.tdiv t1 ((b2.Lanes.length : Nat) : Int))) (Int.tmod t1 ((b2.Lanes.length : Nat) : Int)) x17.flow)]).length * 24 ≤ 70368744177664 then
  some (.inl (.h1 t0 (IntKind.wrap .i64 (t1 + 1)) b2 r8.2.places (l4 ++ [(Gi_Convoy.mk (IntKind.wrap .i64 (Int.tdiv t1 ((b2.Lanes.length : Nat) : Int))) (Int.tmod t1 ((b2.Lanes.length : Nat) : Int)) x17.flow)]) (List.set r8.2.arcs (Int.toNat t1) (Gi_arc.mk x12.from_ x12.to_ x12.most (IntKind.wrap .i64 (x4.flow - r8.1)) x12.frozen))))
  else none
  else none
  else none
  else
  some (.inl (.h1 t0 (IntKind.wrap .i64 (t1 + 1)) b2 r8.2.places l4 (List.set r8.2.arcs (Int.toNat t1) (Gi_arc.mk x12.from_ x12.to_ x12.most (IntKind.wrap .i64 (x4.flow - r8.1)) x12.frozen))))
  else none
  else none
  else none
  else
  some (.inr (l4, true))
noncomputable def Di_DeliveryPlan (a0 : Gi_Lanes) (a1 : Int) (a2 : Int) (a3 : Int) : Option ((List Gi_Convoy) × Bool) :=
  Option.bind (Di_isTransport a0 a1 a2 a3) fun r1 =>
  if r1 = true then
  Option.bind (Di_delivered a0 a1 a2 a3) fun r3 =>
  loop Bi_DeliveryPlan (.h1 (IntKind.wrap .i64 (a3 * ((a0.Lanes.length : Nat) : Int))) 0 a0 r3.1.places ([] : List Gi_Convoy) r3.1.arcs)
  else
  some ([], false)
noncomputable def Ds_l1In (a0 : Int) (a1 : Int) (a2 : Int) : Option (Bool) :=
  if a0 ≥ a1 then
  some (decide (a0 ≤ a2))
  else
  some false
inductive Ss_l1All where
 | h1 (lo0 : Int) (vhi1 : Int) (t2 : (List Int)) (t3 : Int) (t4 : Int)
noncomputable def Bs_l1All : Ss_l1All → Option (Ss_l1All ⊕ (Bool))
 | .h1 lo0 vhi1 t2 t3 t4 =>
  if t4 < t3 then
  if 0 ≤ t4 then
  Option.bind (t2[(Int.toNat t4)]?) fun x3 =>
  Option.bind (Ds_l1In x3 lo0 vhi1) fun r4 =>
  if r4 = true then
  some (.inl (.h1 lo0 vhi1 t2 t3 (IntKind.wrap .i64 (t4 + 1))))
  else
  some (.inr false)
  else none
  else
  some (.inr true)
noncomputable def Ds_l1All (a0 : (List Int)) (a1 : Int) (a2 : Int) : Option (Bool) :=
  loop Bs_l1All (.h1 a1 a2 a0 ((a0.length : Nat) : Int) 0)
inductive Ss_qGood where
 | h1 (t0 : (List Gi_Lane)) (t1 : Int) (t2 : Int) (b3 : Gi_Lanes)
noncomputable def Bs_qGood : Ss_qGood → Option (Ss_qGood ⊕ (Bool))
 | .h1 t0 t1 t2 b3 =>
  if t2 < t1 then
  if 0 ≤ t2 then
  Option.bind (t0[(Int.toNat t2)]?) fun x3 =>
  Option.bind (Ds_l1In x3.From 0 (IntKind.wrap .i64 (b3.Depots - 1))) fun r4 =>
  if r4 = true then
  Option.bind (Ds_l1In x3.To 0 (IntKind.wrap .i64 (b3.Depots - 1))) fun r6 =>
  if r6 = true then
  if (x3.From : Int) = x3.To then
  some (.inr false)
  else
  Option.bind (Ds_l1In x3.Load 0 1000) fun r9 =>
  if r9 = true then
  some (.inl (.h1 t0 t1 (IntKind.wrap .i64 (t2 + 1)) b3))
  else
  some (.inr false)
  else
  some (.inr false)
  else
  some (.inr false)
  else none
  else
  some (.inr true)
noncomputable def Ds_qGood (a0 : Gi_Lanes) : Option (Bool) :=
  Option.bind (Ds_l1In a0.Depots 2 6) fun r1 =>
  if r1 = true then
  if ((a0.Lanes.length : Nat) : Int) > 15 then
  some false
  else
  if (((a0.Stores.length : Nat) : Int) : Int) = a0.Depots then
  Option.bind (Ds_l1All a0.Stores 0 1000) fun r5 =>
  if r5 = true then
  loop Bs_qGood (.h1 a0.Lanes ((a0.Lanes.length : Nat) : Int) 0 a0)
  else
  some false
  else
  some false
  else
  some false
noncomputable def Ds_qAsked (a0 : Gi_Lanes) (a1 : Int) (a2 : Int) (a3 : Int) : Option (Bool) :=
  Option.bind (Ds_qGood a0) fun r1 =>
  if r1 = true then
  Option.bind (Ds_l1In a1 0 (IntKind.wrap .i64 (a0.Depots - 1))) fun r3 =>
  if r3 = true then
  Option.bind (Ds_l1In a2 0 (IntKind.wrap .i64 (a0.Depots - 1))) fun r5 =>
  if r5 = true then
  if (a1 : Int) = a2 then
  some false
  else
  Option.bind (Ds_l1In a3 0 6) fun r8 =>
  some r8
  else
  some false
  else
  some false
  else
  some false
inductive Ss_qNetOf where
 | h1 (vfrom0 : Int) (vto1 : Int) (days2 : Int) (d3 : Int) (b4 : Gi_Lanes) (b5 : Int) (l6 : (List Gs_qArc))
 | h2 (vfrom0 : Int) (vto1 : Int) (days2 : Int) (d3 : Int) (vat4 : Int) (next5 : Int) (t6 : (List Gi_Lane)) (t7 : Int) (t8 : Int) (b9 : Gi_Lanes) (b10 : Int) (l11 : (List Gs_qArc))
 | h3 (vfrom0 : Int) (vto1 : Int) (days2 : Int) (d3 : Int) (vat4 : Int) (next5 : Int) (t6 : (List Int)) (t7 : Int) (t8 : Int) (b9 : Gi_Lanes) (b10 : Int) (l11 : (List Gs_qArc))
noncomputable def Bs_qNetOf : Ss_qNetOf → Option (Ss_qNetOf ⊕ (Gs_qNet))
 | .h1 vfrom0 vto1 days2 d3 b4 b5 l6 =>
  if d3 < days2 then
  some (.inl (.h2 vfrom0 vto1 days2 d3 (IntKind.wrap .i64 (d3 * b4.Depots)) (IntKind.wrap .i64 ((IntKind.wrap .i64 (d3 + 1)) * b4.Depots)) b4.Lanes ((b4.Lanes.length : Nat) : Int) 0 b4 b5 l6))
  else
  some (.inr (Gs_qNet.mk l6 b5))
 | .h2 vfrom0 vto1 days2 d3 vat4 next5 t6 t7 t8 b9 b10 l11 =>
  if t8 < t7 then
  if 0 ≤ t8 then
  Option.bind (t6[(Int.toNat t8)]?) fun x3 =>
  if (l11 ++ [(Gs_qArc.mk (IntKind.wrap .i64 (vat4 + x3.From)) (IntKind.wrap .i64 (next5 + x3.To)) x3.Load 0)]).length * 32 ≤ 70368744177664 then
  some (.inl (.h2 vfrom0 vto1 days2 d3 vat4 next5 t6 t7 (IntKind.wrap .i64 (t8 + 1)) b9 b10 (l11 ++ [(Gs_qArc.mk (IntKind.wrap .i64 (vat4 + x3.From)) (IntKind.wrap .i64 (next5 + x3.To)) x3.Load 0)])))
  else none
  else none
  else
  some (.inl (.h3 vfrom0 vto1 days2 d3 vat4 next5 b9.Stores ((b9.Stores.length : Nat) : Int) 0 b9 b10 l11))
 | .h3 vfrom0 vto1 days2 d3 vat4 next5 t6 t7 t8 b9 b10 l11 =>
  if t8 < t7 then
  if 0 ≤ t8 then
  Option.bind (t6[(Int.toNat t8)]?) fun x3 =>
  if (t8 : Int) = vfrom0 then
  if (l11 ++ [(Gs_qArc.mk (IntKind.wrap .i64 (vat4 + t8)) (IntKind.wrap .i64 (next5 + t8)) 1000000 0)]).length * 32 ≤ 70368744177664 then
  some (.inl (.h3 vfrom0 vto1 days2 d3 vat4 next5 t6 t7 (IntKind.wrap .i64 (t8 + 1)) b9 b10 (l11 ++ [(Gs_qArc.mk (IntKind.wrap .i64 (vat4 + t8)) (IntKind.wrap .i64 (next5 + t8)) 1000000 0)])))
  else none
  else
  if (t8 : Int) = vto1 then
  if (l11 ++ [(Gs_qArc.mk (IntKind.wrap .i64 (vat4 + t8)) (IntKind.wrap .i64 (next5 + t8)) 1000000 0)]).length * 32 ≤ 70368744177664 then
  some (.inl (.h3 vfrom0 vto1 days2 d3 vat4 next5 t6 t7 (IntKind.wrap .i64 (t8 + 1)) b9 b10 (l11 ++ [(Gs_qArc.mk (IntKind.wrap .i64 (vat4 + t8)) (IntKind.wrap .i64 (next5 + t8)) 1000000 0)])))
  else none
  else
  if (l11 ++ [(Gs_qArc.mk (IntKind.wrap .i64 (vat4 + t8)) (IntKind.wrap .i64 (next5 + t8)) x3 0)]).length * 32 ≤ 70368744177664 then
  some (.inl (.h3 vfrom0 vto1 days2 d3 vat4 next5 t6 t7 (IntKind.wrap .i64 (t8 + 1)) b9 b10 (l11 ++ [(Gs_qArc.mk (IntKind.wrap .i64 (vat4 + t8)) (IntKind.wrap .i64 (next5 + t8)) x3 0)])))
  else none
  else none
  else
  some (.inl (.h1 vfrom0 vto1 days2 (IntKind.wrap .i64 (d3 + 1)) b9 b10 l11))
noncomputable def Ds_qNetOf (a0 : Gi_Lanes) (a1 : Int) (a2 : Int) (a3 : Int) : Option (Gs_qNet) :=
  loop Bs_qNetOf (.h1 a1 a2 a3 0 a0 (IntKind.wrap .i64 ((IntKind.wrap .i64 (a3 + 1)) * a0.Depots)) ([] : List Gs_qArc))
inductive Ss_qNet_reach where
 | h1 (n0 : Gs_qNet) (start1 : Int) (t2 : Int) (t3 : Int) (l4 : (List Int))
 | h2 (n0 : Gs_qNet) (vat1 : Int) (l2 : (List Int)) (l3 : (List Int))
 | h3 (n0 : Gs_qNet) (vat1 : Int) (v2 : Int) (t3 : (List Gs_qArc)) (t4 : Int) (t5 : Int) (l6 : (List Int)) (l7 : (List Int))
noncomputable def Bs_qNet_reach : Ss_qNet_reach → Option (Ss_qNet_reach ⊕ ((List Int)))
 | .h1 n0 start1 t2 t3 l4 =>
  if t3 < t2 then
  if 0 ≤ t3 then
  Option.bind (l4[(Int.toNat t3)]?) fun x3 =>
  some (.inl (.h1 n0 start1 t2 (IntKind.wrap .i64 (t3 + 1)) (List.set l4 (Int.toNat t3) (-1))))
  else none
  else
  if 0 ≤ start1 then
  Option.bind (l4[(Int.toNat start1)]?) fun x3 =>
  some (.inl (.h2 n0 0 (List.set l4 (Int.toNat start1) (-2)) [start1]))
  else none
 | .h2 n0 vat1 l2 l3 =>
  if vat1 < ((l3.length : Nat) : Int) then
  if 0 ≤ vat1 then
  Option.bind (l3[(Int.toNat vat1)]?) fun x3 =>
  some (.inl (.h3 n0 vat1 x3 n0.arcs ((n0.arcs.length : Nat) : Int) 0 l2 l3))
  else none
  else
  some (.inr l2)
 | .h3 n0 vat1 v2 t3 t4 t5 l6 l7 =>
  if t5 < t4 then
  if 0 ≤ t5 then
  Option.bind (t3[(Int.toNat t5)]?) fun x3 =>
  if (x3.from_ : Int) = v2 then
  if x3.flow < x3.most then
  if 0 ≤ x3.to_ then
  Option.bind (l6[(Int.toNat x3.to_)]?) fun x7 =>
  if (x7 : Int) = (-1) then
  if 0 ≤ x3.to_ then
  Option.bind (l6[(Int.toNat x3.to_)]?) fun x10 =>
  if (l7 ++ [x3.to_]).length * 8 ≤ 70368744177664 then
  if (x3.to_ : Int) = v2 then
  if x3.flow > 0 then
  if 0 ≤ x3.from_ then
  Option.bind ((List.set l6 (Int.toNat x3.to_) t5)[(Int.toNat x3.from_)]?) fun x15 =>
  if (x15 : Int) = (-1) then
  if 0 ≤ x3.from_ then
  Option.bind ((List.set l6 (Int.toNat x3.to_) t5)[(Int.toNat x3.from_)]?) fun x18 =>
  if ((l7 ++ [x3.to_]) ++ [x3.from_]).length * 8 ≤ 70368744177664 then
  some (.inl (.h3 n0 vat1 v2 t3 t4 (IntKind.wrap .i64 (t5 + 1)) (List.set (List.set l6 (Int.toNat x3.to_) t5) (Int.toNat x3.from_) t5) ((l7 ++ [x3.to_]) ++ [x3.from_])))
  else none
  else none
  else
  some (.inl (.h3 n0 vat1 v2 t3 t4 (IntKind.wrap .i64 (t5 + 1)) (List.set l6 (Int.toNat x3.to_) t5) (l7 ++ [x3.to_])))
  else none
  else
  some (.inl (.h3 n0 vat1 v2 t3 t4 (IntKind.wrap .i64 (t5 + 1)) (List.set l6 (Int.toNat x3.to_) t5) (l7 ++ [x3.to_])))
  else
  some (.inl (.h3 n0 vat1 v2 t3 t4 (IntKind.wrap .i64 (t5 + 1)) (List.set l6 (Int.toNat x3.to_) t5) (l7 ++ [x3.to_])))
  else none
  else none
  else
  if (x3.to_ : Int) = v2 then
  if x3.flow > 0 then
  if 0 ≤ x3.from_ then
  Option.bind (l6[(Int.toNat x3.from_)]?) fun x12 =>
  if (x12 : Int) = (-1) then
  if 0 ≤ x3.from_ then
  Option.bind (l6[(Int.toNat x3.from_)]?) fun x15 =>
  if (l7 ++ [x3.from_]).length * 8 ≤ 70368744177664 then
  some (.inl (.h3 n0 vat1 v2 t3 t4 (IntKind.wrap .i64 (t5 + 1)) (List.set l6 (Int.toNat x3.from_) t5) (l7 ++ [x3.from_])))
  else none
  else none
  else
  some (.inl (.h3 n0 vat1 v2 t3 t4 (IntKind.wrap .i64 (t5 + 1)) l6 l7))
  else none
  else
  some (.inl (.h3 n0 vat1 v2 t3 t4 (IntKind.wrap .i64 (t5 + 1)) l6 l7))
  else
  some (.inl (.h3 n0 vat1 v2 t3 t4 (IntKind.wrap .i64 (t5 + 1)) l6 l7))
  else none
  else
  if (x3.to_ : Int) = v2 then
  if x3.flow > 0 then
  if 0 ≤ x3.from_ then
  Option.bind (l6[(Int.toNat x3.from_)]?) fun x9 =>
  if (x9 : Int) = (-1) then
  if 0 ≤ x3.from_ then
  Option.bind (l6[(Int.toNat x3.from_)]?) fun x12 =>
  if (l7 ++ [x3.from_]).length * 8 ≤ 70368744177664 then
  some (.inl (.h3 n0 vat1 v2 t3 t4 (IntKind.wrap .i64 (t5 + 1)) (List.set l6 (Int.toNat x3.from_) t5) (l7 ++ [x3.from_])))
  else none
  else none
  else
  some (.inl (.h3 n0 vat1 v2 t3 t4 (IntKind.wrap .i64 (t5 + 1)) l6 l7))
  else none
  else
  some (.inl (.h3 n0 vat1 v2 t3 t4 (IntKind.wrap .i64 (t5 + 1)) l6 l7))
  else
  some (.inl (.h3 n0 vat1 v2 t3 t4 (IntKind.wrap .i64 (t5 + 1)) l6 l7))
  else
  if (x3.to_ : Int) = v2 then
  if x3.flow > 0 then
  if 0 ≤ x3.from_ then
  Option.bind (l6[(Int.toNat x3.from_)]?) fun x8 =>
  if (x8 : Int) = (-1) then
  if 0 ≤ x3.from_ then
  Option.bind (l6[(Int.toNat x3.from_)]?) fun x11 =>
  if (l7 ++ [x3.from_]).length * 8 ≤ 70368744177664 then
  some (.inl (.h3 n0 vat1 v2 t3 t4 (IntKind.wrap .i64 (t5 + 1)) (List.set l6 (Int.toNat x3.from_) t5) (l7 ++ [x3.from_])))
  else none
  else none
  else
  some (.inl (.h3 n0 vat1 v2 t3 t4 (IntKind.wrap .i64 (t5 + 1)) l6 l7))
  else none
  else
  some (.inl (.h3 n0 vat1 v2 t3 t4 (IntKind.wrap .i64 (t5 + 1)) l6 l7))
  else
  some (.inl (.h3 n0 vat1 v2 t3 t4 (IntKind.wrap .i64 (t5 + 1)) l6 l7))
  else none
  else
  some (.inl (.h2 n0 (IntKind.wrap .i64 (vat1 + 1)) l6 l7))
noncomputable def Ds_qNet_reach (a0 : Gs_qNet) (a1 : Int) : Option ((List Int)) :=
  if 0 ≤ a0.places then
  if Int.toNat a0.places * 8 ≤ 140737488355328 then
  loop Bs_qNet_reach (.h1 a0 a1 (((List.replicate (Int.toNat a0.places) (0 : Int)).length : Nat) : Int) 0 (List.replicate (Int.toNat a0.places) (0 : Int)))
  else none
  else none
noncomputable def Ds_qNet_room (a0 : Gs_qNet) (a1 : Int) (a2 : Int) : Option (Int) :=
  if 0 ≤ a1 then
  Option.bind (a0.arcs[(Int.toNat a1)]?) fun x2 =>
  if (x2.to_ : Int) = a2 then
  if 0 ≤ a1 then
  Option.bind (a0.arcs[(Int.toNat a1)]?) fun x5 =>
  if 0 ≤ a1 then
  Option.bind (a0.arcs[(Int.toNat a1)]?) fun x7 =>
  some (IntKind.wrap .i64 (x5.most - x7.flow))
  else none
  else none
  else
  if 0 ≤ a1 then
  Option.bind (a0.arcs[(Int.toNat a1)]?) fun x5 =>
  some x5.flow
  else none
  else none
noncomputable def Ds_l1Least (a0 : Int) (a1 : Int) : Option (Int) :=
  if a0 < a1 then
  some a0
  else
  some a1
noncomputable def Ds_qNet_other (a0 : Gs_qNet) (a1 : Int) (a2 : Int) : Option (Int) :=
  if 0 ≤ a1 then
  Option.bind (a0.arcs[(Int.toNat a1)]?) fun x2 =>
  if 0 ≤ a1 then
  Option.bind (a0.arcs[(Int.toNat a1)]?) fun x4 =>
  some (IntKind.wrap .i64 ((IntKind.wrap .i64 (x2.from_ + x4.to_)) - a2))
  else none
  else none
inductive Ss_qNet_fill where
 | h1 (start0 : Int) (vend1 : Int) (limit2 : Int) (total3 : Int) (b4 : Int) (l5 : (List Gs_qArc))
 | h2 (start0 : Int) (vend1 : Int) (limit2 : Int) (total3 : Int) (most4 : Int) (v5 : Int) (b6 : Int) (l7 : (List Gs_qArc)) (l8 : (List Int))
 | h3 (start0 : Int) (vend1 : Int) (limit2 : Int) (total3 : Int) (most4 : Int) (v5 : Int) (b6 : Int) (l7 : (List Gs_qArc)) (l8 : (List Int))
noncomputable def Bs_qNet_fill : Ss_qNet_fill → Option (Ss_qNet_fill ⊕ (Int × Gs_qNet))
 | .h1 start0 vend1 limit2 total3 b4 l5 =>
  if total3 < limit2 then
  Option.bind (Ds_qNet_reach (Gs_qNet.mk l5 b4) start0) fun r2 =>
  if 0 ≤ vend1 then
  Option.bind (r2[(Int.toNat vend1)]?) fun x4 =>
  if x4 < 0 then
  some (.inr (total3, (Gs_qNet.mk l5 b4)))
  else
  some (.inl (.h2 start0 vend1 limit2 total3 (IntKind.wrap .i64 (limit2 - total3)) vend1 b4 l5 r2))
  else none
  else
  some (.inr (total3, (Gs_qNet.mk l5 b4)))
 | .h2 start0 vend1 limit2 total3 most4 v5 b6 l7 l8 =>
  if (v5 : Int) = start0 then
  some (.inl (.h3 start0 vend1 limit2 total3 most4 vend1 b6 l7 l8))
  else
  if 0 ≤ v5 then
  Option.bind (l8[(Int.toNat v5)]?) fun x3 =>
  Option.bind (Ds_qNet_room (Gs_qNet.mk l7 b6) x3 v5) fun r4 =>
  Option.bind (Ds_l1Least most4 r4) fun r5 =>
  if 0 ≤ v5 then
  Option.bind (l8[(Int.toNat v5)]?) fun x7 =>
  Option.bind (Ds_qNet_other (Gs_qNet.mk l7 b6) x7 v5) fun r8 =>
  some (.inl (.h2 start0 vend1 limit2 total3 r5 r8 b6 l7 l8))
  else none
  else none
 | .h3 start0 vend1 limit2 total3 most4 v5 b6 l7 l8 =>
  if (v5 : Int) = start0 then
  some (.inl (.h1 start0 vend1 limit2 (IntKind.wrap .i64 (total3 + most4)) b6 l7))
  else
  if 0 ≤ v5 then
  Option.bind (l8[(Int.toNat v5)]?) fun x3 =>
  if 0 ≤ x3 then
  Option.bind (l7[(Int.toNat x3)]?) fun x5 =>
  if 0 ≤ v5 then
  Option.bind (l8[(Int.toNat v5)]?) fun x7 =>
  Option.bind (Ds_qNet_other (Gs_qNet.mk l7 b6) x7 v5) fun r8 =>
  if (x5.to_ : Int) = v5 then
  some (.inl (.h3 start0 vend1 limit2 total3 most4 r8 b6 (List.set l7 (Int.toNat x3) (Gs_qArc.mk x5.from_ x5.to_ x5.most (IntKind.wrap .i64 (x5.flow + most4)))) l8))
  else
  some (.inl (.h3 start0 vend1 limit2 total3 most4 r8 b6 (List.set l7 (Int.toNat x3) (Gs_qArc.mk x5.from_ x5.to_ x5.most (IntKind.wrap .i64 (x5.flow - most4)))) l8))
  else none
  else none
  else none
noncomputable def Ds_qNet_fill (a0 : Gs_qNet) (a1 : Int) (a2 : Int) (a3 : Int) : Option (Int × Gs_qNet) :=
  loop Bs_qNet_fill (.h1 a1 a2 a3 0 a0.places a0.arcs)
noncomputable def Ds_qGreatest (a0 : Gi_Lanes) (a1 : Int) (a2 : Int) (a3 : Int) : Option (Int) :=
  Option.bind (Ds_qNetOf a0 a1 a2 a3) fun r1 =>
  Option.bind (Ds_qNet_fill r1 a1 (IntKind.wrap .i64 ((IntKind.wrap .i64 (a3 * a0.Depots)) + a2)) 10000000) fun r2 =>
  if r2.2.arcs.length = r1.arcs.length then
  some r2.1
  else none
inductive Ss_qPossible where
 | h1 (vfrom0 : Int) (vto1 : Int) (days2 : Int) (t3 : (List Int)) (t4 : Int) (t5 : Int) (b6 : Gi_Lanes) (b7 : Int) (l8 : (List Gs_qArc))
noncomputable def Bs_qPossible : Ss_qPossible → Option (Ss_qPossible ⊕ (Int))
 | .h1 vfrom0 vto1 days2 t3 t4 t5 b6 b7 l8 =>
  if t5 < t4 then
  if 0 ≤ t5 then
  Option.bind (t3[(Int.toNat t5)]?) fun x3 =>
  if x3 ≥ 0 then
  if 0 ≤ t5 then
  Option.bind (l8[(Int.toNat t5)]?) fun x6 =>
  Option.bind (Ds_l1Least x6.most x3) fun r7 =>
  if 0 ≤ t5 then
  Option.bind (l8[(Int.toNat t5)]?) fun x9 =>
  some (.inl (.h1 vfrom0 vto1 days2 t3 t4 (IntKind.wrap .i64 (t5 + 1)) b6 b7 (List.set l8 (Int.toNat t5) (Gs_qArc.mk x9.from_ x9.to_ r7 x9.flow))))
  else none
  else none
  else
  some (.inl (.h1 vfrom0 vto1 days2 t3 t4 (IntKind.wrap .i64 (t5 + 1)) b6 b7 l8))
  else none
  else
  Option.bind (Ds_qNet_fill (Gs_qNet.mk l8 b7) vfrom0 (IntKind.wrap .i64 ((IntKind.wrap .i64 (days2 * b6.Depots)) + vto1)) 10000000) fun r2 =>
  if r2.2.arcs.length = l8.length then
  some (.inr r2.1)
  else none
noncomputable def Ds_qPossible (a0 : Gi_Lanes) (a1 : Int) (a2 : Int) (a3 : Int) (a4 : (List Int)) : Option (Int) :=
  Option.bind (Ds_qNetOf a0 a1 a2 a3) fun r1 =>
  loop Bs_qPossible (.h1 a1 a2 a3 a4 ((a4.length : Nat) : Int) 0 a0 r1.places r1.arcs)
inductive Ss_qLeast where
 | h1 (vfrom0 : Int) (vto1 : Int) (days2 : Int) (want3 : Int) (count4 : Int) (t5 : Int) (t6 : Int) (b7 : Gi_Lanes) (l8 : (List Int)) (l9 : (List Int))
 | h2 (vfrom0 : Int) (vto1 : Int) (days2 : Int) (want3 : Int) (count4 : Int) (i5 : Int) (b6 : Gi_Lanes) (l7 : (List Int)) (l8 : (List Int))
 | h3 (vfrom0 : Int) (vto1 : Int) (days2 : Int) (want3 : Int) (count4 : Int) (i5 : Int) (lo6 : Int) (vhi7 : Int) (b8 : Gi_Lanes) (l9 : (List Int)) (l10 : (List Int))
noncomputable def Bs_qLeast : Ss_qLeast → Option (Ss_qLeast ⊕ ((List Int)))
 | .h1 vfrom0 vto1 days2 want3 count4 t5 t6 b7 l8 l9 =>
  if t6 < t5 then
  if 0 ≤ t6 then
  Option.bind (l8[(Int.toNat t6)]?) fun x3 =>
  some (.inl (.h1 vfrom0 vto1 days2 want3 count4 t5 (IntKind.wrap .i64 (t6 + 1)) b7 (List.set l8 (Int.toNat t6) (-1)) l9))
  else none
  else
  some (.inl (.h2 vfrom0 vto1 days2 want3 count4 0 b7 l8 l9))
 | .h2 vfrom0 vto1 days2 want3 count4 i5 b6 l7 l8 =>
  if i5 < count4 then
  if ¬ (IntKind.wrap .i64 (((b6.Lanes.length : Nat) : Int) + b6.Depots)) = 0 then
  if (Int.tmod i5 (IntKind.wrap .i64 (((b6.Lanes.length : Nat) : Int) + b6.Depots))) ≥ ((b6.Lanes.length : Nat) : Int) then
  some (.inl (.h2 vfrom0 vto1 days2 want3 count4 (IntKind.wrap .i64 (i5 + 1)) b6 l7 l8))
  else
  if ¬ (IntKind.wrap .i64 (((b6.Lanes.length : Nat) : Int) + b6.Depots)) = 0 then
  if 0 ≤ (Int.tmod i5 (IntKind.wrap .i64 (((b6.Lanes.length : Nat) : Int) + b6.Depots))) then
  Option.bind (b6.Lanes[(Int.toNat (Int.tmod i5 (IntKind.wrap .i64 (((b6.Lanes.length : Nat) : Int) + b6.Depots))))]?) fun x6 =>
  some (.inl (.h3 vfrom0 vto1 days2 want3 count4 i5 0 x6.Load b6 l7 l8))
  else none
  else none
  else none
  else
  some (.inr l8)
 | .h3 vfrom0 vto1 days2 want3 count4 i5 lo6 vhi7 b8 l9 l10 =>
  if lo6 < vhi7 then
  if 0 ≤ i5 then
  Option.bind (l9[(Int.toNat i5)]?) fun x3 =>
  Option.bind (Ds_qPossible b8 vfrom0 vto1 days2 (List.set l9 (Int.toNat i5) (IntKind.wrap .i64 (Int.tdiv (IntKind.wrap .i64 (lo6 + vhi7)) 2)))) fun r4 =>
  if r4 ≥ want3 then
  some (.inl (.h3 vfrom0 vto1 days2 want3 count4 i5 lo6 (IntKind.wrap .i64 (Int.tdiv (IntKind.wrap .i64 (lo6 + vhi7)) 2)) b8 (List.set l9 (Int.toNat i5) (IntKind.wrap .i64 (Int.tdiv (IntKind.wrap .i64 (lo6 + vhi7)) 2))) l10))
  else
  some (.inl (.h3 vfrom0 vto1 days2 want3 count4 i5 (IntKind.wrap .i64 ((IntKind.wrap .i64 (Int.tdiv (IntKind.wrap .i64 (lo6 + vhi7)) 2)) + 1)) vhi7 b8 (List.set l9 (Int.toNat i5) (IntKind.wrap .i64 (Int.tdiv (IntKind.wrap .i64 (lo6 + vhi7)) 2))) l10))
  else none
  else
  if 0 ≤ i5 then
  Option.bind (l9[(Int.toNat i5)]?) fun x3 =>
  if (l10 ++ [lo6]).length * 8 ≤ 70368744177664 then
  some (.inl (.h2 vfrom0 vto1 days2 want3 count4 (IntKind.wrap .i64 (i5 + 1)) b8 (List.set l9 (Int.toNat i5) lo6) (l10 ++ [lo6])))
  else none
  else none
noncomputable def Ds_qLeast (a0 : Gi_Lanes) (a1 : Int) (a2 : Int) (a3 : Int) : Option ((List Int)) :=
  Option.bind (Ds_qGreatest a0 a1 a2 a3) fun r1 =>
  if 0 ≤ (IntKind.wrap .i64 (a3 * (IntKind.wrap .i64 (((a0.Lanes.length : Nat) : Int) + a0.Depots)))) then
  if Int.toNat (IntKind.wrap .i64 (a3 * (IntKind.wrap .i64 (((a0.Lanes.length : Nat) : Int) + a0.Depots)))) * 8 ≤ 140737488355328 then
  loop Bs_qLeast (.h1 a1 a2 a3 r1 (IntKind.wrap .i64 (a3 * (IntKind.wrap .i64 (((a0.Lanes.length : Nat) : Int) + a0.Depots)))) (((List.replicate (Int.toNat (IntKind.wrap .i64 (a3 * (IntKind.wrap .i64 (((a0.Lanes.length : Nat) : Int) + a0.Depots))))) (0 : Int)).length : Nat) : Int) 0 a0 (List.replicate (Int.toNat (IntKind.wrap .i64 (a3 * (IntKind.wrap .i64 (((a0.Lanes.length : Nat) : Int) + a0.Depots))))) (0 : Int)) ([] : List Int))
  else none
  else none
inductive Ss_DeliveryPlan where
 | h1 (t0 : Int) (t1 : Int) (b2 : Gi_Lanes) (l3 : (List Gi_Convoy)) (l4 : (List Int))
noncomputable def Bs_DeliveryPlan : Ss_DeliveryPlan → Option (Ss_DeliveryPlan ⊕ ((List Gi_Convoy) × Bool))
 | .h1 t0 t1 b2 l3 l4 =>
  if t1 < t0 then
  if 0 ≤ t1 then
  Option.bind (l4[(Int.toNat t1)]?) fun x3 =>
  if x3 > 0 then
  if ¬ ((b2.Lanes.length : Nat) : Int) = 0 then
  if ¬ ((b2.Lanes.length : Nat) : Int) = 0 then
  if (l3 ++ [(Gi_Convoy.mk (IntKind.wrap .i64 (Int.tdiv t1 ((b2.Lanes.length : Nat) : Int))) (Int.tmod t1 ((b2.Lanes.length : Nat) : Int)) x3)]).length * 24 ≤ 70368744177664 then
  some (.inl (.h1 t0 (IntKind.wrap .i64 (t1 + 1)) b2 (l3 ++ [(Gi_Convoy.mk (IntKind.wrap .i64 (Int.tdiv t1 ((b2.Lanes.length : Nat) : Int))) (Int.tmod t1 ((b2.Lanes.length : Nat) : Int)) x3)]) l4))
  else none
  else none
  else none
  else
  some (.inl (.h1 t0 (IntKind.wrap .i64 (t1 + 1)) b2 l3 l4))
  else none
  else
  some (.inr (l3, true))
noncomputable def Ds_DeliveryPlan (a0 : Gi_Lanes) (a1 : Int) (a2 : Int) (a3 : Int) : Option ((List Gi_Convoy) × Bool) :=
  Option.bind (Ds_qAsked a0 a1 a2 a3) fun r1 =>
  if r1 = true then
  Option.bind (Ds_qLeast a0 a1 a2 a3) fun r3 =>
  loop Bs_DeliveryPlan (.h1 ((r3.length : Nat) : Int) 0 a0 ([] : List Gi_Convoy) r3)
  else
  some ([], false)
noncomputable def Di_GreatestDelivery (a0 : Gi_Lanes) (a1 : Int) (a2 : Int) (a3 : Int) : Option (Int × Bool) :=
  Option.bind (Di_isTransport a0 a1 a2 a3) fun r1 =>
  if r1 = true then
  Option.bind (Di_delivered a0 a1 a2 a3) fun r3 =>
  some (r3.2, true)
  else
  some (0, false)
noncomputable def Ds_GreatestDelivery (a0 : Gi_Lanes) (a1 : Int) (a2 : Int) (a3 : Int) : Option (Int × Bool) :=
  Option.bind (Ds_qAsked a0 a1 a2 a3) fun r1 =>
  if r1 = true then
  Option.bind (Ds_qGreatest a0 a1 a2 a3) fun r3 =>
  some (r3, true)
  else
  some (0, false)
inductive Sw_pSameConvoys where
 | h1 (va0 : (List Gi_Convoy)) (b1 : (List Gi_Convoy)) (t2 : Int) (t3 : Int)
noncomputable def Bw_pSameConvoys : Sw_pSameConvoys → Option (Sw_pSameConvoys ⊕ (Bool))
 | .h1 va0 b1 t2 t3 =>
  if t3 < t2 then
  if 0 ≤ t3 then
  Option.bind (va0[(Int.toNat t3)]?) fun x3 =>
  if 0 ≤ t3 then
  Option.bind (b1[(Int.toNat t3)]?) fun x5 =>
  if (!((x3.Day == x5.Day) && ((x3.Lane == x5.Lane) && (x3.Load == x5.Load)))) = true then
  some (.inr false)
  else
  some (.inl (.h1 va0 b1 t2 (IntKind.wrap .i64 (t3 + 1))))
  else none
  else none
  else
  some (.inr true)
noncomputable def Dw_pSameConvoys (a0 : (List Gi_Convoy)) (a1 : (List Gi_Convoy)) : Option (Bool) :=
  if (((a0.length : Nat) : Int) : Int) = ((a1.length : Nat) : Int) then
  loop Bw_pSameConvoys (.h1 a0 a1 ((a0.length : Nat) : Int) 0)
  else
  some false
inductive Si_goodConvoys where
 | h1 (days0 : Int) (l1 : (List Gi_Convoy)) (t2 : (List Gi_Convoy)) (t3 : Int) (t4 : Int) (b5 : Gi_Lanes)
noncomputable def Bi_goodConvoys : Si_goodConvoys → Option (Si_goodConvoys ⊕ (Bool))
 | .h1 days0 l1 t2 t3 t4 b5 =>
  if t4 < t3 then
  if 0 ≤ t4 then
  Option.bind (t2[(Int.toNat t4)]?) fun x3 =>
  Option.bind (Di_isIndex x3.Day days0) fun r4 =>
  if r4 = true then
  Option.bind (Di_isIndex x3.Lane ((b5.Lanes.length : Nat) : Int)) fun r6 =>
  if r6 = true then
  if 0 ≤ x3.Lane then
  Option.bind (b5.Lanes[(Int.toNat x3.Lane)]?) fun x9 =>
  Option.bind (Di_inRange x3.Load 1 x9.Load) fun r10 =>
  if r10 = true then
  if t4 > 0 then
  if 0 ≤ (IntKind.wrap .i64 (t4 - 1)) then
  Option.bind (l1[(Int.toNat (IntKind.wrap .i64 (t4 - 1)))]?) fun x14 =>
  if x14.Day > x3.Day then
  some (.inr false)
  else
  if 0 ≤ (IntKind.wrap .i64 (t4 - 1)) then
  Option.bind (l1[(Int.toNat (IntKind.wrap .i64 (t4 - 1)))]?) fun x17 =>
  if (x17.Day : Int) = x3.Day then
  if 0 ≤ (IntKind.wrap .i64 (t4 - 1)) then
  Option.bind (l1[(Int.toNat (IntKind.wrap .i64 (t4 - 1)))]?) fun x20 =>
  if x20.Lane ≥ x3.Lane then
  some (.inr false)
  else
  some (.inl (.h1 days0 l1 t2 t3 (IntKind.wrap .i64 (t4 + 1)) b5))
  else none
  else
  some (.inl (.h1 days0 l1 t2 t3 (IntKind.wrap .i64 (t4 + 1)) b5))
  else none
  else none
  else
  some (.inl (.h1 days0 l1 t2 t3 (IntKind.wrap .i64 (t4 + 1)) b5))
  else
  some (.inr false)
  else none
  else
  some (.inr false)
  else
  some (.inr false)
  else none
  else
  some (.inr true)
noncomputable def Di_goodConvoys (a0 : Gi_Lanes) (a1 : Int) (a2 : (List Gi_Convoy)) : Option (Bool) :=
  loop Bi_goodConvoys (.h1 a1 a2 a2 ((a2.length : Nat) : Int) 0 a0)
inductive Si_CheckConvoys where
 | h1 (vfrom0 : Int) (vto1 : Int) (l2 : (List Gi_Convoy)) (t3 : Int) (t4 : Int) (b5 : Gi_Lanes) (l6 : (List Int))
 | h2 (vfrom0 : Int) (vto1 : Int) (l2 : (List Gi_Convoy)) (d3 : Int) (t4 : Int) (t5 : Int) (t6 : (List Gi_Convoy)) (t7 : Int) (t8 : Int) (b9 : Gi_Lanes) (l10 : (List Int)) (l11 : (List Int))
 | h3 (vfrom0 : Int) (vto1 : Int) (l2 : (List Gi_Convoy)) (t3 : Int) (t4 : Int) (t5 : Int) (t6 : Int) (b7 : Gi_Lanes) (l8 : (List Int)) (l9 : (List Int))
noncomputable def Bi_CheckConvoys : Si_CheckConvoys → Option (Si_CheckConvoys ⊕ (Int × Int × Bool))
 | .h1 vfrom0 vto1 l2 t3 t4 b5 l6 =>
  if t4 < t3 then
  if 0 ≤ b5.Depots then
  if Int.toNat b5.Depots * 8 ≤ 140737488355328 then
  some (.inl (.h2 vfrom0 vto1 l2 t4 t3 t4 l2 ((l2.length : Nat) : Int) 0 b5 l6 (List.replicate (Int.toNat b5.Depots) (0 : Int))))
  else none
  else none
  else
  if 0 ≤ vto1 then
  Option.bind (l6[(Int.toNat vto1)]?) fun x3 =>
  some (.inr (0, x3, true))
  else none
 | .h2 vfrom0 vto1 l2 d3 t4 t5 t6 t7 t8 b9 l10 l11 =>
  if t8 < t7 then
  if 0 ≤ t8 then
  Option.bind (t6[(Int.toNat t8)]?) fun x3 =>
  if (x3.Day : Int) = d3 then
  if 0 ≤ x3.Lane then
  Option.bind (b9.Lanes[(Int.toNat x3.Lane)]?) fun x6 =>
  if 0 ≤ x6.From then
  Option.bind (l10[(Int.toNat x6.From)]?) fun x8 =>
  if 0 ≤ x6.From then
  Option.bind (l10[(Int.toNat x6.From)]?) fun x10 =>
  if 0 ≤ x3.Lane then
  Option.bind (b9.Lanes[(Int.toNat x3.Lane)]?) fun x12 =>
  if 0 ≤ x12.To then
  Option.bind (l11[(Int.toNat x12.To)]?) fun x14 =>
  if 0 ≤ x12.To then
  Option.bind (l11[(Int.toNat x12.To)]?) fun x16 =>
  some (.inl (.h2 vfrom0 vto1 l2 d3 t4 t5 t6 t7 (IntKind.wrap .i64 (t8 + 1)) b9 (List.set l10 (Int.toNat x6.From) (IntKind.wrap .i64 (x8 - x3.Load))) (List.set l11 (Int.toNat x12.To) (IntKind.wrap .i64 (x14 + x3.Load)))))
  else none
  else none
  else none
  else none
  else none
  else none
  else
  some (.inl (.h2 vfrom0 vto1 l2 d3 t4 t5 t6 t7 (IntKind.wrap .i64 (t8 + 1)) b9 l10 l11))
  else none
  else
  some (.inl (.h3 vfrom0 vto1 l2 t4 t5 ((l10.length : Nat) : Int) 0 b9 l10 l11))
 | .h3 vfrom0 vto1 l2 t3 t4 t5 t6 b7 l8 l9 =>
  if t6 < t5 then
  if 0 ≤ t6 then
  Option.bind (l8[(Int.toNat t6)]?) fun x3 =>
  if (t6 : Int) = vfrom0 then
  if 0 ≤ t6 then
  Option.bind (l8[(Int.toNat t6)]?) fun x6 =>
  if 0 ≤ t6 then
  Option.bind (l9[(Int.toNat t6)]?) fun x8 =>
  if 0 ≤ t6 then
  Option.bind (l8[(Int.toNat t6)]?) fun x10 =>
  some (.inl (.h3 vfrom0 vto1 l2 t3 t4 t5 (IntKind.wrap .i64 (t6 + 1)) b7 (List.set l8 (Int.toNat t6) (IntKind.wrap .i64 (x6 + x8))) l9))
  else none
  else none
  else none
  else
  if x3 < 0 then
  some (.inr (2, 0, true))
  else
  if (t6 : Int) = vto1 then
  if 0 ≤ t6 then
  Option.bind (l8[(Int.toNat t6)]?) fun x8 =>
  if 0 ≤ t6 then
  Option.bind (l9[(Int.toNat t6)]?) fun x10 =>
  if 0 ≤ t6 then
  Option.bind (l8[(Int.toNat t6)]?) fun x12 =>
  some (.inl (.h3 vfrom0 vto1 l2 t3 t4 t5 (IntKind.wrap .i64 (t6 + 1)) b7 (List.set l8 (Int.toNat t6) (IntKind.wrap .i64 (x8 + x10))) l9))
  else none
  else none
  else none
  else
  if 0 ≤ t6 then
  Option.bind (b7.Stores[(Int.toNat t6)]?) fun x8 =>
  if x3 > x8 then
  some (.inr (2, 0, true))
  else
  if 0 ≤ t6 then
  Option.bind (l8[(Int.toNat t6)]?) fun x11 =>
  if 0 ≤ t6 then
  Option.bind (l9[(Int.toNat t6)]?) fun x13 =>
  if 0 ≤ t6 then
  Option.bind (l8[(Int.toNat t6)]?) fun x15 =>
  some (.inl (.h3 vfrom0 vto1 l2 t3 t4 t5 (IntKind.wrap .i64 (t6 + 1)) b7 (List.set l8 (Int.toNat t6) (IntKind.wrap .i64 (x11 + x13))) l9))
  else none
  else none
  else none
  else none
  else none
  else
  some (.inl (.h1 vfrom0 vto1 l2 t3 (IntKind.wrap .i64 (t4 + 1)) b7 l8))
noncomputable def Di_CheckConvoys (a0 : Gi_Lanes) (a1 : Int) (a2 : Int) (a3 : Int) (a4 : (List Gi_Convoy)) : Option (Int × Int × Bool) :=
  Option.bind (Di_isTransport a0 a1 a2 a3) fun r1 =>
  if r1 = true then
  if ((a4.length : Nat) : Int) > 100 then
  some (0, 0, false)
  else
  Option.bind (Di_goodConvoys a0 a3 a4) fun r4 =>
  if r4 = true then
  if 0 ≤ a0.Depots then
  if Int.toNat a0.Depots * 8 ≤ 140737488355328 then
  loop Bi_CheckConvoys (.h1 a1 a2 a4 a3 0 a0 (List.replicate (Int.toNat a0.Depots) (0 : Int)))
  else none
  else none
  else
  some (1, 0, true)
  else
  some (0, 0, false)
inductive Si_DeliveryCut where
 | h1 (t0 : Int) (t1 : Int) (l2 : (List Int)) (l3 : (List Gi_visit))
noncomputable def Bi_DeliveryCut : Si_DeliveryCut → Option (Si_DeliveryCut ⊕ ((List Int) × Bool))
 | .h1 t0 t1 l2 l3 =>
  if t1 < t0 then
  if 0 ≤ t1 then
  Option.bind (l3[(Int.toNat t1)]?) fun x3 =>
  if x3.seen = true then
  if (l2 ++ [t1]).length * 8 ≤ 70368744177664 then
  some (.inl (.h1 t0 (IntKind.wrap .i64 (t1 + 1)) (l2 ++ [t1]) l3))
  else none
  else
  some (.inl (.h1 t0 (IntKind.wrap .i64 (t1 + 1)) l2 l3))
  else none
  else
  some (.inr (l2, true))
noncomputable def Di_DeliveryCut (a0 : Gi_Lanes) (a1 : Int) (a2 : Int) (a3 : Int) : Option ((List Int) × Bool) :=
  Option.bind (Di_isTransport a0 a1 a2 a3) fun r1 =>
  if r1 = true then
  Option.bind (Di_delivered a0 a1 a2 a3) fun r3 =>
  Option.bind (Di_network_search r3.1 a1) fun r4 =>
  loop Bi_DeliveryCut (.h1 ((r4.length : Nat) : Int) 0 ([] : List Int) r4)
  else
  some ([], false)
inductive Ss_DeliveryCut where
 | h1 (t0 : Int) (t1 : Int) (l2 : (List Int)) (l3 : (List Int))
noncomputable def Bs_DeliveryCut : Ss_DeliveryCut → Option (Ss_DeliveryCut ⊕ ((List Int) × Bool))
 | .h1 t0 t1 l2 l3 =>
  if t1 < t0 then
  if 0 ≤ t1 then
  Option.bind (l3[(Int.toNat t1)]?) fun x3 =>
  if (x3 : Int) = (-1) then
  some (.inl (.h1 t0 (IntKind.wrap .i64 (t1 + 1)) l2 l3))
  else
  if (l2 ++ [t1]).length * 8 ≤ 70368744177664 then
  some (.inl (.h1 t0 (IntKind.wrap .i64 (t1 + 1)) (l2 ++ [t1]) l3))
  else none
  else none
  else
  some (.inr (l2, true))
noncomputable def Ds_DeliveryCut (a0 : Gi_Lanes) (a1 : Int) (a2 : Int) (a3 : Int) : Option ((List Int) × Bool) :=
  Option.bind (Ds_qAsked a0 a1 a2 a3) fun r1 =>
  if r1 = true then
  Option.bind (Ds_qNetOf a0 a1 a2 a3) fun r3 =>
  Option.bind (Ds_qNet_fill r3 a1 (IntKind.wrap .i64 ((IntKind.wrap .i64 (a3 * a0.Depots)) + a2)) 10000000) fun r4 =>
  if r4.2.arcs.length = r3.arcs.length then
  Option.bind (Ds_qNet_reach r4.2 a1) fun r6 =>
  loop Bs_DeliveryCut (.h1 ((r6.length : Nat) : Int) 0 ([] : List Int) r6)
  else none
  else
  some ([], false)
inductive Si_increasing where
 | h1 (list0 : (List Int)) (i1 : Int)
noncomputable def Bi_increasing : Si_increasing → Option (Si_increasing ⊕ (Bool))
 | .h1 list0 i1 =>
  if i1 < ((list0.length : Nat) : Int) then
  if 0 ≤ (IntKind.wrap .i64 (i1 - 1)) then
  Option.bind (list0[(Int.toNat (IntKind.wrap .i64 (i1 - 1)))]?) fun x3 =>
  if 0 ≤ i1 then
  Option.bind (list0[(Int.toNat i1)]?) fun x5 =>
  if x3 ≥ x5 then
  some (.inr false)
  else
  some (.inl (.h1 list0 (IntKind.wrap .i64 (i1 + 1))))
  else none
  else none
  else
  some (.inr true)
noncomputable def Di_increasing (a0 : (List Int)) : Option (Bool) :=
  loop Bi_increasing (.h1 a0 1)
noncomputable def Di_CutLoad_1 (a0 : Int) (a1 : Int) (a2 : Gi_Lanes) : Option (Bool) :=
  Option.bind (Di_isIndex a0 (IntKind.wrap .i64 ((IntKind.wrap .i64 (a1 + 1)) * a2.Depots))) fun r1 =>
  some (!r1)
inductive Sslices_IndexFunc_int_i_CutLoad_1 where
 | h1 (s0 : (List Int)) (f1 : Int) (f2 : Gi_Lanes) (t3 : Int) (t4 : Int)
noncomputable def Bslices_IndexFunc_int_i_CutLoad_1 : Sslices_IndexFunc_int_i_CutLoad_1 → Option (Sslices_IndexFunc_int_i_CutLoad_1 ⊕ (Int))
 | .h1 s0 f1 f2 t3 t4 =>
  if t4 < t3 then
  if 0 ≤ t4 then
  Option.bind (s0[(Int.toNat t4)]?) fun x3 =>
  Option.bind (Di_CutLoad_1 x3 f1 f2) fun r4 =>
  if r4 = true then
  some (.inr t4)
  else
  some (.inl (.h1 s0 f1 f2 t3 (IntKind.wrap .i64 (t4 + 1))))
  else none
  else
  some (.inr (-1))
noncomputable def Dslices_IndexFunc_int_i_CutLoad_1 (a0 : (List Int)) (a100 : Int) (a101 : Gi_Lanes) : Option (Int) :=
  loop Bslices_IndexFunc_int_i_CutLoad_1 (.h1 a0 a100 a101 ((a0.length : Nat) : Int) 0)
noncomputable def Dslices_ContainsFunc_int_i_CutLoad_1 (a0 : (List Int)) (a100 : Int) (a101 : Gi_Lanes) : Option (Bool) :=
  Option.bind (Dslices_IndexFunc_int_i_CutLoad_1 a0 a100 a101) fun r1 =>
  some (decide (r1 ≥ 0))
inductive Sslices_Index_int where
 | h1 (s0 : (List Int)) (v1 : Int) (t2 : Int) (t3 : Int)
noncomputable def Bslices_Index_int : Sslices_Index_int → Option (Sslices_Index_int ⊕ (Int))
 | .h1 s0 v1 t2 t3 =>
  if t3 < t2 then
  if 0 ≤ t3 then
  Option.bind (s0[(Int.toNat t3)]?) fun x3 =>
  if (v1 : Int) = x3 then
  some (.inr t3)
  else
  some (.inl (.h1 s0 v1 t2 (IntKind.wrap .i64 (t3 + 1))))
  else none
  else
  some (.inr (-1))
noncomputable def Dslices_Index_int (a0 : (List Int)) (a1 : Int) : Option (Int) :=
  loop Bslices_Index_int (.h1 a0 a1 ((a0.length : Nat) : Int) 0)
noncomputable def Dslices_Contains_int (a0 : (List Int)) (a1 : Int) : Option (Bool) :=
  Option.bind (Dslices_Index_int a0 a1) fun r1 =>
  some (decide (r1 ≥ 0))
inductive Si_CutLoad where
 | h1 (cut0 : (List Int)) (sum1 : Int) (t2 : Int) (t3 : Int) (l4 : (List Gi_arc))
noncomputable def Bi_CutLoad : Si_CutLoad → Option (Si_CutLoad ⊕ (Int × Bool))
 | .h1 cut0 sum1 t2 t3 l4 =>
  if t3 < t2 then
  if 0 ≤ t3 then
  Option.bind (l4[(Int.toNat t3)]?) fun x3 =>
  Option.bind (Dslices_Contains_int cut0 x3.from_) fun r4 =>
  if r4 = true then
  Option.bind (Dslices_Contains_int cut0 x3.to_) fun r6 =>
  if r6 = true then
  some (.inl (.h1 cut0 sum1 t2 (IntKind.wrap .i64 (t3 + 1)) l4))
  else
  some (.inl (.h1 cut0 (IntKind.wrap .i64 (sum1 + x3.most)) t2 (IntKind.wrap .i64 (t3 + 1)) l4))
  else
  some (.inl (.h1 cut0 sum1 t2 (IntKind.wrap .i64 (t3 + 1)) l4))
  else none
  else
  some (.inr (sum1, true))
noncomputable def Di_CutLoad (a0 : Gi_Lanes) (a1 : Int) (a2 : (List Int)) : Option (Int × Bool) :=
  Option.bind (Di_IsLanes a0) fun r1 =>
  if r1 = true then
  Option.bind (Di_inRange a1 0 6) fun r3 =>
  if r3 = true then
  Option.bind (Di_increasing a2) fun r5 =>
  if r5 = true then
  Option.bind (Dslices_ContainsFunc_int_i_CutLoad_1 a2 a1 a0) fun r7 =>
  if r7 = true then
  some (0, false)
  else
  Option.bind (Di_networkOf a0 (-1) (-1) a1) fun r9 =>
  loop Bi_CutLoad (.h1 a2 0 ((r9.arcs.length : Nat) : Int) 0 r9.arcs)
  else
  some (0, false)
  else
  some (0, false)
  else
  some (0, false)
inductive Sw_sameInts where
 | h1 (va0 : (List Int)) (b1 : (List Int)) (t2 : Int) (t3 : Int)
noncomputable def Bw_sameInts : Sw_sameInts → Option (Sw_sameInts ⊕ (Bool))
 | .h1 va0 b1 t2 t3 =>
  if t3 < t2 then
  if 0 ≤ t3 then
  Option.bind (va0[(Int.toNat t3)]?) fun x3 =>
  if 0 ≤ t3 then
  Option.bind (b1[(Int.toNat t3)]?) fun x5 =>
  if (x3 : Int) = x5 then
  some (.inl (.h1 va0 b1 t2 (IntKind.wrap .i64 (t3 + 1))))
  else
  some (.inr false)
  else none
  else none
  else
  some (.inr true)
noncomputable def Dw_sameInts (a0 : (List Int)) (a1 : (List Int)) : Option (Bool) :=
  if (((a0.length : Nat) : Int) : Int) = ((a1.length : Nat) : Int) then
  loop Bw_sameInts (.h1 a0 a1 ((a0.length : Nat) : Int) 0)
  else
  some false
noncomputable def Ds_DrawFewestDays (a0 : (List Int)) : Option (Gi_Lanes × Int × Int × Int) :=
  Option.bind (Ds_l1Cur_trip (Gs_l1Cur.mk a0 0 0)) fun r1 =>
  Option.bind (Ds_l1Cur_among r1.2.2.2.2 [0, 1, 5, 12, 30, 100, 100000, 100001, (-1)]) fun r2 =>
  some (r1.1, r1.2.1, r1.2.2.1, r2.1)
inductive Si_FewestDays where
 | h1 (vfrom0 : Int) (vto1 : Int) (vamount2 : Int) (days3 : Int) (b4 : Gi_Lanes)
noncomputable def Bi_FewestDays : Si_FewestDays → Option (Si_FewestDays ⊕ (Int × Bool))
 | .h1 vfrom0 vto1 vamount2 days3 b4 =>
  if days3 ≤ 6 then
  Option.bind (Di_delivered b4 vfrom0 vto1 days3) fun r2 =>
  if r2.2 ≥ vamount2 then
  some (.inr (days3, true))
  else
  some (.inl (.h1 vfrom0 vto1 vamount2 (IntKind.wrap .i64 (days3 + 1)) b4))
  else
  some (.inr (0, false))
noncomputable def Di_FewestDays (a0 : Gi_Lanes) (a1 : Int) (a2 : Int) (a3 : Int) : Option (Int × Bool) :=
  Option.bind (Di_isTransport a0 a1 a2 0) fun r1 =>
  if r1 = true then
  Option.bind (Di_inRange a3 0 100000) fun r3 =>
  if r3 = true then
  loop Bi_FewestDays (.h1 a1 a2 a3 0 a0)
  else
  some (0, false)
  else
  some (0, false)
inductive Ss_FewestDays where
 | h1 (vfrom0 : Int) (vto1 : Int) (vamount2 : Int) (days3 : Int) (b4 : Gi_Lanes)
noncomputable def Bs_FewestDays : Ss_FewestDays → Option (Ss_FewestDays ⊕ (Int × Bool))
 | .h1 vfrom0 vto1 vamount2 days3 b4 =>
  if days3 ≤ 6 then
  Option.bind (Ds_qGreatest b4 vfrom0 vto1 days3) fun r2 =>
  if r2 ≥ vamount2 then
  some (.inr (days3, true))
  else
  some (.inl (.h1 vfrom0 vto1 vamount2 (IntKind.wrap .i64 (days3 + 1)) b4))
  else
  some (.inr (0, false))
noncomputable def Ds_FewestDays (a0 : Gi_Lanes) (a1 : Int) (a2 : Int) (a3 : Int) : Option (Int × Bool) :=
  Option.bind (Ds_qAsked a0 a1 a2 0) fun r1 =>
  if r1 = true then
  Option.bind (Ds_l1In a3 0 100000) fun r3 =>
  if r3 = true then
  loop Bs_FewestDays (.h1 a1 a2 a3 0 a0)
  else
  some (0, false)
  else
  some (0, false)
inductive Sw_FnDeliveries where
 | h1 (more0 : (List Int))
noncomputable def Bw_FnDeliveries : Sw_FnDeliveries → Option (Sw_FnDeliveries ⊕ (Bool))
 | .h1 more0 =>
  Option.bind (Ds_DrawFewestDays more0) fun r1 =>
  Option.bind (Di_FewestDays r1.1 r1.2.1 r1.2.2.1 r1.2.2.2) fun r2 =>
  if r2.2 = true then
  Option.bind (Ds_FewestDays r1.1 r1.2.1 r1.2.2.1 r1.2.2.2) fun r4 =>
  if (!(true == r4.2)) = true then
  some (.inr false)
  else
  if (r2.1 : Int) = r4.1 then
  if r4.1 > 0 then
  Option.bind (Di_GreatestDelivery r1.1 r1.2.1 r1.2.2.1 (IntKind.wrap .i64 (r4.1 - 1))) fun r8 =>
  if r8.2 = true then
  some (.inr (decide (r8.1 < r1.2.2.2)))
  else
  some (.inr false)
  else
  some (.inr true)
  else
  some (.inr false)
  else
  Option.bind (Ds_FewestDays r1.1 r1.2.1 r1.2.2.1 r1.2.2.2) fun r4 =>
  if (!(false == r4.2)) = true then
  some (.inr false)
  else
  if (r2.1 : Int) = r4.1 then
  some (.inr true)
  else
  some (.inr false)
noncomputable def Dw_FnDeliveries (a0 : (List Int)) (a1 : (List Int)) : Option (Bool) :=
  Option.bind (Dw_big a0 a1) fun r1 =>
  if r1 = true then
  some true
  else
  Option.bind (Ds_DrawDeliveryPlan a0) fun r3 =>
  Option.bind (Di_DeliveryPlan r3.1 r3.2.1 r3.2.2.1 r3.2.2.2) fun r4 =>
  if r4.2 = true then
  Option.bind (Ds_DeliveryPlan r3.1 r3.2.1 r3.2.2.1 r3.2.2.2) fun r6 =>
  Option.bind (Di_GreatestDelivery r3.1 r3.2.1 r3.2.2.1 r3.2.2.2) fun r7 =>
  Option.bind (Ds_GreatestDelivery r3.1 r3.2.1 r3.2.2.1 r3.2.2.2) fun r8 =>
  if (!(true == r6.2)) = true then
  some false
  else
  Option.bind (Dw_pSameConvoys r4.1 r6.1) fun r10 =>
  if r10 = true then
  if (!(r7.2 == r8.2)) = true then
  some false
  else
  if (r7.1 : Int) = r8.1 then
  Option.bind (Di_CheckConvoys r3.1 r3.2.1 r3.2.2.1 r3.2.2.2 r4.1) fun r14 =>
  if r14.2.2 = true then
  Option.bind (Di_DeliveryCut r3.1 r3.2.1 r3.2.2.1 r3.2.2.2) fun r16 =>
  if r16.2 = true then
  Option.bind (Ds_DeliveryCut r3.1 r3.2.1 r3.2.2.1 r3.2.2.2) fun r18 =>
  Option.bind (Di_CutLoad r3.1 r3.2.2.2 r16.1) fun r19 =>
  if r19.2 = true then
  if (r14.1 : Int) = 0 then
  if (r14.2.1 : Int) = r8.1 then
  Option.bind (Dw_sameInts r16.1 r18.1) fun r23 =>
  if r23 = true then
  if (r19.1 : Int) = r8.1 then
  loop Bw_FnDeliveries (.h1 a1)
  else
  some false
  else
  some false
  else
  some false
  else
  some false
  else
  if (r14.1 : Int) = 0 then
  if (r14.2.1 : Int) = r8.1 then
  Option.bind (Dw_sameInts r16.1 r18.1) fun r23 =>
  if r23 = true then
  some false
  else
  some false
  else
  some false
  else
  some false
  else
  Option.bind (Ds_DeliveryCut r3.1 r3.2.1 r3.2.2.1 r3.2.2.2) fun r18 =>
  Option.bind (Di_CutLoad r3.1 r3.2.2.2 r16.1) fun r19 =>
  if r19.2 = true then
  if (r14.1 : Int) = 0 then
  if (r14.2.1 : Int) = r8.1 then
  some false
  else
  some false
  else
  some false
  else
  if (r14.1 : Int) = 0 then
  if (r14.2.1 : Int) = r8.1 then
  some false
  else
  some false
  else
  some false
  else
  Option.bind (Di_DeliveryCut r3.1 r3.2.1 r3.2.2.1 r3.2.2.2) fun r16 =>
  if r16.2 = true then
  Option.bind (Ds_DeliveryCut r3.1 r3.2.1 r3.2.2.1 r3.2.2.2) fun r18 =>
  Option.bind (Di_CutLoad r3.1 r3.2.2.2 r16.1) fun r19 =>
  if r19.2 = true then
  some false
  else
  some false
  else
  Option.bind (Ds_DeliveryCut r3.1 r3.2.1 r3.2.2.1 r3.2.2.2) fun r18 =>
  Option.bind (Di_CutLoad r3.1 r3.2.2.2 r16.1) fun r19 =>
  if r19.2 = true then
  some false
  else
  some false
  else
  some false
  else
  some false
  else
  Option.bind (Ds_DeliveryPlan r3.1 r3.2.1 r3.2.2.1 r3.2.2.2) fun r6 =>
  Option.bind (Di_GreatestDelivery r3.1 r3.2.1 r3.2.2.1 r3.2.2.2) fun r7 =>
  Option.bind (Ds_GreatestDelivery r3.1 r3.2.1 r3.2.2.1 r3.2.2.2) fun r8 =>
  if (!(false == r6.2)) = true then
  some false
  else
  Option.bind (Dw_pSameConvoys r4.1 r6.1) fun r10 =>
  if r10 = true then
  if (!(r7.2 == r8.2)) = true then
  some false
  else
  if (r7.1 : Int) = r8.1 then
  loop Bw_FnDeliveries (.h1 a1)
  else
  some false
  else
  some false
noncomputable def Ds_DrawCheckConvoys (a0 : (List Int)) : Option (Gi_Lanes × Int × Int × Int × (List Gi_Convoy)) :=
  Option.bind (Ds_l1Cur_trip (Gs_l1Cur.mk a0 0 0)) fun r1 =>
  Option.bind (Ds_DeliveryPlan r1.1 r1.2.1 r1.2.2.1 r1.2.2.2.1) fun r2 =>
  if r2.2 = true then
  Option.bind (Ds_l1Cur_pick r1.2.2.2.2 6) fun r4 =>
  if (r4.1 : Int) = 0 then
  if ((r2.1.length : Nat) : Int) > 0 then
  Option.bind (Ds_l1Cur_pick r4.2 ((r2.1.length : Nat) : Int)) fun r7 =>
  if 0 ≤ r7.1 then
  Option.bind (r2.1[(Int.toNat r7.1)]?) fun x9 =>
  if 0 ≤ r7.1 then
  Option.bind (r2.1[(Int.toNat r7.1)]?) fun x11 =>
  some (r1.1, r1.2.1, r1.2.2.1, r1.2.2.2.1, (List.set r2.1 (Int.toNat r7.1) (Gi_Convoy.mk x11.Day x11.Lane (IntKind.wrap .i64 (x9.Load + 1)))))
  else none
  else none
  else
  some (r1.1, r1.2.1, r1.2.2.1, r1.2.2.2.1, r2.1)
  else
  if (r4.1 : Int) = 1 then
  if ((r2.1.length : Nat) : Int) > 0 then
  if (1 : Int) ≤ ((r2.1.length : Nat) : Int) then
  some (r1.1, r1.2.1, r1.2.2.1, r1.2.2.2.1, (List.take (r2.1.length - (Int.toNat 1)) (List.drop (Int.toNat 1) r2.1)))
  else none
  else
  some (r1.1, r1.2.1, r1.2.2.1, r1.2.2.2.1, r2.1)
  else
  if (r4.1 : Int) = 2 then
  Option.bind (Ds_l1Cur_pick r4.2 5) fun r8 =>
  Option.bind (Ds_l1Cur_pick r8.2 5) fun r9 =>
  if (r2.1 ++ [(Gi_Convoy.mk r8.1 r9.1 1)]).length * 24 ≤ 70368744177664 then
  some (r1.1, r1.2.1, r1.2.2.1, r1.2.2.2.1, (r2.1 ++ [(Gi_Convoy.mk r8.1 r9.1 1)]))
  else none
  else
  some (r1.1, r1.2.1, r1.2.2.1, r1.2.2.2.1, r2.1)
  else
  some (r1.1, r1.2.1, r1.2.2.1, r1.2.2.2.1, r2.1)
inductive Ss_qForm where
 | h1 (days0 : Int) (l1 : (List Gi_Convoy)) (t2 : (List Gi_Convoy)) (t3 : Int) (t4 : Int) (b5 : Gi_Lanes)
noncomputable def Bs_qForm : Ss_qForm → Option (Ss_qForm ⊕ (Bool))
 | .h1 days0 l1 t2 t3 t4 b5 =>
  if t4 < t3 then
  if 0 ≤ t4 then
  Option.bind (t2[(Int.toNat t4)]?) fun x3 =>
  Option.bind (Ds_l1In x3.Day 0 (IntKind.wrap .i64 (days0 - 1))) fun r4 =>
  if r4 = true then
  Option.bind (Ds_l1In x3.Lane 0 (IntKind.wrap .i64 (((b5.Lanes.length : Nat) : Int) - 1))) fun r6 =>
  if r6 = true then
  if 0 ≤ x3.Lane then
  Option.bind (b5.Lanes[(Int.toNat x3.Lane)]?) fun x9 =>
  Option.bind (Ds_l1In x3.Load 1 x9.Load) fun r10 =>
  if r10 = true then
  if t4 > 0 then
  if 0 ≤ (IntKind.wrap .i64 (t4 - 1)) then
  Option.bind (l1[(Int.toNat (IntKind.wrap .i64 (t4 - 1)))]?) fun x14 =>
  if 0 ≤ (IntKind.wrap .i64 (t4 - 1)) then
  Option.bind (l1[(Int.toNat (IntKind.wrap .i64 (t4 - 1)))]?) fun x16 =>
  if (IntKind.wrap .i64 ((IntKind.wrap .i64 (x14.Day * 15)) + x16.Lane)) ≥ (IntKind.wrap .i64 ((IntKind.wrap .i64 (x3.Day * 15)) + x3.Lane)) then
  some (.inr false)
  else
  some (.inl (.h1 days0 l1 t2 t3 (IntKind.wrap .i64 (t4 + 1)) b5))
  else none
  else none
  else
  some (.inl (.h1 days0 l1 t2 t3 (IntKind.wrap .i64 (t4 + 1)) b5))
  else
  some (.inr false)
  else none
  else
  some (.inr false)
  else
  some (.inr false)
  else none
  else
  some (.inr (decide (((l1.length : Nat) : Int) ≤ 100)))
noncomputable def Ds_qForm (a0 : Gi_Lanes) (a1 : Int) (a2 : (List Gi_Convoy)) : Option (Bool) :=
  loop Bs_qForm (.h1 a1 a2 a2 ((a2.length : Nat) : Int) 0 a0)
noncomputable def Ds_l1Own (a0 : (List Int)) : Option ((List Int)) :=
  if a0.length * 8 ≤ 70368744177664 then
  some a0
  else none
inductive Ss_qRun where
 | h1 (vfrom0 : Int) (vto1 : Int) (days2 : Int) (l3 : (List Gi_Convoy)) (d4 : Int) (b5 : Gi_Lanes) (l6 : (List Int))
 | h2 (vfrom0 : Int) (vto1 : Int) (days2 : Int) (l3 : (List Gi_Convoy)) (d4 : Int) (t5 : (List Gi_Convoy)) (t6 : Int) (t7 : Int) (b8 : Gi_Lanes) (l9 : (List Int)) (l10 : (List Int))
 | h3 (vfrom0 : Int) (vto1 : Int) (days2 : Int) (l3 : (List Gi_Convoy)) (d4 : Int) (t5 : Int) (t6 : Int) (b7 : Gi_Lanes) (l8 : (List Int)) (l9 : (List Int))
noncomputable def Bs_qRun : Ss_qRun → Option (Ss_qRun ⊕ ((List Int) × Bool))
 | .h1 vfrom0 vto1 days2 l3 d4 b5 l6 =>
  if d4 < days2 then
  if 0 ≤ b5.Depots then
  if Int.toNat b5.Depots * 8 ≤ 140737488355328 then
  Option.bind (Ds_l1Own l6) fun r4 =>
  some (.inl (.h2 vfrom0 vto1 days2 l3 d4 l3 ((l3.length : Nat) : Int) 0 b5 (List.replicate (Int.toNat b5.Depots) (0 : Int)) r4))
  else none
  else none
  else
  some (.inr (l6, true))
 | .h2 vfrom0 vto1 days2 l3 d4 t5 t6 t7 b8 l9 l10 =>
  if t7 < t6 then
  if 0 ≤ t7 then
  Option.bind (t5[(Int.toNat t7)]?) fun x3 =>
  if (x3.Day : Int) = d4 then
  if 0 ≤ x3.Lane then
  Option.bind (b8.Lanes[(Int.toNat x3.Lane)]?) fun x6 =>
  if 0 ≤ x6.From then
  Option.bind (l10[(Int.toNat x6.From)]?) fun x8 =>
  if 0 ≤ x6.From then
  Option.bind (l10[(Int.toNat x6.From)]?) fun x10 =>
  if 0 ≤ x3.Lane then
  Option.bind (b8.Lanes[(Int.toNat x3.Lane)]?) fun x12 =>
  if 0 ≤ x12.To then
  Option.bind (l9[(Int.toNat x12.To)]?) fun x14 =>
  if 0 ≤ x12.To then
  Option.bind (l9[(Int.toNat x12.To)]?) fun x16 =>
  some (.inl (.h2 vfrom0 vto1 days2 l3 d4 t5 t6 (IntKind.wrap .i64 (t7 + 1)) b8 (List.set l9 (Int.toNat x12.To) (IntKind.wrap .i64 (x14 + x3.Load))) (List.set l10 (Int.toNat x6.From) (IntKind.wrap .i64 (x8 - x3.Load)))))
  else none
  else none
  else none
  else none
  else none
  else none
  else
  some (.inl (.h2 vfrom0 vto1 days2 l3 d4 t5 t6 (IntKind.wrap .i64 (t7 + 1)) b8 l9 l10))
  else none
  else
  some (.inl (.h3 vfrom0 vto1 days2 l3 d4 ((l10.length : Nat) : Int) 0 b8 l9 l10))
 | .h3 vfrom0 vto1 days2 l3 d4 t5 t6 b7 l8 l9 =>
  if t6 < t5 then
  if 0 ≤ t6 then
  Option.bind (l9[(Int.toNat t6)]?) fun x3 =>
  if (t6 : Int) = vfrom0 then
  some (.inl (.h3 vfrom0 vto1 days2 l3 d4 t5 (IntKind.wrap .i64 (t6 + 1)) b7 l8 l9))
  else
  if x3 < 0 then
  some (.inr ([], false))
  else
  if (t6 : Int) = vto1 then
  if 0 ≤ t6 then
  Option.bind (l8[(Int.toNat t6)]?) fun x8 =>
  if 0 ≤ t6 then
  Option.bind (l8[(Int.toNat t6)]?) fun x10 =>
  some (.inl (.h3 vfrom0 vto1 days2 l3 d4 t5 (IntKind.wrap .i64 (t6 + 1)) b7 (List.set l8 (Int.toNat t6) (IntKind.wrap .i64 (x8 + x3))) l9))
  else none
  else none
  else
  if 0 ≤ t6 then
  Option.bind (b7.Stores[(Int.toNat t6)]?) fun x8 =>
  if x3 > x8 then
  some (.inr ([], false))
  else
  if 0 ≤ t6 then
  Option.bind (l8[(Int.toNat t6)]?) fun x11 =>
  if 0 ≤ t6 then
  Option.bind (l8[(Int.toNat t6)]?) fun x13 =>
  some (.inl (.h3 vfrom0 vto1 days2 l3 d4 t5 (IntKind.wrap .i64 (t6 + 1)) b7 (List.set l8 (Int.toNat t6) (IntKind.wrap .i64 (x11 + x3))) l9))
  else none
  else none
  else none
  else none
  else
  if 0 ≤ vfrom0 then
  Option.bind (l8[(Int.toNat vfrom0)]?) fun x3 =>
  some (.inl (.h1 vfrom0 vto1 days2 l3 (IntKind.wrap .i64 (d4 + 1)) b7 (List.set l8 (Int.toNat vfrom0) 0)))
  else none
noncomputable def Ds_qRun (a0 : Gi_Lanes) (a1 : Int) (a2 : Int) (a3 : Int) (a4 : (List Gi_Convoy)) : Option ((List Int) × Bool) :=
  if 0 ≤ a0.Depots then
  if Int.toNat a0.Depots * 8 ≤ 140737488355328 then
  loop Bs_qRun (.h1 a1 a2 a3 a4 0 a0 (List.replicate (Int.toNat a0.Depots) (0 : Int)))
  else none
  else none
noncomputable def Ds_CheckConvoys (a0 : Gi_Lanes) (a1 : Int) (a2 : Int) (a3 : Int) (a4 : (List Gi_Convoy)) : Option (Int × Int × Bool) :=
  Option.bind (Ds_qAsked a0 a1 a2 a3) fun r1 =>
  if r1 = true then
  Option.bind (Ds_qForm a0 a3 a4) fun r3 =>
  if r3 = true then
  Option.bind (Ds_qRun a0 a1 a2 a3 a4) fun r5 =>
  if r5.2 = true then
  if 0 ≤ a2 then
  Option.bind (r5.1[(Int.toNat a2)]?) fun x8 =>
  some (0, x8, true)
  else none
  else
  some (2, 0, true)
  else
  some (1, 0, true)
  else
  some (0, 0, false)
noncomputable def Dslices_Clone_i_Lane (a0 : (List Gi_Lane)) : Option (List Gi_Lane) := if List.length a0 * 24 ≤ 70368744177664 then some a0 else none
noncomputable def Dslices_Delete_i_Lane (a0 : (List Gi_Lane)) (a1 : Int) (a2 : Int) : Option (List Gi_Lane) := if (0 : Int) ≤ a1 ∧ a1 < a2 ∧ a2 ≤ (List.length a0 : Int) ∧ (List.length a0 : Int) ≤ 1000000000000 then some (List.take (Int.toNat a1) a0 ++ List.drop (Int.toNat a2) a0) else none
noncomputable def Dslices_Clone_int (a0 : (List Int)) : Option (List Int) := if List.length a0 * 8 ≤ 70368744177664 then some a0 else none
noncomputable def Di_withoutLane (a0 : Gi_Lanes) (a1 : Int) : Option (Gi_Lanes) :=
  Option.bind (Dslices_Clone_i_Lane a0.Lanes) fun r1 =>
  Option.bind (Dslices_Delete_i_Lane r1 a1 (IntKind.wrap .i64 (a1 + 1))) fun r2 =>
  Option.bind (Dslices_Clone_int a0.Stores) fun r3 =>
  some (Gi_Lanes.mk a0.Depots r2 r3)
inductive Si_CriticalLanes where
 | h1 (vfrom0 : Int) (vto1 : Int) (days2 : Int) (most3 : Int) (t4 : Int) (t5 : Int) (b6 : Gi_Lanes) (l7 : (List Int))
noncomputable def Bi_CriticalLanes : Si_CriticalLanes → Option (Si_CriticalLanes ⊕ ((List Int) × Bool))
 | .h1 vfrom0 vto1 days2 most3 t4 t5 b6 l7 =>
  if t5 < t4 then
  Option.bind (Di_withoutLane b6 t5) fun r2 =>
  Option.bind (Di_delivered r2 vfrom0 vto1 days2) fun r3 =>
  if r3.2 < most3 then
  if (l7 ++ [t5]).length * 8 ≤ 70368744177664 then
  some (.inl (.h1 vfrom0 vto1 days2 most3 t4 (IntKind.wrap .i64 (t5 + 1)) b6 (l7 ++ [t5])))
  else none
  else
  some (.inl (.h1 vfrom0 vto1 days2 most3 t4 (IntKind.wrap .i64 (t5 + 1)) b6 l7))
  else
  some (.inr (l7, true))
noncomputable def Di_CriticalLanes (a0 : Gi_Lanes) (a1 : Int) (a2 : Int) (a3 : Int) : Option ((List Int) × Bool) :=
  Option.bind (Di_GreatestDelivery a0 a1 a2 a3) fun r1 =>
  if r1.2 = true then
  loop Bi_CriticalLanes (.h1 a1 a2 a3 r1.1 ((a0.Lanes.length : Nat) : Int) 0 a0 ([] : List Int))
  else
  some ([], false)
inductive Ss_qWithout where
 | h1 (i0 : Int) (t1 : (List Gi_Lane)) (t2 : Int) (t3 : Int) (b4 : Int) (b5 : Int) (l6 : (List Int))
 | h2 (i0 : Int) (t1 : (List Gi_Lane)) (t2 : Int) (t3 : Int) (b4 : Int) (b5 : Int) (l6 : (List Gi_Lane)) (l7 : (List Int))
noncomputable def Bs_qWithout : Ss_qWithout → Option (Ss_qWithout ⊕ (Gi_Lanes))
 | .h1 i0 t1 t2 t3 b4 b5 l6 =>
  if t3 < t2 then
  if 0 ≤ t3 then
  Option.bind (t1[(Int.toNat t3)]?) fun x3 =>
  if (t3 : Int) = i0 then
  some (.inl (.h1 i0 t1 t2 (IntKind.wrap .i64 (t3 + 1)) b4 b5 l6))
  else
  if [x3].length * 24 ≤ 70368744177664 then
  some (.inl (.h2 i0 t1 t2 (IntKind.wrap .i64 (t3 + 1)) b4 b5 [x3] l6))
  else none
  else none
  else
  some (.inr (Gi_Lanes.mk b5 [] l6))
 | .h2 i0 t1 t2 t3 b4 b5 l6 l7 =>
  if t3 < t2 then
  if 0 ≤ t3 then
  Option.bind (t1[(Int.toNat t3)]?) fun x3 =>
  if (t3 : Int) = i0 then
  some (.inl (.h2 i0 t1 t2 (IntKind.wrap .i64 (t3 + 1)) b4 b5 l6 l7))
  else
  if (l6 ++ [x3]).length * 24 ≤ 70368744177664 then
  some (.inl (.h2 i0 t1 t2 (IntKind.wrap .i64 (t3 + 1)) b4 b5 (l6 ++ [x3]) l7))
  else none
  else none
  else
  some (.inr (Gi_Lanes.mk b5 l6 l7))
noncomputable def Ds_qWithout (a0 : Gi_Lanes) (a1 : Int) : Option (Gi_Lanes) :=
  Option.bind (Ds_l1Own a0.Stores) fun r1 =>
  loop Bs_qWithout (.h1 a1 a0.Lanes ((a0.Lanes.length : Nat) : Int) 0 0 a0.Depots r1)
inductive Ss_CriticalLanes where
 | h1 (vfrom0 : Int) (vto1 : Int) (days2 : Int) (want3 : Int) (t4 : Int) (t5 : Int) (b6 : Gi_Lanes) (l7 : (List Int))
noncomputable def Bs_CriticalLanes : Ss_CriticalLanes → Option (Ss_CriticalLanes ⊕ ((List Int) × Bool))
 | .h1 vfrom0 vto1 days2 want3 t4 t5 b6 l7 =>
  if t5 < t4 then
  Option.bind (Ds_qWithout b6 t5) fun r2 =>
  Option.bind (Ds_qGreatest r2 vfrom0 vto1 days2) fun r3 =>
  if r3 < want3 then
  if (l7 ++ [t5]).length * 8 ≤ 70368744177664 then
  some (.inl (.h1 vfrom0 vto1 days2 want3 t4 (IntKind.wrap .i64 (t5 + 1)) b6 (l7 ++ [t5])))
  else none
  else
  some (.inl (.h1 vfrom0 vto1 days2 want3 t4 (IntKind.wrap .i64 (t5 + 1)) b6 l7))
  else
  some (.inr (l7, true))
noncomputable def Ds_CriticalLanes (a0 : Gi_Lanes) (a1 : Int) (a2 : Int) (a3 : Int) : Option ((List Int) × Bool) :=
  Option.bind (Ds_qAsked a0 a1 a2 a3) fun r1 =>
  if r1 = true then
  Option.bind (Ds_qGreatest a0 a1 a2 a3) fun r3 =>
  loop Bs_CriticalLanes (.h1 a1 a2 a3 r3 ((a0.Lanes.length : Nat) : Int) 0 a0 ([] : List Int))
  else
  some ([], false)
noncomputable def Ds_DrawWithoutLane (a0 : (List Int)) : Option (Gi_Lanes × Int) :=
  Option.bind (Ds_l1Cur_anyLanes (Gs_l1Cur.mk a0 0 0)) fun r1 =>
  Option.bind (Ds_l1Cur_pick r1.2 (IntKind.wrap .i64 (((r1.1.Lanes.length : Nat) : Int) + 1))) fun r2 =>
  Option.bind (Ds_l1Cur_pick r2.2 20) fun r3 =>
  some (r1.1, (IntKind.wrap .i64 (r2.1 - (IntKind.wrap .i64 (Int.tdiv r3.1 19)))))
noncomputable def Di_WithoutLane (a0 : Gi_Lanes) (a1 : Int) : Option (Gi_Lanes × Bool) :=
  Option.bind (Di_IsLanes a0) fun r1 =>
  if r1 = true then
  Option.bind (Di_isIndex a1 ((a0.Lanes.length : Nat) : Int)) fun r3 =>
  if r3 = true then
  Option.bind (Di_withoutLane a0 a1) fun r5 =>
  some (r5, true)
  else
  some ((Gi_Lanes.mk 0 [] []), false)
  else
  some ((Gi_Lanes.mk 0 [] []), false)
noncomputable def Ds_WithoutLane (a0 : Gi_Lanes) (a1 : Int) : Option (Gi_Lanes × Bool) :=
  Option.bind (Ds_qGood a0) fun r1 =>
  if r1 = true then
  Option.bind (Ds_l1In a1 0 (IntKind.wrap .i64 (((a0.Lanes.length : Nat) : Int) - 1))) fun r3 =>
  if r3 = true then
  Option.bind (Ds_qWithout a0 a1) fun r5 =>
  some (r5, true)
  else
  some ((Gi_Lanes.mk 0 [] []), false)
  else
  some ((Gi_Lanes.mk 0 [] []), false)
inductive Ss_DrawCutLoad where
 | h1 (days0 : Int) (v1 : Int) (b2 : Int) (b3 : Gs_l1Cur) (b4 : Int) (l5 : (List Int)) (l6 : (List Gi_Lane)) (l7 : (List Int))
noncomputable def Bs_DrawCutLoad : Ss_DrawCutLoad → Option (Ss_DrawCutLoad ⊕ (Gi_Lanes × Int × (List Int)))
 | .h1 days0 v1 b2 b3 b4 l5 l6 l7 =>
  if v1 < 12 then
  Option.bind (Ds_l1Cur_one b3 2) fun r2 =>
  if r2.1 = true then
  if (l5 ++ [v1]).length * 8 ≤ 70368744177664 then
  some (.inl (.h1 days0 (IntKind.wrap .i64 (v1 + 1)) b2 r2.2 b4 (l5 ++ [v1]) l6 l7))
  else none
  else
  some (.inl (.h1 days0 (IntKind.wrap .i64 (v1 + 1)) b2 r2.2 b4 l5 l6 l7))
  else
  some (.inr ((Gi_Lanes.mk b4 l6 l7), days0, l5))
noncomputable def Ds_DrawCutLoad (a0 : (List Int)) : Option (Gi_Lanes × Int × (List Int)) :=
  Option.bind (Ds_l1Cur_trip (Gs_l1Cur.mk a0 0 0)) fun r1 =>
  Option.bind (Ds_DeliveryCut r1.1 r1.2.1 r1.2.2.1 r1.2.2.2.1) fun r2 =>
  if r2.2 = true then
  Option.bind (Ds_l1Cur_one r1.2.2.2.2 2) fun r4 =>
  if r4.1 = true then
  some (r1.1, r1.2.2.2.1, r2.1)
  else
  loop Bs_DrawCutLoad (.h1 r1.2.2.2.1 0 0 r4.2 r1.1.Depots ([] : List Int) r1.1.Lanes r1.1.Stores)
  else
  loop Bs_DrawCutLoad (.h1 r1.2.2.2.1 0 0 r1.2.2.2.2 r1.1.Depots ([] : List Int) r1.1.Lanes r1.1.Stores)
inductive Ss_l1Rising where
 | h1 (l0 : (List Int)) (lo1 : Int) (vhi2 : Int) (t3 : (List Int)) (t4 : Int) (t5 : Int)
noncomputable def Bs_l1Rising : Ss_l1Rising → Option (Ss_l1Rising ⊕ (Bool))
 | .h1 l0 lo1 vhi2 t3 t4 t5 =>
  if t5 < t4 then
  if 0 ≤ t5 then
  Option.bind (t3[(Int.toNat t5)]?) fun x3 =>
  Option.bind (Ds_l1In x3 lo1 vhi2) fun r4 =>
  if r4 = true then
  if t5 > 0 then
  if 0 ≤ (IntKind.wrap .i64 (t5 - 1)) then
  Option.bind (l0[(Int.toNat (IntKind.wrap .i64 (t5 - 1)))]?) fun x8 =>
  if x8 ≥ x3 then
  some (.inr false)
  else
  some (.inl (.h1 l0 lo1 vhi2 t3 t4 (IntKind.wrap .i64 (t5 + 1))))
  else none
  else
  some (.inl (.h1 l0 lo1 vhi2 t3 t4 (IntKind.wrap .i64 (t5 + 1))))
  else
  some (.inr false)
  else none
  else
  some (.inr true)
noncomputable def Ds_l1Rising (a0 : (List Int)) (a1 : Int) (a2 : Int) : Option (Bool) :=
  loop Bs_l1Rising (.h1 a0 a1 a2 a0 ((a0.length : Nat) : Int) 0)
inductive Ss_l1Has where
 | h1 (n0 : Int) (t1 : (List Int)) (t2 : Int) (t3 : Int)
noncomputable def Bs_l1Has : Ss_l1Has → Option (Ss_l1Has ⊕ (Bool))
 | .h1 n0 t1 t2 t3 =>
  if t3 < t2 then
  if 0 ≤ t3 then
  Option.bind (t1[(Int.toNat t3)]?) fun x3 =>
  if (x3 : Int) = n0 then
  some (.inr true)
  else
  some (.inl (.h1 n0 t1 t2 (IntKind.wrap .i64 (t3 + 1))))
  else none
  else
  some (.inr false)
noncomputable def Ds_l1Has (a0 : (List Int)) (a1 : Int) : Option (Bool) :=
  loop Bs_l1Has (.h1 a1 a0 ((a0.length : Nat) : Int) 0)
inductive Ss_CutLoad where
 | h1 (cut0 : (List Int)) (sum1 : Int) (t2 : Int) (t3 : Int) (l4 : (List Gs_qArc))
noncomputable def Bs_CutLoad : Ss_CutLoad → Option (Ss_CutLoad ⊕ (Int × Bool))
 | .h1 cut0 sum1 t2 t3 l4 =>
  if t3 < t2 then
  if 0 ≤ t3 then
  Option.bind (l4[(Int.toNat t3)]?) fun x3 =>
  Option.bind (Ds_l1Has cut0 x3.from_) fun r4 =>
  if r4 = true then
  Option.bind (Ds_l1Has cut0 x3.to_) fun r6 =>
  if r6 = true then
  some (.inl (.h1 cut0 sum1 t2 (IntKind.wrap .i64 (t3 + 1)) l4))
  else
  some (.inl (.h1 cut0 (IntKind.wrap .i64 (sum1 + x3.most)) t2 (IntKind.wrap .i64 (t3 + 1)) l4))
  else
  some (.inl (.h1 cut0 sum1 t2 (IntKind.wrap .i64 (t3 + 1)) l4))
  else none
  else
  some (.inr (sum1, true))
noncomputable def Ds_CutLoad (a0 : Gi_Lanes) (a1 : Int) (a2 : (List Int)) : Option (Int × Bool) :=
  Option.bind (Ds_qGood a0) fun r1 =>
  if r1 = true then
  Option.bind (Ds_l1In a1 0 6) fun r3 =>
  if r3 = true then
  Option.bind (Ds_l1Rising a2 0 (IntKind.wrap .i64 ((IntKind.wrap .i64 ((IntKind.wrap .i64 (a1 + 1)) * a0.Depots)) - 1))) fun r5 =>
  if r5 = true then
  Option.bind (Ds_qNetOf a0 (-1) (-1) a1) fun r7 =>
  loop Bs_CutLoad (.h1 a2 0 ((r7.arcs.length : Nat) : Int) 0 r7.arcs)
  else
  some (0, false)
  else
  some (0, false)
  else
  some (0, false)
inductive Sw_pSameLanes where
 | h1 (t0 : Int) (t1 : Int) (b2 : Gi_Lanes) (b3 : Gi_Lanes)
noncomputable def Bw_pSameLanes : Sw_pSameLanes → Option (Sw_pSameLanes ⊕ (Bool))
 | .h1 t0 t1 b2 b3 =>
  if t1 < t0 then
  if 0 ≤ t1 then
  Option.bind (b2.Lanes[(Int.toNat t1)]?) fun x3 =>
  if 0 ≤ t1 then
  Option.bind (b3.Lanes[(Int.toNat t1)]?) fun x5 =>
  if (!((x3.From == x5.From) && ((x3.To == x5.To) && (x3.Load == x5.Load)))) = true then
  some (.inr false)
  else
  some (.inl (.h1 t0 (IntKind.wrap .i64 (t1 + 1)) b2 b3))
  else none
  else none
  else
  some (.inr true)
noncomputable def Dw_pSameLanes (a0 : Gi_Lanes) (a1 : Gi_Lanes) : Option (Bool) :=
  if (a0.Depots : Int) = a1.Depots then
  Option.bind (Dw_sameInts a0.Stores a1.Stores) fun r2 =>
  if r2 = true then
  if (((a0.Lanes.length : Nat) : Int) : Int) = ((a1.Lanes.length : Nat) : Int) then
  loop Bw_pSameLanes (.h1 ((a0.Lanes.length : Nat) : Int) 0 a0 a1)
  else
  some false
  else
  some false
  else
  some false
noncomputable def Ds_IsLanes (a0 : Gi_Lanes) : Option (Bool) :=
  Option.bind (Ds_qGood a0) fun r1 =>
  some r1
noncomputable def Dw_FnLanes (a0 : (List Int)) (a1 : (List Int)) : Option (Bool) :=
  Option.bind (Dw_big a0 a1) fun r1 =>
  if r1 = true then
  some true
  else
  Option.bind (Ds_DrawCheckConvoys a0) fun r3 =>
  Option.bind (Di_CheckConvoys r3.1 r3.2.1 r3.2.2.1 r3.2.2.2.1 r3.2.2.2.2) fun r4 =>
  if r4.2.2 = true then
  Option.bind (Ds_CheckConvoys r3.1 r3.2.1 r3.2.2.1 r3.2.2.2.1 r3.2.2.2.2) fun r6 =>
  if (!(true == r6.2.2)) = true then
  some false
  else
  if (r4.1 : Int) = r6.1 then
  if (r4.2.1 : Int) = r6.2.1 then
  Option.bind (Di_GreatestDelivery r3.1 r3.2.1 r3.2.2.1 r3.2.2.2.1) fun r10 =>
  if r10.2 = true then
  if r4.2.1 > r10.1 then
  some false
  else
  Option.bind (Di_CriticalLanes r3.1 r3.2.1 r3.2.2.1 r3.2.2.2.1) fun r13 =>
  Option.bind (Ds_CriticalLanes r3.1 r3.2.1 r3.2.2.1 r3.2.2.2.1) fun r14 =>
  if (!(r13.2 == r14.2)) = true then
  some false
  else
  Option.bind (Dw_sameInts r13.1 r14.1) fun r16 =>
  if r16 = true then
  Option.bind (Ds_DrawWithoutLane a1) fun r18 =>
  Option.bind (Di_WithoutLane r18.1 r18.2) fun r19 =>
  Option.bind (Ds_WithoutLane r18.1 r18.2) fun r20 =>
  Option.bind (Ds_DrawCutLoad a1) fun r21 =>
  Option.bind (Di_CutLoad r21.1 r21.2.1 r21.2.2) fun r22 =>
  Option.bind (Ds_CutLoad r21.1 r21.2.1 r21.2.2) fun r23 =>
  if (r19.2 == r20.2) = true then
  Option.bind (Dw_pSameLanes r19.1 r20.1) fun r25 =>
  if r25 = true then
  if (r22.2 == r23.2) = true then
  if (r22.1 : Int) = r23.1 then
  Option.bind (Di_IsLanes r3.1) fun r29 =>
  Option.bind (Ds_IsLanes r3.1) fun r30 =>
  some (r29 == r30)
  else
  some false
  else
  some false
  else
  some false
  else
  some false
  else
  some false
  else
  some false
  else
  some false
  else
  some false
  else
  Option.bind (Ds_CheckConvoys r3.1 r3.2.1 r3.2.2.1 r3.2.2.2.1 r3.2.2.2.2) fun r6 =>
  if (!(false == r6.2.2)) = true then
  some false
  else
  if (r4.1 : Int) = r6.1 then
  if (r4.2.1 : Int) = r6.2.1 then
  Option.bind (Di_GreatestDelivery r3.1 r3.2.1 r3.2.2.1 r3.2.2.2.1) fun r10 =>
  Option.bind (Di_CriticalLanes r3.1 r3.2.1 r3.2.2.1 r3.2.2.2.1) fun r11 =>
  Option.bind (Ds_CriticalLanes r3.1 r3.2.1 r3.2.2.1 r3.2.2.2.1) fun r12 =>
  if (!(r11.2 == r12.2)) = true then
  some false
  else
  Option.bind (Dw_sameInts r11.1 r12.1) fun r14 =>
  if r14 = true then
  Option.bind (Ds_DrawWithoutLane a1) fun r16 =>
  Option.bind (Di_WithoutLane r16.1 r16.2) fun r17 =>
  Option.bind (Ds_WithoutLane r16.1 r16.2) fun r18 =>
  Option.bind (Ds_DrawCutLoad a1) fun r19 =>
  Option.bind (Di_CutLoad r19.1 r19.2.1 r19.2.2) fun r20 =>
  Option.bind (Ds_CutLoad r19.1 r19.2.1 r19.2.2) fun r21 =>
  if (r17.2 == r18.2) = true then
  Option.bind (Dw_pSameLanes r17.1 r18.1) fun r23 =>
  if r23 = true then
  if (r20.2 == r21.2) = true then
  if (r20.1 : Int) = r21.1 then
  Option.bind (Di_IsLanes r3.1) fun r27 =>
  Option.bind (Ds_IsLanes r3.1) fun r28 =>
  some (r27 == r28)
  else
  some false
  else
  some false
  else
  some false
  else
  some false
  else
  some false
  else
  some false
  else
  some false
end Go.Proofs.Ytnfeelacifllmaa.Ab
