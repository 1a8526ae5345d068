/- Part of the proof of FnRingsCard: no condition of its own. -/
import Derived.Test.YtlniejjcejackaaDoorAb4
set_option linter.unusedVariables false
set_option linter.unusedSimpArgs false
open Go
namespace Go.Proofs.YtlniejjcejackaaDoor.Ab
structure Gi_Hex where
  mk ::
  Q : Int
  R : Int
def gi_Hex (x : Gi_Hex) : D := .agg [I x.Q, I x.R]
structure Gs_l1Cur where
  mk ::
  code : (List Int)
  at_ : Int
  seed : Int
def gs_l1Cur (x : Gs_l1Cur) : D := .agg [sl 1 (D.int .u8) x.code, I x.at_, .int .u64 x.seed]
def gv0 : List Gi_Hex := [⟨1, 0⟩, ⟨1, (-1)⟩, ⟨0, (-1)⟩, ⟨(-1), 0⟩, ⟨(-1), 1⟩, ⟨0, 1⟩]
def gc0 : List D := [.agg (gv0.flatMap fun y => (gi_Hex y).cells)]
/-! loop example/g00886/laws big -/
noncomputable def Dw_big (a0 : (List Int)) (a1 : (List Int)) : Option (Bool) :=
  if ((a0.length : Nat) : Int) > 1048576 then
    some true
  else
    some (decide (((a1.length : Nat) : Int) > (IntKind.wrap .i64 (1048576 - ((a0.length : Nat) : Int)))))
/-!   loop example/g00886/spec l1Cur  next -/
noncomputable def Ds_l1Cur_next (a0 : Gs_l1Cur) : Option (Int × Gs_l1Cur) :=
  if a0.at_ < ((a0.code.length : Nat) : Int) then
    if 0 ≤ a0.at_ then
      Option.bind (a0.code[(Int.toNat a0.at_)]?) fun x3 =>
      if (IntKind.wrap .i64 (a0.at_ + 1)) ≤ ((a0.code.length : Nat) : Int) then
        some ((IntKind.wrap .i64 x3), (Gs_l1Cur.mk a0.code (IntKind.wrap .i64 (a0.at_ + 1)) (IntKind.wrap .u64 ((IntKind.wrap .u64 ((IntKind.wrap .u64 (a0.seed * 6364136223846793005)) + (IntKind.wrap .u64 (IntKind.wrap .i64 x3)))) + 1442695040888963407))))
      else
        some ((IntKind.wrap .i64 (IntKind.wrap .u64 ((BitVec.toNat (BitVec.ofInt (IntKind.bits .u64) (Int.fdiv (IntKind.wrap .u64 ((IntKind.wrap .u64 ((IntKind.wrap .u64 (a0.seed * 6364136223846793005)) + (IntKind.wrap .u64 (IntKind.wrap .i64 x3)))) + 1442695040888963407)) (2 ^ min (Int.toNat 40) (IntKind.bits .u64))) &&& BitVec.ofInt (IntKind.bits .u64) 255) : Nat) : Int))), (Gs_l1Cur.mk a0.code (IntKind.wrap .i64 (a0.at_ + 1)) (IntKind.wrap .u64 ((IntKind.wrap .u64 ((IntKind.wrap .u64 (a0.seed * 6364136223846793005)) + (IntKind.wrap .u64 (IntKind.wrap .i64 x3)))) + 1442695040888963407))))
    else none
  else
    if (IntKind.wrap .i64 (a0.at_ + 1)) ≤ ((a0.code.length : Nat) : Int) then
      some (0, (Gs_l1Cur.mk a0.code (IntKind.wrap .i64 (a0.at_ + 1)) (IntKind.wrap .u64 ((IntKind.wrap .u64 ((IntKind.wrap .u64 (a0.seed * 6364136223846793005)) + (IntKind.wrap .u64 0))) + 1442695040888963407))))
    else
      some ((IntKind.wrap .i64 (IntKind.wrap .u64 ((BitVec.toNat (BitVec.ofInt (IntKind.bits .u64) (Int.fdiv (IntKind.wrap .u64 ((IntKind.wrap .u64 ((IntKind.wrap .u64 (a0.seed * 6364136223846793005)) + (IntKind.wrap .u64 0))) + 1442695040888963407)) (2 ^ min (Int.toNat 40) (IntKind.bits .u64))) &&& BitVec.ofInt (IntKind.bits .u64) 255) : Nat) : Int))), (Gs_l1Cur.mk a0.code (IntKind.wrap .i64 (a0.at_ + 1)) (IntKind.wrap .u64 ((IntKind.wrap .u64 ((IntKind.wrap .u64 (a0.seed * 6364136223846793005)) + (IntKind.wrap .u64 0))) + 1442695040888963407))))
/-!   loop example/g00886/spec l1Cur  pick -/
noncomputable def Ds_l1Cur_pick (a0 : Gs_l1Cur) (a1 : Int) : Option (Int × Gs_l1Cur) :=
  if a1 ≤ 1 then
    some (0, a0)
  else
    Option.bind (Ds_l1Cur_next a0) fun r2 =>
    if a1 > 200 then
      Option.bind (Ds_l1Cur_next r2.2) fun r4 =>
      if ¬ a1 = 0 then
        some ((Int.tmod (IntKind.wrap .i64 ((IntKind.wrap .i64 (r2.1 * 256)) + r4.1)) a1), r4.2)
      else none
    else
      if ¬ a1 = 0 then
        some ((Int.tmod r2.1 a1), r2.2)
      else none
/-!   loop example/g00886/spec l1Cur  among -/
noncomputable def Ds_l1Cur_among (a0 : Gs_l1Cur) (a1 : (List Int)) : Option (Int × Gs_l1Cur) :=
  Option.bind (Ds_l1Cur_pick a0 ((a1.length : Nat) : Int)) fun r1 =>
  if 0 ≤ r1.1 then
    Option.bind (a1[(Int.toNat r1.1)]?) fun x3 =>
    some (x3, r1.2)
  else none
/-!   loop example/g00886/spec l1Cur  hex -/
noncomputable def Ds_l1Cur_hex (a0 : Gs_l1Cur) : Option (Gi_Hex × Gs_l1Cur) :=
  Option.bind (Ds_l1Cur_pick a0 13) fun r1 =>
  Option.bind (Ds_l1Cur_pick r1.2 13) fun r2 =>
  Option.bind (Ds_l1Cur_pick r2.2 16) fun r3 =>
  if (r3.1 : Int) = 0 then
    Option.bind (Ds_l1Cur_among r3.2 [40, (-40), 38]) fun r5 =>
    some ((Gi_Hex.mk r5.1 (IntKind.wrap .i64 (r2.1 - 6))), r5.2)
  else
    if (r3.1 : Int) = 1 then
      Option.bind (Ds_l1Cur_among r3.2 [40, (-40), 39]) fun r6 =>
      some ((Gi_Hex.mk (IntKind.wrap .i64 (r1.1 - 6)) r6.1), r6.2)
    else
      some ((Gi_Hex.mk (IntKind.wrap .i64 (r1.1 - 6)) (IntKind.wrap .i64 (r2.1 - 6))), r3.2)
/-!   loop example/g00886/spec l1Cur  one -/
noncomputable def Ds_l1Cur_one (a0 : Gs_l1Cur) (a1 : Int) : Option (Bool × Gs_l1Cur) :=
  Option.bind (Ds_l1Cur_pick a0 a1) fun r1 =>
  some (((r1.1 : Int) == 0), r1.2)
/-!   loop example/g00886/spec l1Cur  anyHex -/
noncomputable def Ds_l1Cur_anyHex (a0 : Gs_l1Cur) : Option (Gi_Hex × Gs_l1Cur) :=
  Option.bind (Ds_l1Cur_hex a0) fun r1 =>
  Option.bind (Ds_l1Cur_one r1.2 24) fun r2 =>
  if r2.1 = true then
    Option.bind (Ds_l1Cur_among r2.2 [41, (-41)]) fun r4 =>
    some ((Gi_Hex.mk r4.1 r1.1.R), r4.2)
  else
    some (r1.1, r2.2)
/-! loop example/g00886/spec DrawRingOf -/
noncomputable def Ds_DrawRingOf (a0 : (List Int)) : Option (Gi_Hex × Int) :=
  Option.bind (Ds_l1Cur_anyHex (Gs_l1Cur.mk a0 0 0)) fun r1 =>
  Option.bind (Ds_l1Cur_pick r1.2 8) fun r2 =>
  Option.bind (Ds_l1Cur_pick r2.2 20) fun r3 =>
  some (r1.1, (IntKind.wrap .i64 (r2.1 - (IntKind.wrap .i64 (Int.tdiv r3.1 19)))))
/-! loop example/g00886/impl inRange -/
noncomputable def Di_inRange (a0 : Int) (a1 : Int) (a2 : Int) : Option (Bool) :=
  if a1 ≤ a0 then
    some (decide (a0 ≤ a2))
  else
    some false
/-! loop example/g00886/impl IsHex -/
noncomputable def Di_IsHex (a0 : Gi_Hex) : Option (Bool) :=
  Option.bind (Di_inRange a0.Q (-40) 40) fun r1 =>
  if r1 = true then
    Option.bind (Di_inRange a0.R (-40) 40) fun r3 =>
    some r3
  else
    some false
/-! loop example/g00886/impl stepBy -/
noncomputable def Di_stepBy (a0 : Gi_Hex) (a1 : Int) (a2 : Int) : Option (Gi_Hex) :=
  if 0 ≤ a1 then
    Option.bind (gv0[Int.toNat a1]?) fun x2 =>
    if 0 ≤ a1 then
      Option.bind (gv0[Int.toNat a1]?) fun x4 =>
      some (Gi_Hex.mk (IntKind.wrap .i64 (a0.Q + (IntKind.wrap .i64 (a2 * x2.Q)))) (IntKind.wrap .i64 (a0.R + (IntKind.wrap .i64 (a2 * x4.R)))))
    else none
  else none
/-! loop example/g00886/impl allHexes -/
inductive Si_allHexes where
  | h1 (t0 : (List Gi_Hex)) (t1 : Int) (t2 : Int)
noncomputable def Bi_allHexes : Si_allHexes → Option (Si_allHexes ⊕ (Bool))
  | .h1 t0 t1 t2 =>
    if t2 < t1 then
      if 0 ≤ t2 then
        Option.bind (t0[(Int.toNat t2)]?) fun x3 =>
        Option.bind (Di_IsHex x3) fun r4 =>
        if r4 = true then
          some (.inl (.h1 t0 t1 (IntKind.wrap .i64 (t2 + 1))))
        else
          some (.inr false)
      else none
    else
      some (.inr true)
noncomputable def Di_allHexes (a0 : (List Gi_Hex)) : Option (Bool) :=
  loop Bi_allHexes (.h1 a0 ((a0.length : Nat) : Int) 0)
/-! loop example/g00886/impl RingOf -/
inductive Si_RingOf where
  | h1 (vradius0 : Int) (t1 : Int) (l2 : (List Gi_Hex)) (b3 : Gi_Hex)
  | h2 (vradius0 : Int) (d1 : Int) (t2 : Int) (t3 : Int) (t4 : Int) (l5 : (List Gi_Hex)) (b6 : Gi_Hex)
noncomputable def Bi_RingOf : Si_RingOf → Option (Si_RingOf ⊕ ((List Gi_Hex) × Bool))
  | .h1 vradius0 t1 l2 b3 =>
    if t1 < 6 then
      some (.inl (.h2 vradius0 t1 t1 vradius0 0 l2 b3))
    else
      Option.bind (Di_allHexes l2) fun r2 =>
      if r2 = true then
        some (.inr (l2, true))
      else
        some (.inr ([], false))
  | .h2 vradius0 d1 t2 t3 t4 l5 b6 =>
    if t4 < t3 then
      if (l5 ++ [b6]).length * 16 ≤ 70368744177664 then
        Option.bind (Di_stepBy b6 d1 1) fun r3 =>
        some (.inl (.h2 vradius0 d1 t2 t3 (IntKind.wrap .i64 (t4 + 1)) (l5 ++ [b6]) r3))
      else none
    else
      some (.inl (.h1 vradius0 (IntKind.wrap .i64 (t2 + 1)) l5 b6))
noncomputable def Di_RingOf (a0 : Gi_Hex) (a1 : Int) : Option ((List Gi_Hex) × Bool) :=
  Option.bind (Di_IsHex a0) fun r1 =>
  if r1 = true then
    Option.bind (Di_inRange a1 0 6) fun r3 =>
    if r3 = true then
      Option.bind (Di_stepBy a0 4 a1) fun r5 =>
      if (a1 : Int) = 0 then
        if [a0].length * 16 ≤ 70368744177664 then
          loop Bi_RingOf (.h1 a1 0 [a0] r5)
        else none
      else
        loop Bi_RingOf (.h1 a1 0 ([] : List Gi_Hex) r5)
    else
      some ([], false)
  else
    some ([], false)
/-! loop example/g00886/spec l1In -/
noncomputable def Ds_l1In (a0 : Int) (a1 : Int) (a2 : Int) : Option (Bool) :=
  if a0 ≥ a1 then
    some (decide (a0 ≤ a2))
  else
    some false
/-! loop example/g00886/spec hGood -/
noncomputable def Ds_hGood (a0 : Gi_Hex) : Option (Bool) :=
  Option.bind (Ds_l1In a0.Q (-40) 40) fun r1 =>
  if r1 = true then
    Option.bind (Ds_l1In a0.R (-40) 40) fun r3 =>
    some r3
  else
    some false
/-! loop example/g00886/spec hStep -/
noncomputable def Ds_hStep (a0 : Gi_Hex) (a1 : Int) : Option (Gi_Hex) :=
  if 0 ≤ a1 then
    Option.bind ([1, 1, 0, (-1), (-1), 0][(Int.toNat a1)]?) fun x2 =>
    if 0 ≤ a1 then
      Option.bind ([0, (-1), (-1), 0, 1, 1][(Int.toNat a1)]?) fun x4 =>
      some (Gi_Hex.mk (IntKind.wrap .i64 (a0.Q + x2)) (IntKind.wrap .i64 (a0.R + x4)))
    else none
  else none
/-! loop example/g00886/spec hRing -/
inductive Ss_hRing where
  | h1 (vradius0 : Int) (k1 : Int) (b2 : Gi_Hex)
  | h2 (vradius0 : Int) (d1 : Int) (b2 : Gi_Hex) (l3 : (List Gi_Hex))
  | h3 (vradius0 : Int) (d1 : Int) (k2 : Int) (b3 : Gi_Hex) (l4 : (List Gi_Hex))
noncomputable def Bs_hRing : Ss_hRing → Option (Ss_hRing ⊕ ((List Gi_Hex)))
  | .h1 vradius0 k1 b2 =>
    if k1 < vradius0 then
      Option.bind (Ds_hStep b2 4) fun r2 =>
      some (.inl (.h1 vradius0 (IntKind.wrap .i64 (k1 + 1)) r2))
    else
      some (.inl (.h2 vradius0 0 b2 ([] : List Gi_Hex)))
  | .h2 vradius0 d1 b2 l3 =>
    if d1 < 6 then
      some (.inl (.h3 vradius0 d1 0 b2 l3))
    else
      some (.inr l3)
  | .h3 vradius0 d1 k2 b3 l4 =>
    if k2 < vradius0 then
      if (l4 ++ [b3]).length * 16 ≤ 70368744177664 then
        Option.bind (Ds_hStep b3 d1) fun r3 =>
        some (.inl (.h3 vradius0 d1 (IntKind.wrap .i64 (k2 + 1)) r3 (l4 ++ [b3])))
      else none
    else
      some (.inl (.h2 vradius0 (IntKind.wrap .i64 (d1 + 1)) b3 l4))
noncomputable def Ds_hRing (a0 : Gi_Hex) (a1 : Int) : Option ((List Gi_Hex)) :=
  if (a1 : Int) = 0 then
    some [a0]
  else
    loop Bs_hRing (.h1 a1 0 a0)
/-! loop example/g00886/spec hAll -/
inductive Ss_hAll where
  | h1 (l0 : (List Gi_Hex)) (t1 : (List Gi_Hex)) (t2 : Int) (t3 : Int)
noncomputable def Bs_hAll : Ss_hAll → Option (Ss_hAll ⊕ ((List Gi_Hex) × Bool))
  | .h1 l0 t1 t2 t3 =>
    if t3 < t2 then
      if 0 ≤ t3 then
        Option.bind (t1[(Int.toNat t3)]?) fun x3 =>
        Option.bind (Ds_hGood x3) fun r4 =>
        if r4 = true then
          some (.inl (.h1 l0 t1 t2 (IntKind.wrap .i64 (t3 + 1))))
        else
          some (.inr ([], false))
      else none
    else
      some (.inr (l0, true))
noncomputable def Ds_hAll (a0 : (List Gi_Hex)) : Option ((List Gi_Hex) × Bool) :=
  loop Bs_hAll (.h1 a0 a0 ((a0.length : Nat) : Int) 0)
/-! loop example/g00886/spec RingOf -/
noncomputable def Ds_RingOf (a0 : Gi_Hex) (a1 : Int) : Option ((List Gi_Hex) × Bool) :=
  Option.bind (Ds_hGood a0) fun r1 =>
  if r1 = true then
    Option.bind (Ds_l1In a1 0 6) fun r3 =>
    if r3 = true then
      Option.bind (Ds_hRing a0 a1) fun r5 =>
      Option.bind (Ds_hAll r5) fun r6 =>
      some (r6.1, r6.2)
    else
      some ([], false)
  else
    some ([], false)
/-! loop example/g00886/laws pSameHexes -/
inductive Sw_pSameHexes where
  | h1 (va0 : (List Gi_Hex)) (b1 : (List Gi_Hex)) (t2 : Int) (t3 : Int)
noncomputable def Bw_pSameHexes : Sw_pSameHexes → Option (Sw_pSameHexes ⊕ (Bool))
  | .h1 va0 b1 t2 t3 =>
    if t3 < t2 then
      if 0 ≤ t3 then
        Option.bind (va0[(Int.toNat t3)]?) fun x3 =>
        if 0 ≤ t3 then
          Option.bind (b1[(Int.toNat t3)]?) fun x5 =>
          if (!((x3.Q == x5.Q) && (x3.R == x5.R))) = true then
            some (.inr false)
          else
            some (.inl (.h1 va0 b1 t2 (IntKind.wrap .i64 (t3 + 1))))
        else none
      else none
    else
      some (.inr true)
noncomputable def Dw_pSameHexes (a0 : (List Gi_Hex)) (a1 : (List Gi_Hex)) : Option (Bool) :=
  if (((a0.length : Nat) : Int) : Int) = ((a1.length : Nat) : Int) then
    loop Bw_pSameHexes (.h1 a0 a1 ((a0.length : Nat) : Int) 0)
  else
    some false
/-! loop example/g00886/impl absOf -/
noncomputable def Di_absOf (a0 : Int) : Option (Int) :=
  if a0 < 0 then
    some (IntKind.wrap .i64 (0 - a0))
  else
    some a0
/-! loop example/g00886/impl distance -/
noncomputable def Di_distance (a0 : Gi_Hex) (a1 : Gi_Hex) : Option (Int) :=
  Option.bind (Di_absOf (IntKind.wrap .i64 (a1.Q - a0.Q))) fun r1 =>
  Option.bind (Di_absOf (IntKind.wrap .i64 (a1.R - a0.R))) fun r2 =>
  Option.bind (Di_absOf (IntKind.wrap .i64 ((IntKind.wrap .i64 (a1.Q - a0.Q)) + (IntKind.wrap .i64 (a1.R - a0.R))))) fun r3 =>
  some (IntKind.wrap .i64 (Int.tdiv (IntKind.wrap .i64 ((IntKind.wrap .i64 (r1 + r2)) + r3)) 2))
/-! loop example/g00886/impl DistanceOf -/
noncomputable def Di_DistanceOf (a0 : Gi_Hex) (a1 : Gi_Hex) : Option (Int × Bool) :=
  Option.bind (Di_IsHex a0) fun r1 =>
  if r1 = true then
    Option.bind (Di_IsHex a1) fun r3 =>
    if r3 = true then
      Option.bind (Di_distance a0 a1) fun r5 =>
      some (r5, true)
    else
      some (0, false)
  else
    some (0, false)
/-! loop example/g00886/impl DiskOf -/
inductive Si_DiskOf where
  | h1 (vradius0 : Int) (q1 : Int) (b2 : Gi_Hex) (l3 : (List Gi_Hex))
  | h2 (vradius0 : Int) (q1 : Int) (vr2 : Int) (b3 : Gi_Hex) (l4 : (List Gi_Hex))
noncomputable def Bi_DiskOf : Si_DiskOf → Option (Si_DiskOf ⊕ ((List Gi_Hex) × Bool))
  | .h1 vradius0 q1 b2 l3 =>
    if q1 ≤ (IntKind.wrap .i64 (b2.Q + vradius0)) then
      some (.inl (.h2 vradius0 q1 (IntKind.wrap .i64 (b2.R - vradius0)) b2 l3))
    else
      Option.bind (Di_allHexes l3) fun r2 =>
      if r2 = true then
        some (.inr (l3, true))
      else
        some (.inr ([], false))
  | .h2 vradius0 q1 vr2 b3 l4 =>
    if vr2 ≤ (IntKind.wrap .i64 (b3.R + vradius0)) then
      Option.bind (Di_distance b3 (Gi_Hex.mk q1 vr2)) fun r2 =>
      if r2 ≤ vradius0 then
        if (l4 ++ [(Gi_Hex.mk q1 vr2)]).length * 16 ≤ 70368744177664 then
          some (.inl (.h2 vradius0 q1 (IntKind.wrap .i64 (vr2 + 1)) b3 (l4 ++ [(Gi_Hex.mk q1 vr2)])))
        else none
      else
        some (.inl (.h2 vradius0 q1 (IntKind.wrap .i64 (vr2 + 1)) b3 l4))
    else
      some (.inl (.h1 vradius0 (IntKind.wrap .i64 (q1 + 1)) b3 l4))
noncomputable def Di_DiskOf (a0 : Gi_Hex) (a1 : Int) : Option ((List Gi_Hex) × Bool) :=
  Option.bind (Di_IsHex a0) fun r1 =>
  if r1 = true then
    Option.bind (Di_inRange a1 0 6) fun r3 =>
    if r3 = true then
      loop Bi_DiskOf (.h1 a1 (IntKind.wrap .i64 (a0.Q - a1)) a0 ([] : List Gi_Hex))
    else
      some ([], false)
  else
    some ([], false)
/-! loop example/g00886/spec l1Most -/
noncomputable def Ds_l1Most (a0 : Int) (a1 : Int) : Option (Int) :=
  if a0 > a1 then
    some a0
  else
    some a1
/-! loop example/g00886/spec l1Abs -/
noncomputable def Ds_l1Abs (a0 : Int) : Option (Int) :=
  Option.bind (Ds_l1Most a0 (IntKind.wrap .i64 (0 - a0))) fun r1 =>
  some r1
/-! loop example/g00886/spec hDistance -/
noncomputable def Ds_hDistance (a0 : Gi_Hex) (a1 : Gi_Hex) : Option (Int) :=
  Option.bind (Ds_l1Abs (IntKind.wrap .i64 (a1.Q - a0.Q))) fun r1 =>
  Option.bind (Ds_l1Abs (IntKind.wrap .i64 (a1.R - a0.R))) fun r2 =>
  Option.bind (Ds_l1Abs (IntKind.wrap .i64 ((IntKind.wrap .i64 (a1.Q - a0.Q)) + (IntKind.wrap .i64 (a1.R - a0.R))))) fun r3 =>
  some (IntKind.wrap .i64 (Int.tdiv (IntKind.wrap .i64 ((IntKind.wrap .i64 (r1 + r2)) + r3)) 2))
/-! loop example/g00886/spec hDisk -/
inductive Ss_hDisk where
  | h1 (vradius0 : Int) (q1 : Int) (b2 : Gi_Hex) (l3 : (List Gi_Hex))
  | h2 (vradius0 : Int) (q1 : Int) (vr2 : Int) (b3 : Gi_Hex) (l4 : (List Gi_Hex))
noncomputable def Bs_hDisk : Ss_hDisk → Option (Ss_hDisk ⊕ ((List Gi_Hex)))
  | .h1 vradius0 q1 b2 l3 =>
    if q1 ≤ (IntKind.wrap .i64 (b2.Q + vradius0)) then
      some (.inl (.h2 vradius0 q1 (IntKind.wrap .i64 (b2.R - vradius0)) b2 l3))
    else
      some (.inr l3)
  | .h2 vradius0 q1 vr2 b3 l4 =>
    if vr2 ≤ (IntKind.wrap .i64 (b3.R + vradius0)) then
      Option.bind (Ds_hDistance b3 (Gi_Hex.mk q1 vr2)) fun r2 =>
      if r2 ≤ vradius0 then
        if (l4 ++ [(Gi_Hex.mk q1 vr2)]).length * 16 ≤ 70368744177664 then
          some (.inl (.h2 vradius0 q1 (IntKind.wrap .i64 (vr2 + 1)) b3 (l4 ++ [(Gi_Hex.mk q1 vr2)])))
        else none
      else
        some (.inl (.h2 vradius0 q1 (IntKind.wrap .i64 (vr2 + 1)) b3 l4))
    else
      some (.inl (.h1 vradius0 (IntKind.wrap .i64 (q1 + 1)) b3 l4))
noncomputable def Ds_hDisk (a0 : Gi_Hex) (a1 : Int) : Option ((List Gi_Hex)) :=
  loop Bs_hDisk (.h1 a1 (IntKind.wrap .i64 (a0.Q - a1)) a0 ([] : List Gi_Hex))
/-! loop example/g00886/spec DiskOf -/
noncomputable def Ds_DiskOf (a0 : Gi_Hex) (a1 : Int) : Option ((List Gi_Hex) × Bool) :=
  Option.bind (Ds_hGood a0) fun r1 =>
  if r1 = true then
    Option.bind (Ds_l1In a1 0 6) fun r3 =>
    if r3 = true then
      Option.bind (Ds_hDisk a0 a1) fun r5 =>
      Option.bind (Ds_hAll r5) fun r6 =>
      some (r6.1, r6.2)
    else
      some ([], false)
  else
    some ([], false)
/-!   loop example/g00886/spec l1Cur  steps -/
inductive Ss_l1Cur_steps where
  | h1 (k0 : Int) (b1 : Gs_l1Cur) (l2 : (List Int))
noncomputable def Bs_l1Cur_steps : Ss_l1Cur_steps → Option (Ss_l1Cur_steps ⊕ ((List Int) × Gs_l1Cur))
  | .h1 k0 b1 l2 =>
    if k0 > 0 then
      Option.bind (Ds_l1Cur_pick b1 6) fun r2 =>
      if (l2 ++ [r2.1]).length * 8 ≤ 70368744177664 then
        some (.inl (.h1 (IntKind.wrap .i64 (k0 - 1)) r2.2 (l2 ++ [r2.1])))
      else none
    else
      some (.inr (l2, b1))
noncomputable def Ds_l1Cur_steps (a0 : Gs_l1Cur) (a1 : Int) : Option ((List Int) × Gs_l1Cur) :=
  Option.bind (Ds_l1Cur_pick a0 (IntKind.wrap .i64 (a1 + 1))) fun r1 =>
  loop Bs_l1Cur_steps (.h1 r1.1 r1.2 ([] : List Int))
/-! loop example/g00886/spec DrawWalkFrom -/
inductive Ss_DrawWalkFrom where
  | h1 (n0 : Int) (b1 : Gi_Hex) (b2 : Gi_Hex) (l3 : (List Int))
noncomputable def Bs_DrawWalkFrom : Ss_DrawWalkFrom → Option (Ss_DrawWalkFrom ⊕ (Gi_Hex × (List Int)))
  | .h1 n0 b1 b2 l3 =>
    if ((l3.length : Nat) : Int) < n0 then
      if (l3 ++ [0, 3]).length * 8 ≤ 70368744177664 then
        some (.inl (.h1 n0 b1 b2 (l3 ++ [0, 3])))
      else none
    else
      some (.inr (b2, l3))
noncomputable def Ds_DrawWalkFrom (a0 : (List Int)) : Option (Gi_Hex × (List Int)) :=
  Option.bind (Ds_l1Cur_anyHex (Gs_l1Cur.mk a0 0 0)) fun r1 =>
  Option.bind (Ds_l1Cur_steps r1.2 8) fun r2 =>
  Option.bind (Ds_l1Cur_pick r2.2 24) fun r3 =>
  if (r3.1 : Int) = 0 then
    Option.bind (Ds_l1Cur_among r3.2 [6, (-1)]) fun r5 =>
    if (r2.1 ++ [r5.1]).length * 8 ≤ 70368744177664 then
      some (r1.1, (r2.1 ++ [r5.1]))
    else none
  else
    if (r3.1 : Int) = 1 then
      Option.bind (Ds_l1Cur_pick r3.2 2) fun r6 =>
      loop Bs_DrawWalkFrom (.h1 (IntKind.wrap .i64 (60 + r6.1)) (Gi_Hex.mk 0 0) r1.1 r2.1)
    else
      some (r1.1, r2.1)
/-! loop example/g00886/impl isDirection -/
noncomputable def Di_isDirection (a0 : Int) : Option (Bool) :=
  Option.bind (Di_inRange a0 0 5) fun r1 =>
  some r1
/-! loop example/g00886/impl WalkFrom -/
inductive Si_WalkFrom where
  | h1 (path0 : (List Int)) (t1 : (List Int)) (t2 : Int) (t3 : Int) (b4 : Gi_Hex)
  | h2 (t0 : (List Int)) (t1 : Int) (t2 : Int) (b3 : Gi_Hex) (l4 : (List Gi_Hex))
noncomputable def Bi_WalkFrom : Si_WalkFrom → Option (Si_WalkFrom ⊕ ((List Gi_Hex) × Bool))
  | .h1 path0 t1 t2 t3 b4 =>
    if t3 < t2 then
      if 0 ≤ t3 then
        Option.bind (t1[(Int.toNat t3)]?) fun x3 =>
        Option.bind (Di_isDirection x3) fun r4 =>
        if r4 = true then
          some (.inl (.h1 path0 t1 t2 (IntKind.wrap .i64 (t3 + 1)) b4))
        else
          some (.inr ([], false))
      else none
    else
      some (.inl (.h2 path0 ((path0.length : Nat) : Int) 0 b4 ([] : List Gi_Hex)))
  | .h2 t0 t1 t2 b3 l4 =>
    if t2 < t1 then
      if 0 ≤ t2 then
        Option.bind (t0[(Int.toNat t2)]?) fun x3 =>
        Option.bind (Di_stepBy b3 x3 1) fun r4 =>
        Option.bind (Di_IsHex r4) fun r5 =>
        if r5 = true then
          if (l4 ++ [r4]).length * 16 ≤ 70368744177664 then
            some (.inl (.h2 t0 t1 (IntKind.wrap .i64 (t2 + 1)) r4 (l4 ++ [r4])))
          else none
        else
          some (.inr ([], false))
      else none
    else
      some (.inr (l4, true))
noncomputable def Di_WalkFrom (a0 : Gi_Hex) (a1 : (List Int)) : Option ((List Gi_Hex) × Bool) :=
  Option.bind (Di_IsHex a0) fun r1 =>
  if r1 = true then
    if ((a1.length : Nat) : Int) > 60 then
      some ([], false)
    else
      loop Bi_WalkFrom (.h1 a1 a1 ((a1.length : Nat) : Int) 0 a0)
  else
    some ([], false)
/-! loop example/g00886/spec l1All -/
inductive Ss_l1All where
  | h1 (lo0 : Int) (vhi1 : Int) (t2 : (List Int)) (t3 : Int) (t4 : Int)
noncomputable def Bs_l1All : Ss_l1All → Option (Ss_l1All ⊕ (Bool))
  | .h1 lo0 vhi1 t2 t3 t4 =>
    if t4 < t3 then
      if 0 ≤ t4 then
        Option.bind (t2[(Int.toNat t4)]?) fun x3 =>
        Option.bind (Ds_l1In x3 lo0 vhi1) fun r4 =>
        if r4 = true then
          some (.inl (.h1 lo0 vhi1 t2 t3 (IntKind.wrap .i64 (t4 + 1))))
        else
          some (.inr false)
      else none
    else
      some (.inr true)
noncomputable def Ds_l1All (a0 : (List Int)) (a1 : Int) (a2 : Int) : Option (Bool) :=
  loop Bs_l1All (.h1 a1 a2 a0 ((a0.length : Nat) : Int) 0)
/-! loop example/g00886/spec WalkFrom -/
inductive Ss_WalkFrom where
  | h1 (t0 : (List Int)) (t1 : Int) (t2 : Int) (b3 : Gi_Hex) (l4 : (List Gi_Hex))
noncomputable def Bs_WalkFrom : Ss_WalkFrom → Option (Ss_WalkFrom ⊕ ((List Gi_Hex) × Bool))
  | .h1 t0 t1 t2 b3 l4 =>
    if t2 < t1 then
      if 0 ≤ t2 then
        Option.bind (t0[(Int.toNat t2)]?) fun x3 =>
        Option.bind (Ds_hStep b3 x3) fun r4 =>
        if (l4 ++ [r4]).length * 16 ≤ 70368744177664 then
          some (.inl (.h1 t0 t1 (IntKind.wrap .i64 (t2 + 1)) r4 (l4 ++ [r4])))
        else none
      else none
    else
      Option.bind (Ds_hAll l4) fun r2 =>
      some (.inr (r2.1, r2.2))
noncomputable def Ds_WalkFrom (a0 : Gi_Hex) (a1 : (List Int)) : Option ((List Gi_Hex) × Bool) :=
  Option.bind (Ds_hGood a0) fun r1 =>
  if r1 = true then
    if ((a1.length : Nat) : Int) > 60 then
      some ([], false)
    else
      Option.bind (Ds_l1All a1 0 5) fun r4 =>
      if r4 = true then
        loop Bs_WalkFrom (.h1 a1 ((a1.length : Nat) : Int) 0 a0 ([] : List Gi_Hex))
      else
        some ([], false)
  else
    some ([], false)
/-! loop example/g00886/spec DrawNearestAlong -/
inductive Ss_DrawNearestAlong where
  | h1 (k0 : Int) (b1 : Gi_Hex) (b2 : Gs_l1Cur) (l3 : (List Gi_Hex))
noncomputable def Bs_DrawNearestAlong : Ss_DrawNearestAlong → Option (Ss_DrawNearestAlong ⊕ ((List Gi_Hex) × Gi_Hex))
  | .h1 k0 b1 b2 l3 =>
    if k0 > 0 then
      Option.bind (Ds_l1Cur_hex b2) fun r2 =>
      if (l3 ++ [r2.1]).length * 16 ≤ 70368744177664 then
        some (.inl (.h1 (IntKind.wrap .i64 (k0 - 1)) b1 r2.2 (l3 ++ [r2.1])))
      else none
    else
      Option.bind (Ds_l1Cur_pick b2 24) fun r2 =>
      if (r2.1 : Int) = 0 then
        Option.bind (Ds_l1Cur_anyHex r2.2) fun r4 =>
        if (l3 ++ [r4.1]).length * 16 ≤ 70368744177664 then
          Option.bind (Ds_l1Cur_anyHex r4.2) fun r6 =>
          some (.inr ((l3 ++ [r4.1]), r6.1))
        else none
      else
        if (r2.1 : Int) = 1 then
          Option.bind (Ds_l1Cur_pick r2.2 2) fun r5 =>
          if 0 ≤ (IntKind.wrap .i64 (60 + r5.1)) then
            if Int.toNat (IntKind.wrap .i64 (60 + r5.1)) * 16 ≤ 140737488355328 then
              Option.bind (Ds_l1Cur_anyHex r5.2) fun r8 =>
              some (.inr ((List.replicate (Int.toNat (IntKind.wrap .i64 (60 + r5.1))) (Gi_Hex.mk 0 0)), r8.1))
            else none
          else none
        else
          Option.bind (Ds_l1Cur_anyHex r2.2) fun r5 =>
          some (.inr (l3, r5.1))
noncomputable def Ds_DrawNearestAlong (a0 : (List Int)) : Option ((List Gi_Hex) × Gi_Hex) :=
  Option.bind (Ds_l1Cur_pick (Gs_l1Cur.mk a0 0 0) 7) fun r1 =>
  loop Bs_DrawNearestAlong (.h1 r1.1 (Gi_Hex.mk 0 0) r1.2 ([] : List Gi_Hex))
/-! loop example/g00886/impl NearestAlong -/
inductive Si_NearestAlong where
  | h1 (list0 : (List Gi_Hex)) (best1 : Int) (t2 : Int) (t3 : Int) (b4 : Gi_Hex)
noncomputable def Bi_NearestAlong : Si_NearestAlong → Option (Si_NearestAlong ⊕ (Int × Bool))
  | .h1 list0 best1 t2 t3 b4 =>
    if t3 < t2 then
      if 0 ≤ t3 then
        Option.bind (list0[(Int.toNat t3)]?) fun x3 =>
        Option.bind (Di_distance x3 b4) fun r4 =>
        if 0 ≤ best1 then
          Option.bind (list0[(Int.toNat best1)]?) fun x6 =>
          Option.bind (Di_distance x6 b4) fun r7 =>
          if r4 < r7 then
            some (.inl (.h1 list0 t3 t2 (IntKind.wrap .i64 (t3 + 1)) b4))
          else
            some (.inl (.h1 list0 best1 t2 (IntKind.wrap .i64 (t3 + 1)) b4))
        else none
      else none
    else
      some (.inr (best1, true))
noncomputable def Di_NearestAlong (a0 : (List Gi_Hex)) (a1 : Gi_Hex) : Option (Int × Bool) :=
  if ((a0.length : Nat) : Int) < 1 then
    some (0, false)
  else
    if ((a0.length : Nat) : Int) > 60 then
      some (0, false)
    else
      Option.bind (Di_allHexes a0) fun r3 =>
      if r3 = true then
        Option.bind (Di_IsHex a1) fun r5 =>
        if r5 = true then
          loop Bi_NearestAlong (.h1 a0 0 ((a0.length : Nat) : Int) 0 a1)
        else
          some (0, false)
      else
        some (0, false)
/-! loop example/g00886/spec NearestAlong -/
inductive Ss_NearestAlong where
  | h1 (list0 : (List Gi_Hex)) (best1 : Int) (t2 : (List Gi_Hex)) (t3 : Int) (t4 : Int) (b5 : Gi_Hex)
noncomputable def Bs_NearestAlong : Ss_NearestAlong → Option (Ss_NearestAlong ⊕ (Int × Bool))
  | .h1 list0 best1 t2 t3 t4 b5 =>
    if t4 < t3 then
      if 0 ≤ t4 then
        Option.bind (t2[(Int.toNat t4)]?) fun x3 =>
        Option.bind (Ds_hGood x3) fun r4 =>
        if r4 = true then
          Option.bind (Ds_hDistance x3 b5) fun r6 =>
          if 0 ≤ best1 then
            Option.bind (list0[(Int.toNat best1)]?) fun x8 =>
            Option.bind (Ds_hDistance x8 b5) fun r9 =>
            if r6 < r9 then
              some (.inl (.h1 list0 t4 t2 t3 (IntKind.wrap .i64 (t4 + 1)) b5))
            else
              some (.inl (.h1 list0 best1 t2 t3 (IntKind.wrap .i64 (t4 + 1)) b5))
          else none
        else
          some (.inr (0, false))
      else none
    else
      some (.inr (best1, true))
noncomputable def Ds_NearestAlong (a0 : (List Gi_Hex)) (a1 : Gi_Hex) : Option (Int × Bool) :=
  Option.bind (Ds_l1In ((a0.length : Nat) : Int) 1 60) fun r1 =>
  if r1 = true then
    Option.bind (Ds_hGood a1) fun r3 =>
    if r3 = true then
      loop Bs_NearestAlong (.h1 a0 0 a0 ((a0.length : Nat) : Int) 0 a1)
    else
      some (0, false)
  else
    some (0, false)
/-! loop example/g00886/laws FnRings -/
inductive Sw_FnRings where
  | h1 (t0 : (List Int)) (t1 : Int) (t2 : (List Gi_Hex)) (t3 : Int) (t4 : Int) (b5 : Gi_Hex)
noncomputable def Bw_FnRings : Sw_FnRings → Option (Sw_FnRings ⊕ (Bool))
  | .h1 t0 t1 t2 t3 t4 b5 =>
    if t4 < t3 then
      if 0 ≤ t4 then
        Option.bind (t2[(Int.toNat t4)]?) fun x3 =>
        Option.bind (Di_DistanceOf b5 x3) fun r4 =>
        if r4.2 = true then
          if (r4.1 : Int) = t1 then
            some (.inl (.h1 t0 t1 t2 t3 (IntKind.wrap .i64 (t4 + 1)) b5))
          else
            some (.inr false)
        else
          some (.inr false)
      else none
    else
      Option.bind (Di_DiskOf b5 t1) fun r2 =>
      if r2.2 = true then
        Option.bind (Ds_DiskOf b5 t1) fun r4 =>
        if (!(true == r4.2)) = true then
          some (.inr false)
        else
          Option.bind (Dw_pSameHexes r2.1 r4.1) fun r6 =>
          if r6 = true then
            if (((r2.1.length : Nat) : Int) : Int) = (IntKind.wrap .i64 ((IntKind.wrap .i64 ((IntKind.wrap .i64 (3 * t1)) * (IntKind.wrap .i64 (t1 + 1)))) + 1)) then
              Option.bind (Ds_DrawWalkFrom t0) fun r9 =>
              Option.bind (Di_WalkFrom r9.1 r9.2) fun r10 =>
              Option.bind (Ds_WalkFrom r9.1 r9.2) fun r11 =>
              if (!(r10.2 == r11.2)) = true then
                some (.inr false)
              else
                Option.bind (Dw_pSameHexes r10.1 r11.1) fun r13 =>
                if r13 = true then
                  Option.bind (Ds_DrawNearestAlong t0) fun r15 =>
                  Option.bind (Di_NearestAlong r15.1 r15.2) fun r16 =>
                  Option.bind (Ds_NearestAlong r15.1 r15.2) fun r17 =>
                  if (r16.2 == r17.2) = true then
                    some (.inr ((r16.1 : Int) == r17.1))
                  else
                    some (.inr false)
                else
                  some (.inr false)
            else
              some (.inr false)
          else
            some (.inr false)
      else
        Option.bind (Ds_DiskOf b5 t1) fun r4 =>
        if (!(false == r4.2)) = true then
          some (.inr false)
        else
          Option.bind (Dw_pSameHexes r2.1 r4.1) fun r6 =>
          if r6 = true then
            Option.bind (Ds_DrawWalkFrom t0) fun r8 =>
            Option.bind (Di_WalkFrom r8.1 r8.2) fun r9 =>
            Option.bind (Ds_WalkFrom r8.1 r8.2) fun r10 =>
            if (!(r9.2 == r10.2)) = true then
              some (.inr false)
            else
              Option.bind (Dw_pSameHexes r9.1 r10.1) fun r12 =>
              if r12 = true then
                Option.bind (Ds_DrawNearestAlong t0) fun r14 =>
                Option.bind (Di_NearestAlong r14.1 r14.2) fun r15 =>
                Option.bind (Ds_NearestAlong r14.1 r14.2) fun r16 =>
                if (r15.2 == r16.2) = true then
                  some (.inr ((r15.1 : Int) == r16.1))
                else
                  some (.inr false)
              else
                some (.inr false)
          else
            some (.inr false)
noncomputable def Dw_FnRings (a0 : (List Int)) (a1 : (List Int)) : Option (Bool) :=
  Option.bind (Dw_big a0 a1) fun r1 =>
  if r1 = true then
    some true
  else
    Option.bind (Ds_DrawRingOf a0) fun r3 =>
    Option.bind (Di_RingOf r3.1 r3.2) fun r4 =>
    Option.bind (Ds_RingOf r3.1 r3.2) fun r5 =>
    if (!(r4.2 == r5.2)) = true then
      some false
    else
      Option.bind (Dw_pSameHexes r4.1 r5.1) fun r7 =>
      if r7 = true then
        loop Bw_FnRings (.h1 a1 r3.2 r5.1 ((r5.1.length : Nat) : Int) 0 r3.1)
      else
        some false
end Go.Proofs.YtlniejjcejackaaDoor.Ab
