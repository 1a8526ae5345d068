/- Part of the proof of FnPlacesCard: no condition of its own. -/
import Derived.Test.YtfnhclmdobdkbaaDoorAb4
set_option linter.unusedVariables false
set_option linter.unusedSimpArgs false
open Go
namespace Go.Proofs.YtfnhclmdobdkbaaDoor.Ab
structure Gi_Map where
  mk ::
  Width : Int
  Height : Int
  Terrain : (List Int)
  Rivers : (List Int)
  Roads : (List Int)
def gi_Map (x : Gi_Map) : D := .agg [I x.Width, I x.Height, sl 1 I x.Terrain, sl 1 I x.Rivers, sl 1 I x.Roads]
structure Gi_Hex where
  mk ::
  Q : Int
  R : Int
def gi_Hex (x : Gi_Hex) : D := .agg [I x.Q, I x.R]
structure Gs_l1Cur where
  mk ::
  code : (List Int)
  at_ : Int
  seed : Int
def gs_l1Cur (x : Gs_l1Cur) : D := .agg [sl 1 (D.int .u8) x.code, I x.at_, .int .u64 x.seed]
def gv0 : List Gi_Hex := [⟨1, 0⟩, ⟨1, (-1)⟩, ⟨0, (-1)⟩, ⟨(-1), 0⟩, ⟨(-1), 1⟩, ⟨0, 1⟩]
def gc0 : List D := [.agg (gv0.flatMap fun y => (gi_Hex y).cells)]
/-! loop example/g00886/laws big -/
noncomputable def Dw_big (a0 : (List Int)) (a1 : (List Int)) : Option (Bool) :=
  if ((a0.length : Nat) : Int) > 1048576 then
    some true
  else
    some (decide (((a1.length : Nat) : Int) > (IntKind.wrap .i64 (1048576 - ((a0.length : Nat) : Int)))))
/-!   loop example/g00886/spec l1Cur  next -/
noncomputable def Ds_l1Cur_next (a0 : Gs_l1Cur) : Option (Int × Gs_l1Cur) :=
  if a0.at_ < ((a0.code.length : Nat) : Int) then
    if 0 ≤ a0.at_ then
      Option.bind (a0.code[(Int.toNat a0.at_)]?) fun x3 =>
      if (IntKind.wrap .i64 (a0.at_ + 1)) ≤ ((a0.code.length : Nat) : Int) then
        some ((IntKind.wrap .i64 x3), (Gs_l1Cur.mk a0.code (IntKind.wrap .i64 (a0.at_ + 1)) (IntKind.wrap .u64 ((IntKind.wrap .u64 ((IntKind.wrap .u64 (a0.seed * 6364136223846793005)) + (IntKind.wrap .u64 (IntKind.wrap .i64 x3)))) + 1442695040888963407))))
      else
        some ((IntKind.wrap .i64 (IntKind.wrap .u64 ((BitVec.toNat (BitVec.ofInt (IntKind.bits .u64) (Int.fdiv (IntKind.wrap .u64 ((IntKind.wrap .u64 ((IntKind.wrap .u64 (a0.seed * 6364136223846793005)) + (IntKind.wrap .u64 (IntKind.wrap .i64 x3)))) + 1442695040888963407)) (2 ^ min (Int.toNat 40) (IntKind.bits .u64))) &&& BitVec.ofInt (IntKind.bits .u64) 255) : Nat) : Int))), (Gs_l1Cur.mk a0.code (IntKind.wrap .i64 (a0.at_ + 1)) (IntKind.wrap .u64 ((IntKind.wrap .u64 ((IntKind.wrap .u64 (a0.seed * 6364136223846793005)) + (IntKind.wrap .u64 (IntKind.wrap .i64 x3)))) + 1442695040888963407))))
    else none
  else
    if (IntKind.wrap .i64 (a0.at_ + 1)) ≤ ((a0.code.length : Nat) : Int) then
      some (0, (Gs_l1Cur.mk a0.code (IntKind.wrap .i64 (a0.at_ + 1)) (IntKind.wrap .u64 ((IntKind.wrap .u64 ((IntKind.wrap .u64 (a0.seed * 6364136223846793005)) + (IntKind.wrap .u64 0))) + 1442695040888963407))))
    else
      some ((IntKind.wrap .i64 (IntKind.wrap .u64 ((BitVec.toNat (BitVec.ofInt (IntKind.bits .u64) (Int.fdiv (IntKind.wrap .u64 ((IntKind.wrap .u64 ((IntKind.wrap .u64 (a0.seed * 6364136223846793005)) + (IntKind.wrap .u64 0))) + 1442695040888963407)) (2 ^ min (Int.toNat 40) (IntKind.bits .u64))) &&& BitVec.ofInt (IntKind.bits .u64) 255) : Nat) : Int))), (Gs_l1Cur.mk a0.code (IntKind.wrap .i64 (a0.at_ + 1)) (IntKind.wrap .u64 ((IntKind.wrap .u64 ((IntKind.wrap .u64 (a0.seed * 6364136223846793005)) + (IntKind.wrap .u64 0))) + 1442695040888963407))))
/-!   loop example/g00886/spec l1Cur  pick -/
noncomputable def Ds_l1Cur_pick (a0 : Gs_l1Cur) (a1 : Int) : Option (Int × Gs_l1Cur) :=
  if a1 ≤ 1 then
    some (0, a0)
  else
    Option.bind (Ds_l1Cur_next a0) fun r2 =>
    if a1 > 200 then
      Option.bind (Ds_l1Cur_next r2.2) fun r4 =>
      if ¬ a1 = 0 then
        some ((Int.tmod (IntKind.wrap .i64 ((IntKind.wrap .i64 (r2.1 * 256)) + r4.1)) a1), r4.2)
      else none
    else
      if ¬ a1 = 0 then
        some ((Int.tmod r2.1 a1), r2.2)
      else none
/-! loop example/g00886/spec mSize -/
noncomputable def Ds_mSize (a0 : Gi_Map) : Option (Int) :=
  some (IntKind.wrap .i64 (a0.Width * a0.Height))
/-!   loop example/g00886/spec l1Cur  one -/
noncomputable def Ds_l1Cur_one (a0 : Gs_l1Cur) (a1 : Int) : Option (Bool × Gs_l1Cur) :=
  Option.bind (Ds_l1Cur_pick a0 a1) fun r1 =>
  some (((r1.1 : Int) == 0), r1.2)
/-! loop example/g00886/spec mHex -/
noncomputable def Ds_mHex (a0 : Gi_Map) (a1 : Int) : Option (Gi_Hex) :=
  if ¬ a0.Width = 0 then
    if ¬ a0.Width = 0 then
      some (Gi_Hex.mk (Int.tmod a1 a0.Width) (IntKind.wrap .i64 (Int.tdiv a1 a0.Width)))
    else none
  else none
/-! loop example/g00886/spec hStep -/
noncomputable def Ds_hStep (a0 : Gi_Hex) (a1 : Int) : Option (Gi_Hex) :=
  if 0 ≤ a1 then
    Option.bind ([1, 1, 0, (-1), (-1), 0][(Int.toNat a1)]?) fun x2 =>
    if 0 ≤ a1 then
      Option.bind ([0, (-1), (-1), 0, 1, 1][(Int.toNat a1)]?) fun x4 =>
      some (Gi_Hex.mk (IntKind.wrap .i64 (a0.Q + x2)) (IntKind.wrap .i64 (a0.R + x4)))
    else none
  else none
/-! loop example/g00886/spec l1In -/
noncomputable def Ds_l1In (a0 : Int) (a1 : Int) (a2 : Int) : Option (Bool) :=
  if a0 ≥ a1 then
    some (decide (a0 ≤ a2))
  else
    some false
/-! loop example/g00886/spec mIndex -/
noncomputable def Ds_mIndex (a0 : Gi_Map) (a1 : Gi_Hex) : Option (Int) :=
  Option.bind (Ds_l1In a1.Q 0 (IntKind.wrap .i64 (a0.Width - 1))) fun r1 =>
  if r1 = true then
    Option.bind (Ds_l1In a1.R 0 (IntKind.wrap .i64 (a0.Height - 1))) fun r3 =>
    if r3 = true then
      some (IntKind.wrap .i64 ((IntKind.wrap .i64 (a1.R * a0.Width)) + a1.Q))
    else
      some (-1)
  else
    some (-1)
/-! loop example/g00886/spec mNext -/
noncomputable def Ds_mNext (a0 : Gi_Map) (a1 : Int) (a2 : Int) : Option (Int) :=
  Option.bind (Ds_mHex a0 a1) fun r1 =>
  Option.bind (Ds_hStep r1 a2) fun r2 =>
  Option.bind (Ds_mIndex a0 r2) fun r3 =>
  some r3
/-! loop example/g00886/spec mEdge -/
noncomputable def Ds_mEdge (a0 : Gi_Map) (a1 : Int) (a2 : Int) : Option (Int) :=
  if a2 < 3 then
    some (IntKind.wrap .i64 ((IntKind.wrap .i64 (3 * a1)) + a2))
  else
    Option.bind (Ds_mNext a0 a1 a2) fun r2 =>
    some (IntKind.wrap .i64 ((IntKind.wrap .i64 ((IntKind.wrap .i64 (3 * r2)) + a2)) - 3))
/-! loop example/g00886/spec l1Put -/
inductive Ss_l1Put_c0 where
  | h1 (n0 : Int) (k1 : Int) (l2 : (List Int))
noncomputable def Bs_l1Put_c0 : Ss_l1Put_c0 → Option (Ss_l1Put_c0 ⊕ ((List Int)))
  | .h1 n0 k1 l2 =>
    if k1 < ((l2.length : Nat) : Int) then
      if 0 ≤ k1 then
        Option.bind (l2[(Int.toNat k1)]?) fun x3 =>
        if x3 < n0 then
          some (.inl (.h1 n0 (IntKind.wrap .i64 (k1 + 1)) l2))
        else
          if k1 < ((l2.length : Nat) : Int) then
            if 0 ≤ k1 then
              Option.bind (l2[(Int.toNat k1)]?) fun x7 =>
              if (x7 : Int) = n0 then
                some (.inr l2)
              else
                if (0 : Int) ≤ k1 then
                  if (k1 : Int) ≤ ((l2.length : Nat) : Int) then
                    if (List.take ((Int.toNat k1) - 0) (List.drop 0 l2)).length * 8 ≤ 70368744177664 then
                      if ((List.take ((Int.toNat k1) - 0) (List.drop 0 l2)) ++ [n0]).length * 8 ≤ 70368744177664 then
                        if (0 : Int) ≤ k1 then
                          if (k1 : Int) ≤ ((l2.length : Nat) : Int) then
                            if (((List.take ((Int.toNat k1) - 0) (List.drop 0 l2)) ++ [n0]) ++ (List.take (l2.length - (Int.toNat k1)) (List.drop (Int.toNat k1) l2))).length * 8 ≤ 70368744177664 then
                              some (.inr (((List.take ((Int.toNat k1) - 0) (List.drop 0 l2)) ++ [n0]) ++ (List.take (l2.length - (Int.toNat k1)) (List.drop (Int.toNat k1) l2))))
                            else none
                          else none
                        else none
                      else none
                    else none
                  else none
                else none
            else none
          else
            if (0 : Int) ≤ k1 then
              if (k1 : Int) ≤ ((l2.length : Nat) : Int) then
                if (List.take ((Int.toNat k1) - 0) (List.drop 0 l2)).length * 8 ≤ 70368744177664 then
                  if ((List.take ((Int.toNat k1) - 0) (List.drop 0 l2)) ++ [n0]).length * 8 ≤ 70368744177664 then
                    if (0 : Int) ≤ k1 then
                      if (k1 : Int) ≤ ((l2.length : Nat) : Int) then
                        if (((List.take ((Int.toNat k1) - 0) (List.drop 0 l2)) ++ [n0]) ++ (List.take (l2.length - (Int.toNat k1)) (List.drop (Int.toNat k1) l2))).length * 8 ≤ 70368744177664 then
                          some (.inr (((List.take ((Int.toNat k1) - 0) (List.drop 0 l2)) ++ [n0]) ++ (List.take (l2.length - (Int.toNat k1)) (List.drop (Int.toNat k1) l2))))
                        else none
                      else none
                    else none
                  else none
                else none
              else none
            else none
      else none
    else
      if k1 < ((l2.length : Nat) : Int) then
        if 0 ≤ k1 then
          Option.bind (l2[(Int.toNat k1)]?) fun x4 =>
          if (x4 : Int) = n0 then
            some (.inr l2)
          else
            if (0 : Int) ≤ k1 then
              if (k1 : Int) ≤ ((l2.length : Nat) : Int) then
                if (List.take ((Int.toNat k1) - 0) (List.drop 0 l2)).length * 8 ≤ 70368744177664 then
                  if ((List.take ((Int.toNat k1) - 0) (List.drop 0 l2)) ++ [n0]).length * 8 ≤ 70368744177664 then
                    if (0 : Int) ≤ k1 then
                      if (k1 : Int) ≤ ((l2.length : Nat) : Int) then
                        if (((List.take ((Int.toNat k1) - 0) (List.drop 0 l2)) ++ [n0]) ++ (List.take (l2.length - (Int.toNat k1)) (List.drop (Int.toNat k1) l2))).length * 8 ≤ 70368744177664 then
                          some (.inr (((List.take ((Int.toNat k1) - 0) (List.drop 0 l2)) ++ [n0]) ++ (List.take (l2.length - (Int.toNat k1)) (List.drop (Int.toNat k1) l2))))
                        else none
                      else none
                    else none
                  else none
                else none
              else none
            else none
        else none
      else
        if (0 : Int) ≤ k1 then
          if (k1 : Int) ≤ ((l2.length : Nat) : Int) then
            if (List.take ((Int.toNat k1) - 0) (List.drop 0 l2)).length * 8 ≤ 70368744177664 then
              if ((List.take ((Int.toNat k1) - 0) (List.drop 0 l2)) ++ [n0]).length * 8 ≤ 70368744177664 then
                if (0 : Int) ≤ k1 then
                  if (k1 : Int) ≤ ((l2.length : Nat) : Int) then
                    if (((List.take ((Int.toNat k1) - 0) (List.drop 0 l2)) ++ [n0]) ++ (List.take (l2.length - (Int.toNat k1)) (List.drop (Int.toNat k1) l2))).length * 8 ≤ 70368744177664 then
                      some (.inr (((List.take ((Int.toNat k1) - 0) (List.drop 0 l2)) ++ [n0]) ++ (List.take (l2.length - (Int.toNat k1)) (List.drop (Int.toNat k1) l2))))
                    else none
                  else none
                else none
              else none
            else none
          else none
        else none
noncomputable def Ds_l1Put_c0 (a0 : (List Int)) (a1 : Int) : Option ((List Int)) :=
  loop Bs_l1Put_c0 (.h1 a1 0 a0)
/-!   loop example/g00886/spec l1Cur  edges -/
inductive Ss_l1Cur_edges where
  | h1 (k0 : Int) (b1 : Gs_l1Cur) (b2 : Gi_Map) (l3 : (List Int))
noncomputable def Bs_l1Cur_edges : Ss_l1Cur_edges → Option (Ss_l1Cur_edges ⊕ ((List Int) × Gs_l1Cur))
  | .h1 k0 b1 b2 l3 =>
    if k0 > 0 then
      Option.bind (Ds_mSize b2) fun r2 =>
      Option.bind (Ds_l1Cur_pick b1 r2) fun r3 =>
      Option.bind (Ds_l1Cur_pick r3.2 6) fun r4 =>
      Option.bind (Ds_mNext b2 r3.1 r4.1) fun r5 =>
      if r5 ≥ 0 then
        Option.bind (Ds_mEdge b2 r3.1 r4.1) fun r7 =>
        Option.bind (Ds_l1Put_c0 l3 r7) fun r8 =>
        some (.inl (.h1 (IntKind.wrap .i64 (k0 - 1)) r4.2 b2 r8))
      else
        some (.inl (.h1 (IntKind.wrap .i64 (k0 - 1)) r4.2 b2 l3))
    else
      some (.inr (l3, b1))
noncomputable def Ds_l1Cur_edges (a0 : Gs_l1Cur) (a1 : Gi_Map) : Option ((List Int) × Gs_l1Cur) :=
  Option.bind (Ds_l1Cur_pick a0 8) fun r1 =>
  loop Bs_l1Cur_edges (.h1 r1.1 r1.2 a1 ([] : List Int))






/-!   loop example/g00886/spec l1Cur  mapOf -/
inductive Ss_l1Cur_mapOf where
  | h1 (terrains0 : Int) (i1 : Int) (b2 : Gs_l1Cur) (b3 : Int) (b4 : Int) (b5 : Int) (b6 : Int)
  | h2 (terrains0 : Int) (i1 : Int) (b2 : Gs_l1Cur) (b3 : Int) (b4 : Int) (b5 : Int) (b6 : Int) (l7 : (List Int))
noncomputable def Bs_l1Cur_mapOf : Ss_l1Cur_mapOf → Option (Ss_l1Cur_mapOf ⊕ (Gi_Map × Gs_l1Cur))
  | .h1 terrains0 i1 b2 b3 b4 b5 b6 =>
    Option.bind (Ds_mSize (Gi_Map.mk b5 b6 [] [] [])) fun r1 =>
    if i1 < r1 then
      Option.bind (Ds_l1Cur_one b2 3) fun r3 =>
      if r3.1 = true then
        Option.bind (Ds_l1Cur_pick r3.2 terrains0) fun r5 =>
        if [r5.1].length * 8 ≤ 70368744177664 then
          some (.inl (.h2 terrains0 (IntKind.wrap .i64 (i1 + 1)) r5.2 b3 b4 b5 b6 [r5.1]))
        else none
      else
        if [0].length * 8 ≤ 70368744177664 then
          some (.inl (.h2 terrains0 (IntKind.wrap .i64 (i1 + 1)) r3.2 b3 b4 b5 b6 [0]))
        else none
    else
      Option.bind (Ds_l1Cur_edges b2 (Gi_Map.mk b5 b6 [] [] [])) fun r3 =>
      Option.bind (Ds_l1Cur_edges r3.2 (Gi_Map.mk b5 b6 [] r3.1 [])) fun r4 =>
      some (.inr ((Gi_Map.mk b5 b6 [] r3.1 r4.1), r4.2))
  | .h2 terrains0 i1 b2 b3 b4 b5 b6 l7 =>
    Option.bind (Ds_mSize (Gi_Map.mk b5 b6 l7 [] [])) fun r1 =>
    if i1 < r1 then
      Option.bind (Ds_l1Cur_one b2 3) fun r3 =>
      if r3.1 = true then
        Option.bind (Ds_l1Cur_pick r3.2 terrains0) fun r5 =>
        if (l7 ++ [r5.1]).length * 8 ≤ 70368744177664 then
          some (.inl (.h2 terrains0 (IntKind.wrap .i64 (i1 + 1)) r5.2 b3 b4 b5 b6 (l7 ++ [r5.1])))
        else none
      else
        if (l7 ++ [0]).length * 8 ≤ 70368744177664 then
          some (.inl (.h2 terrains0 (IntKind.wrap .i64 (i1 + 1)) r3.2 b3 b4 b5 b6 (l7 ++ [0])))
        else none
    else
      Option.bind (Ds_l1Cur_edges b2 (Gi_Map.mk b5 b6 l7 [] [])) fun r3 =>
      Option.bind (Ds_l1Cur_edges r3.2 (Gi_Map.mk b5 b6 l7 r3.1 [])) fun r4 =>
      some (.inr ((Gi_Map.mk b5 b6 l7 r3.1 r4.1), r4.2))
noncomputable def Ds_l1Cur_mapOf (a0 : Gs_l1Cur) (a1 : Int) : Option (Gi_Map × Gs_l1Cur) :=
  Option.bind (Ds_l1Cur_pick a0 6) fun r1 =>
  Option.bind (Ds_l1Cur_pick r1.2 6) fun r2 =>
  loop Bs_l1Cur_mapOf (.h1 a1 0 r2.2 0 0 (IntKind.wrap .i64 (1 + r1.1)) (IntKind.wrap .i64 (1 + r2.1)))
/-!   loop example/g00886/spec l1Cur  among -/
noncomputable def Ds_l1Cur_among (a0 : Gs_l1Cur) (a1 : (List Int)) : Option (Int × Gs_l1Cur) :=
  Option.bind (Ds_l1Cur_pick a0 ((a1.length : Nat) : Int)) fun r1 =>
  if 0 ≤ r1.1 then
    Option.bind (a1[(Int.toNat r1.1)]?) fun x3 =>
    some (x3, r1.2)
  else none
/-!   loop example/g00886/spec l1Cur  anyMap -/
noncomputable def Ds_l1Cur_anyMap (a0 : Gs_l1Cur) : Option (Gi_Map × Gs_l1Cur) :=
  Option.bind (Ds_l1Cur_mapOf a0 6) fun r1 =>
  Option.bind (Ds_l1Cur_pick r1.2 30) fun r2 =>
  if (r2.1 : Int) = 0 then
    Option.bind (Ds_l1Cur_among r2.2 [0, 10, 11, (IntKind.wrap .i64 (r1.1.Width + 1))]) fun r4 =>
    some ((Gi_Map.mk r4.1 r1.1.Height r1.1.Terrain r1.1.Rivers r1.1.Roads), r4.2)
  else
    if (r2.1 : Int) = 1 then
      Option.bind (Ds_l1Cur_among r2.2 [(-1), 6]) fun r5 =>
      Option.bind (r1.1.Terrain[(Int.toNat 0)]?) fun x6 =>
      some ((Gi_Map.mk r1.1.Width r1.1.Height (List.set r1.1.Terrain (Int.toNat 0) r5.1) r1.1.Rivers r1.1.Roads), r5.2)
    else
      if (r2.1 : Int) = 2 then
        Option.bind (Ds_mSize r1.1) fun r6 =>
        Option.bind (Ds_mSize r1.1) fun r7 =>
        Option.bind (Ds_l1Cur_among r2.2 [0, (IntKind.wrap .i64 (3 * r6)), (IntKind.wrap .i64 ((IntKind.wrap .i64 (3 * r7)) - 1)), (-1)]) fun r8 =>
        if (r1.1.Rivers ++ [r8.1]).length * 8 ≤ 70368744177664 then
          some ((Gi_Map.mk r1.1.Width r1.1.Height r1.1.Terrain (r1.1.Rivers ++ [r8.1]) r1.1.Roads), r8.2)
        else none
      else
        if (r2.1 : Int) = 3 then
          if ([2] ++ r1.1.Roads).length * 8 ≤ 70368744177664 then
            some ((Gi_Map.mk r1.1.Width r1.1.Height r1.1.Terrain r1.1.Rivers ([2] ++ r1.1.Roads)), r2.2)
          else none
        else
          some (r1.1, r2.2)
/-! loop example/g00886/spec l1Most -/
noncomputable def Ds_l1Most (a0 : Int) (a1 : Int) : Option (Int) :=
  if a0 > a1 then
    some a0
  else
    some a1
/-!   loop example/g00886/spec l1Cur  place -/
noncomputable def Ds_l1Cur_place (a0 : Gs_l1Cur) (a1 : Gi_Map) : Option (Int × Gs_l1Cur) :=
  Option.bind (Ds_l1Cur_one a0 20) fun r1 =>
  if r1.1 = true then
    Option.bind (Ds_mSize a1) fun r3 =>
    Option.bind (Ds_l1Cur_among r1.2 [(-1), r3]) fun r4 =>
    some (r4.1, r4.2)
  else
    Option.bind (Ds_mSize a1) fun r3 =>
    Option.bind (Ds_l1Most r3 1) fun r4 =>
    Option.bind (Ds_l1Cur_pick r1.2 r4) fun r5 =>
    some (r5.1, r5.2)
/-! loop example/g00886/spec DrawHexAt -/
noncomputable def Ds_DrawHexAt (a0 : (List Int)) : Option (Gi_Map × Int) :=
  Option.bind (Ds_l1Cur_anyMap (Gs_l1Cur.mk a0 0 0)) fun r1 =>
  Option.bind (Ds_l1Cur_place r1.2 r1.1) fun r2 =>
  some (r1.1, r2.1)
/-! loop example/g00886/impl inRange -/
noncomputable def Di_inRange (a0 : Int) (a1 : Int) (a2 : Int) : Option (Bool) :=
  if a1 ≤ a0 then
    some (decide (a0 ≤ a2))
  else
    some false
/-! loop example/g00886/impl isIndex -/
noncomputable def Di_isIndex (a0 : Int) (a1 : Int) : Option (Bool) :=
  Option.bind (Di_inRange a0 0 (IntKind.wrap .i64 (a1 - 1))) fun r1 =>
  some r1
/-! loop example/g00886/impl increasing -/
inductive Si_increasing where
  | h1 (list0 : (List Int)) (i1 : Int)
noncomputable def Bi_increasing : Si_increasing → Option (Si_increasing ⊕ (Bool))
  | .h1 list0 i1 =>
    if i1 < ((list0.length : Nat) : Int) then
      if 0 ≤ (IntKind.wrap .i64 (i1 - 1)) then
        Option.bind (list0[(Int.toNat (IntKind.wrap .i64 (i1 - 1)))]?) fun x3 =>
        if 0 ≤ i1 then
          Option.bind (list0[(Int.toNat i1)]?) fun x5 =>
          if x3 ≥ x5 then
            some (.inr false)
          else
            some (.inl (.h1 list0 (IntKind.wrap .i64 (i1 + 1))))
        else none
      else none
    else
      some (.inr true)
noncomputable def Di_increasing (a0 : (List Int)) : Option (Bool) :=
  loop Bi_increasing (.h1 a0 1)
/-! loop example/g00886/impl hexOf -/
noncomputable def Di_hexOf (a0 : Gi_Map) (a1 : Int) : Option (Gi_Hex) :=
  if ¬ a0.Width = 0 then
    if ¬ a0.Width = 0 then
      some (Gi_Hex.mk (Int.tmod a1 a0.Width) (IntKind.wrap .i64 (Int.tdiv a1 a0.Width)))
    else none
  else none
/-! loop example/g00886/impl stepBy -/
noncomputable def Di_stepBy (a0 : Gi_Hex) (a1 : Int) (a2 : Int) : Option (Gi_Hex) :=
  if 0 ≤ a1 then
    Option.bind (gv0[Int.toNat a1]?) fun x2 =>
    if 0 ≤ a1 then
      Option.bind (gv0[Int.toNat a1]?) fun x4 =>
      some (Gi_Hex.mk (IntKind.wrap .i64 (a0.Q + (IntKind.wrap .i64 (a2 * x2.Q)))) (IntKind.wrap .i64 (a0.R + (IntKind.wrap .i64 (a2 * x4.R)))))
    else none
  else none
/-! loop example/g00886/impl indexOf -/
noncomputable def Di_indexOf (a0 : Gi_Map) (a1 : Gi_Hex) : Option (Int) :=
  Option.bind (Di_isIndex a1.Q a0.Width) fun r1 =>
  if r1 = true then
    Option.bind (Di_isIndex a1.R a0.Height) fun r3 =>
    if r3 = true then
      some (IntKind.wrap .i64 ((IntKind.wrap .i64 (a1.R * a0.Width)) + a1.Q))
    else
      some (-1)
  else
    some (-1)
/-! loop example/g00886/impl nextTo -/
noncomputable def Di_nextTo (a0 : Gi_Map) (a1 : Int) (a2 : Int) : Option (Int) :=
  Option.bind (Di_hexOf a0 a1) fun r1 =>
  Option.bind (Di_stepBy r1 a2 1) fun r2 =>
  Option.bind (Di_indexOf a0 r2) fun r3 =>
  some r3
/-! loop example/g00886/impl isEdge -/
noncomputable def Di_isEdge (a0 : Gi_Map) (a1 : Int) : Option (Bool) :=
  Option.bind (Di_inRange a1 0 (IntKind.wrap .i64 ((IntKind.wrap .i64 ((IntKind.wrap .i64 (3 * a0.Width)) * a0.Height)) - 1))) fun r1 =>
  if r1 = true then
    Option.bind (Di_nextTo a0 (IntKind.wrap .i64 (Int.tdiv a1 3)) (Int.tmod a1 3)) fun r3 =>
    some (decide (r3 ≥ 0))
  else
    some false
/-! loop example/g00886/impl IsMap -/
inductive Si_IsMap where
  | h1 (t0 : (List Int)) (t1 : Int) (t2 : Int) (b3 : Gi_Map)
  | h2 (t0 : Int) (t1 : Int) (b2 : Gi_Map) (l3 : (List (List Int)))
  | h3 (t0 : Int) (t1 : Int) (t2 : (List Int)) (t3 : Int) (t4 : Int) (b5 : Gi_Map) (l6 : (List (List Int)))
noncomputable def Bi_IsMap : Si_IsMap → Option (Si_IsMap ⊕ (Bool))
  | .h1 t0 t1 t2 b3 =>
    if t2 < t1 then
      if 0 ≤ t2 then
        Option.bind (t0[(Int.toNat t2)]?) fun x3 =>
        Option.bind (Di_isIndex x3 6) fun r4 =>
        if r4 = true then
          some (.inl (.h1 t0 t1 (IntKind.wrap .i64 (t2 + 1)) b3))
        else
          some (.inr false)
      else none
    else
      some (.inl (.h2 (([b3.Rivers, b3.Roads].length : Nat) : Int) 0 b3 [b3.Rivers, b3.Roads]))
  | .h2 t0 t1 b2 l3 =>
    if t1 < t0 then
      if 0 ≤ t1 then
        Option.bind (l3[(Int.toNat t1)]?) fun x3 =>
        Option.bind (Di_increasing x3) fun r4 =>
        if r4 = true then
          some (.inl (.h3 t0 t1 x3 ((x3.length : Nat) : Int) 0 b2 l3))
        else
          some (.inr false)
      else none
    else
      some (.inr true)
  | .h3 t0 t1 t2 t3 t4 b5 l6 =>
    if t4 < t3 then
      if 0 ≤ t4 then
        Option.bind (t2[(Int.toNat t4)]?) fun x3 =>
        Option.bind (Di_isEdge b5 x3) fun r4 =>
        if r4 = true then
          some (.inl (.h3 t0 t1 t2 t3 (IntKind.wrap .i64 (t4 + 1)) b5 l6))
        else
          some (.inr false)
      else none
    else
      some (.inl (.h2 t0 (IntKind.wrap .i64 (t1 + 1)) b5 l6))
noncomputable def Di_IsMap (a0 : Gi_Map) : Option (Bool) :=
  Option.bind (Di_inRange a0.Width 1 10) fun r1 =>
  if r1 = true then
    Option.bind (Di_inRange a0.Height 1 10) fun r3 =>
    if r3 = true then
      if (((a0.Terrain.length : Nat) : Int) : Int) = (IntKind.wrap .i64 (a0.Width * a0.Height)) then
        loop Bi_IsMap (.h1 a0.Terrain ((a0.Terrain.length : Nat) : Int) 0 a0)
      else
        some false
    else
      some false
  else
    some false
/-! loop example/g00886/impl isPlace -/
noncomputable def Di_isPlace (a0 : Gi_Map) (a1 : Int) : Option (Bool) :=
  Option.bind (Di_IsMap a0) fun r1 =>
  if r1 = true then
    Option.bind (Di_isIndex a1 (IntKind.wrap .i64 (a0.Width * a0.Height))) fun r3 =>
    some r3
  else
    some false
/-! loop example/g00886/impl HexAt -/
noncomputable def Di_HexAt (a0 : Gi_Map) (a1 : Int) : Option (Gi_Hex × Bool) :=
  Option.bind (Di_isPlace a0 a1) fun r1 =>
  if r1 = true then
    Option.bind (Di_hexOf a0 a1) fun r3 =>
    some (r3, true)
  else
    some ((Gi_Hex.mk 0 0), false)
/-! loop example/g00886/spec l1All -/
inductive Ss_l1All where
  | h1 (lo0 : Int) (vhi1 : Int) (t2 : (List Int)) (t3 : Int) (t4 : Int)
noncomputable def Bs_l1All : Ss_l1All → Option (Ss_l1All ⊕ (Bool))
  | .h1 lo0 vhi1 t2 t3 t4 =>
    if t4 < t3 then
      if 0 ≤ t4 then
        Option.bind (t2[(Int.toNat t4)]?) fun x3 =>
        Option.bind (Ds_l1In x3 lo0 vhi1) fun r4 =>
        if r4 = true then
          some (.inl (.h1 lo0 vhi1 t2 t3 (IntKind.wrap .i64 (t4 + 1))))
        else
          some (.inr false)
      else none
    else
      some (.inr true)
noncomputable def Ds_l1All (a0 : (List Int)) (a1 : Int) (a2 : Int) : Option (Bool) :=
  loop Bs_l1All (.h1 a1 a2 a0 ((a0.length : Nat) : Int) 0)
/-! loop example/g00886/spec l1Rising -/
inductive Ss_l1Rising where
  | h1 (l0 : (List Int)) (lo1 : Int) (vhi2 : Int) (t3 : (List Int)) (t4 : Int) (t5 : Int)
noncomputable def Bs_l1Rising : Ss_l1Rising → Option (Ss_l1Rising ⊕ (Bool))
  | .h1 l0 lo1 vhi2 t3 t4 t5 =>
    if t5 < t4 then
      if 0 ≤ t5 then
        Option.bind (t3[(Int.toNat t5)]?) fun x3 =>
        Option.bind (Ds_l1In x3 lo1 vhi2) fun r4 =>
        if r4 = true then
          if t5 > 0 then
            if 0 ≤ (IntKind.wrap .i64 (t5 - 1)) then
              Option.bind (l0[(Int.toNat (IntKind.wrap .i64 (t5 - 1)))]?) fun x8 =>
              if x8 ≥ x3 then
                some (.inr false)
              else
                some (.inl (.h1 l0 lo1 vhi2 t3 t4 (IntKind.wrap .i64 (t5 + 1))))
            else none
          else
            some (.inl (.h1 l0 lo1 vhi2 t3 t4 (IntKind.wrap .i64 (t5 + 1))))
        else
          some (.inr false)
      else none
    else
      some (.inr true)
noncomputable def Ds_l1Rising (a0 : (List Int)) (a1 : Int) (a2 : Int) : Option (Bool) :=
  loop Bs_l1Rising (.h1 a0 a1 a2 a0 ((a0.length : Nat) : Int) 0)
/-! loop example/g00886/spec mEdges -/
inductive Ss_mEdges where
  | h1 (l0 : (List Int)) (t1 : (List Int)) (t2 : Int) (t3 : Int) (b4 : Gi_Map)
noncomputable def Bs_mEdges : Ss_mEdges → Option (Ss_mEdges ⊕ (Bool))
  | .h1 l0 t1 t2 t3 b4 =>
    if t3 < t2 then
      if 0 ≤ t3 then
        Option.bind (t1[(Int.toNat t3)]?) fun x3 =>
        Option.bind (Ds_mSize b4) fun r4 =>
        Option.bind (Ds_l1In x3 0 (IntKind.wrap .i64 ((IntKind.wrap .i64 (3 * r4)) - 1))) fun r5 =>
        if r5 = true then
          Option.bind (Ds_mNext b4 (IntKind.wrap .i64 (Int.tdiv x3 3)) (Int.tmod x3 3)) fun r7 =>
          if r7 < 0 then
            some (.inr false)
          else
            some (.inl (.h1 l0 t1 t2 (IntKind.wrap .i64 (t3 + 1)) b4))
        else
          some (.inr false)
      else none
    else
      Option.bind (Ds_mSize b4) fun r2 =>
      Option.bind (Ds_l1Rising l0 0 (IntKind.wrap .i64 ((IntKind.wrap .i64 (3 * r2)) - 1))) fun r3 =>
      some (.inr r3)
noncomputable def Ds_mEdges (a0 : Gi_Map) (a1 : (List Int)) : Option (Bool) :=
  loop Bs_mEdges (.h1 a1 a1 ((a1.length : Nat) : Int) 0 a0)
/-! loop example/g00886/spec mGood -/
noncomputable def Ds_mGood (a0 : Gi_Map) : Option (Bool) :=
  Option.bind (Ds_l1In a0.Width 1 10) fun r1 =>
  if r1 = true then
    Option.bind (Ds_l1In a0.Height 1 10) fun r3 =>
    if r3 = true then
      Option.bind (Ds_mSize a0) fun r5 =>
      if (((a0.Terrain.length : Nat) : Int) : Int) = r5 then
        Option.bind (Ds_l1All a0.Terrain 0 5) fun r7 =>
        if r7 = true then
          Option.bind (Ds_mEdges a0 a0.Rivers) fun r9 =>
          if r9 = true then
            Option.bind (Ds_mEdges a0 a0.Roads) fun r11 =>
            some r11
          else
            some false
        else
          some false
      else
        some false
    else
      some false
  else
    some false
/-! loop example/g00886/spec mOn -/
noncomputable def Ds_mOn (a0 : Gi_Map) (a1 : Int) : Option (Bool) :=
  Option.bind (Ds_mGood a0) fun r1 =>
  if r1 = true then
    Option.bind (Ds_mSize a0) fun r3 =>
    Option.bind (Ds_l1In a1 0 (IntKind.wrap .i64 (r3 - 1))) fun r4 =>
    some r4
  else
    some false
/-! loop example/g00886/spec HexAt -/
noncomputable def Ds_HexAt (a0 : Gi_Map) (a1 : Int) : Option (Gi_Hex × Bool) :=
  Option.bind (Ds_mOn a0 a1) fun r1 =>
  if r1 = true then
    Option.bind (Ds_mHex a0 a1) fun r3 =>
    some (r3, true)
  else
    some ((Gi_Hex.mk 0 0), false)
/-! loop example/g00886/impl IndexOf -/
noncomputable def Di_IndexOf (a0 : Gi_Map) (a1 : Gi_Hex) : Option (Int × Bool) :=
  Option.bind (Di_IsMap a0) fun r1 =>
  if r1 = true then
    Option.bind (Di_indexOf a0 a1) fun r3 =>
    if r3 < 0 then
      some (0, false)
    else
      Option.bind (Di_indexOf a0 a1) fun r5 =>
      some (r5, true)
  else
    some (0, false)
/-! loop example/g00886/spec DrawHasRiver -/
noncomputable def Ds_DrawHasRiver (a0 : (List Int)) : Option (Gi_Map × Int × Int) :=
  Option.bind (Ds_l1Cur_anyMap (Gs_l1Cur.mk a0 0 0)) fun r1 =>
  if ((r1.1.Rivers.length : Nat) : Int) > 0 then
    Option.bind (Ds_mGood r1.1) fun r3 =>
    if r3 = true then
      Option.bind (Ds_l1Cur_one r1.2 2) fun r5 =>
      if r5.1 = true then
        Option.bind (Ds_l1Cur_pick r5.2 ((r1.1.Rivers.length : Nat) : Int)) fun r7 =>
        if 0 ≤ r7.1 then
          Option.bind (r1.1.Rivers[(Int.toNat r7.1)]?) fun x9 =>
          some (r1.1, (IntKind.wrap .i64 (Int.tdiv x9 3)), (Int.tmod x9 3))
        else none
      else
        Option.bind (Ds_l1Cur_place r5.2 r1.1) fun r7 =>
        Option.bind (Ds_l1Cur_pick r7.2 6) fun r8 =>
        some (r1.1, r7.1, r8.1)
    else
      Option.bind (Ds_l1Cur_place r1.2 r1.1) fun r5 =>
      Option.bind (Ds_l1Cur_pick r5.2 6) fun r6 =>
      some (r1.1, r5.1, r6.1)
  else
    Option.bind (Ds_l1Cur_place r1.2 r1.1) fun r3 =>
    Option.bind (Ds_l1Cur_pick r3.2 6) fun r4 =>
    some (r1.1, r3.1, r4.1)
/-! loop example/g00886/impl isDirection -/
noncomputable def Di_isDirection (a0 : Int) : Option (Bool) :=
  Option.bind (Di_inRange a0 0 5) fun r1 =>
  some r1
/-! loop example/g00886/impl edgeOf -/
noncomputable def Di_edgeOf (a0 : Gi_Map) (a1 : Int) (a2 : Int) : Option (Int) :=
  Option.bind (Di_nextTo a0 a1 a2) fun r1 =>
  if r1 < 0 then
    some (-1)
  else
    if a2 < 3 then
      some (IntKind.wrap .i64 ((IntKind.wrap .i64 (3 * a1)) + a2))
    else
      some (IntKind.wrap .i64 ((IntKind.wrap .i64 ((IntKind.wrap .i64 (3 * r1)) + a2)) - 3))
/-! loop example/g00886/impl EdgeOf -/
noncomputable def Di_EdgeOf (a0 : Gi_Map) (a1 : Int) (a2 : Int) : Option (Int × Bool) :=
  Option.bind (Di_isPlace a0 a1) fun r1 =>
  if r1 = true then
    Option.bind (Di_isDirection a2) fun r3 =>
    if r3 = true then
      Option.bind (Di_nextTo a0 a1 a2) fun r5 =>
      if r5 < 0 then
        some (0, false)
      else
        Option.bind (Di_edgeOf a0 a1 a2) fun r7 =>
        some (r7, true)
    else
      some (0, false)
  else
    some (0, false)
/-! slices Index   int int  -/
inductive Sslices_Index_int where
  | h1 (s0 : (List Int)) (v1 : Int) (t2 : Int) (t3 : Int)
noncomputable def Bslices_Index_int : Sslices_Index_int → Option (Sslices_Index_int ⊕ (Int))
  | .h1 s0 v1 t2 t3 =>
    if t3 < t2 then
      if 0 ≤ t3 then
        Option.bind (s0[(Int.toNat t3)]?) fun x3 =>
        if (v1 : Int) = x3 then
          some (.inr t3)
        else
          some (.inl (.h1 s0 v1 t2 (IntKind.wrap .i64 (t3 + 1))))
      else none
    else
      some (.inr (-1))
noncomputable def Dslices_Index_int (a0 : (List Int)) (a1 : Int) : Option (Int) :=
  loop Bslices_Index_int (.h1 a0 a1 ((a0.length : Nat) : Int) 0)
/-! slices Contains   int int  -/
noncomputable def Dslices_Contains_int (a0 : (List Int)) (a1 : Int) : Option (Bool) :=
  Option.bind (Dslices_Index_int a0 a1) fun r1 =>
  some (decide (r1 ≥ 0))
/-! loop example/g00886/impl HasRiver -/
noncomputable def Di_HasRiver (a0 : Gi_Map) (a1 : Int) (a2 : Int) : Option (Bool × Bool) :=
  Option.bind (Di_EdgeOf a0 a1 a2) fun r1 =>
  if r1.2 = true then
    Option.bind (Dslices_Contains_int a0.Rivers r1.1) fun r3 =>
    some (r3, true)
  else
    some (false, false)
/-! loop example/g00886/spec mPair -/
noncomputable def Ds_mPair (a0 : Gi_Map) (a1 : Int) (a2 : Int) : Option (Bool) :=
  Option.bind (Ds_mOn a0 a1) fun r1 =>
  if r1 = true then
    Option.bind (Ds_l1In a2 0 5) fun r3 =>
    if r3 = true then
      Option.bind (Ds_mNext a0 a1 a2) fun r5 =>
      some (decide (r5 ≥ 0))
    else
      some false
  else
    some false
/-! loop example/g00886/spec l1Has -/
inductive Ss_l1Has where
  | h1 (n0 : Int) (t1 : (List Int)) (t2 : Int) (t3 : Int)
noncomputable def Bs_l1Has : Ss_l1Has → Option (Ss_l1Has ⊕ (Bool))
  | .h1 n0 t1 t2 t3 =>
    if t3 < t2 then
      if 0 ≤ t3 then
        Option.bind (t1[(Int.toNat t3)]?) fun x3 =>
        if (x3 : Int) = n0 then
          some (.inr true)
        else
          some (.inl (.h1 n0 t1 t2 (IntKind.wrap .i64 (t3 + 1))))
      else none
    else
      some (.inr false)
noncomputable def Ds_l1Has (a0 : (List Int)) (a1 : Int) : Option (Bool) :=
  loop Bs_l1Has (.h1 a1 a0 ((a0.length : Nat) : Int) 0)
/-! loop example/g00886/spec mRiver -/
noncomputable def Ds_mRiver (a0 : Gi_Map) (a1 : Int) (a2 : Int) : Option (Bool) :=
  Option.bind (Ds_mEdge a0 a1 a2) fun r1 =>
  Option.bind (Ds_l1Has a0.Rivers r1) fun r2 =>
  some r2
/-! loop example/g00886/spec HasRiver -/
noncomputable def Ds_HasRiver (a0 : Gi_Map) (a1 : Int) (a2 : Int) : Option (Bool × Bool) :=
  Option.bind (Ds_mPair a0 a1 a2) fun r1 =>
  if r1 = true then
    Option.bind (Ds_mRiver a0 a1 a2) fun r3 =>
    some (r3, true)
  else
    some (false, false)
/-! loop example/g00886/spec DrawHasRoad -/
noncomputable def Ds_DrawHasRoad (a0 : (List Int)) : Option (Gi_Map × Int × Int) :=
  Option.bind (Ds_l1Cur_anyMap (Gs_l1Cur.mk a0 0 0)) fun r1 =>
  if ((r1.1.Roads.length : Nat) : Int) > 0 then
    Option.bind (Ds_mGood r1.1) fun r3 =>
    if r3 = true then
      Option.bind (Ds_l1Cur_one r1.2 2) fun r5 =>
      if r5.1 = true then
        Option.bind (Ds_l1Cur_pick r5.2 ((r1.1.Roads.length : Nat) : Int)) fun r7 =>
        if 0 ≤ r7.1 then
          Option.bind (r1.1.Roads[(Int.toNat r7.1)]?) fun x9 =>
          Option.bind (Ds_mNext r1.1 (IntKind.wrap .i64 (Int.tdiv x9 3)) (Int.tmod x9 3)) fun r10 =>
          some (r1.1, r10, (IntKind.wrap .i64 ((Int.tmod x9 3) + 3)))
        else none
      else
        Option.bind (Ds_l1Cur_place r5.2 r1.1) fun r7 =>
        Option.bind (Ds_l1Cur_pick r7.2 6) fun r8 =>
        some (r1.1, r7.1, r8.1)
    else
      Option.bind (Ds_l1Cur_place r1.2 r1.1) fun r5 =>
      Option.bind (Ds_l1Cur_pick r5.2 6) fun r6 =>
      some (r1.1, r5.1, r6.1)
  else
    Option.bind (Ds_l1Cur_place r1.2 r1.1) fun r3 =>
    Option.bind (Ds_l1Cur_pick r3.2 6) fun r4 =>
    some (r1.1, r3.1, r4.1)
/-! loop example/g00886/impl HasRoad -/
noncomputable def Di_HasRoad (a0 : Gi_Map) (a1 : Int) (a2 : Int) : Option (Bool × Bool) :=
  Option.bind (Di_EdgeOf a0 a1 a2) fun r1 =>
  if r1.2 = true then
    Option.bind (Dslices_Contains_int a0.Roads r1.1) fun r3 =>
    some (r3, true)
  else
    some (false, false)
/-! loop example/g00886/spec mRoad -/
noncomputable def Ds_mRoad (a0 : Gi_Map) (a1 : Int) (a2 : Int) : Option (Bool) :=
  Option.bind (Ds_mEdge a0 a1 a2) fun r1 =>
  Option.bind (Ds_l1Has a0.Roads r1) fun r2 =>
  some r2
/-! loop example/g00886/spec HasRoad -/
noncomputable def Ds_HasRoad (a0 : Gi_Map) (a1 : Int) (a2 : Int) : Option (Bool × Bool) :=
  Option.bind (Ds_mPair a0 a1 a2) fun r1 =>
  if r1 = true then
    Option.bind (Ds_mRoad a0 a1 a2) fun r3 =>
    some (r3, true)
  else
    some (false, false)
/-! loop example/g00886/impl NextTo -/
noncomputable def Di_NextTo (a0 : Gi_Map) (a1 : Int) (a2 : Int) : Option (Int × Bool) :=
  Option.bind (Di_isPlace a0 a1) fun r1 =>
  if r1 = true then
    Option.bind (Di_isDirection a2) fun r3 =>
    if r3 = true then
      Option.bind (Di_nextTo a0 a1 a2) fun r5 =>
      if r5 < 0 then
        some (0, false)
      else
        Option.bind (Di_nextTo a0 a1 a2) fun r7 =>
        some (r7, true)
    else
      some (0, false)
  else
    some (0, false)
/-! loop example/g00886/spec DrawNearOn -/
noncomputable def Ds_DrawNearOn (a0 : (List Int)) : Option (Gi_Map × Int × Int) :=
  Option.bind (Ds_l1Cur_anyMap (Gs_l1Cur.mk a0 0 0)) fun r1 =>
  Option.bind (Ds_l1Cur_place r1.2 r1.1) fun r2 =>
  Option.bind (Ds_l1Cur_among r2.2 [0, 1, 2, 3, 20, 21, (-1)]) fun r3 =>
  some (r1.1, r2.1, r3.1)
/-! loop example/g00886/impl absOf -/
noncomputable def Di_absOf (a0 : Int) : Option (Int) :=
  if a0 < 0 then
    some (IntKind.wrap .i64 (0 - a0))
  else
    some a0
/-! loop example/g00886/impl distance -/
noncomputable def Di_distance (a0 : Gi_Hex) (a1 : Gi_Hex) : Option (Int) :=
  Option.bind (Di_absOf (IntKind.wrap .i64 (a1.Q - a0.Q))) fun r1 =>
  Option.bind (Di_absOf (IntKind.wrap .i64 (a1.R - a0.R))) fun r2 =>
  Option.bind (Di_absOf (IntKind.wrap .i64 ((IntKind.wrap .i64 (a1.Q - a0.Q)) + (IntKind.wrap .i64 (a1.R - a0.R))))) fun r3 =>
  some (IntKind.wrap .i64 (Int.tdiv (IntKind.wrap .i64 ((IntKind.wrap .i64 (r1 + r2)) + r3)) 2))
/-! loop example/g00886/impl NearOn -/
inductive Si_NearOn where
  | h1 (i0 : Int) (vradius1 : Int) (t2 : Int) (t3 : Int) (b4 : Gi_Map) (l5 : (List Int))
noncomputable def Bi_NearOn : Si_NearOn → Option (Si_NearOn ⊕ ((List Int) × Bool))
  | .h1 i0 vradius1 t2 t3 b4 l5 =>
    if t3 < t2 then
      Option.bind (Di_hexOf b4 i0) fun r2 =>
      Option.bind (Di_hexOf b4 t3) fun r3 =>
      Option.bind (Di_distance r2 r3) fun r4 =>
      if r4 ≤ vradius1 then
        if (l5 ++ [t3]).length * 8 ≤ 70368744177664 then
          some (.inl (.h1 i0 vradius1 t2 (IntKind.wrap .i64 (t3 + 1)) b4 (l5 ++ [t3])))
        else none
      else
        some (.inl (.h1 i0 vradius1 t2 (IntKind.wrap .i64 (t3 + 1)) b4 l5))
    else
      some (.inr (l5, true))
noncomputable def Di_NearOn (a0 : Gi_Map) (a1 : Int) (a2 : Int) : Option ((List Int) × Bool) :=
  Option.bind (Di_isPlace a0 a1) fun r1 =>
  if r1 = true then
    Option.bind (Di_inRange a2 0 20) fun r3 =>
    if r3 = true then
      loop Bi_NearOn (.h1 a1 a2 ((a0.Terrain.length : Nat) : Int) 0 a0 ([] : List Int))
    else
      some ([], false)
  else
    some ([], false)
/-! loop example/g00886/spec l1Abs -/
noncomputable def Ds_l1Abs (a0 : Int) : Option (Int) :=
  Option.bind (Ds_l1Most a0 (IntKind.wrap .i64 (0 - a0))) fun r1 =>
  some r1
/-! loop example/g00886/spec hDistance -/
noncomputable def Ds_hDistance (a0 : Gi_Hex) (a1 : Gi_Hex) : Option (Int) :=
  Option.bind (Ds_l1Abs (IntKind.wrap .i64 (a1.Q - a0.Q))) fun r1 =>
  Option.bind (Ds_l1Abs (IntKind.wrap .i64 (a1.R - a0.R))) fun r2 =>
  Option.bind (Ds_l1Abs (IntKind.wrap .i64 ((IntKind.wrap .i64 (a1.Q - a0.Q)) + (IntKind.wrap .i64 (a1.R - a0.R))))) fun r3 =>
  some (IntKind.wrap .i64 (Int.tdiv (IntKind.wrap .i64 ((IntKind.wrap .i64 (r1 + r2)) + r3)) 2))
/-! loop example/g00886/spec mNear -/
inductive Ss_mNear where
  | h1 (i0 : Int) (vradius1 : Int) (k2 : Int) (b3 : Gi_Map) (l4 : (List Int))
noncomputable def Bs_mNear : Ss_mNear → Option (Ss_mNear ⊕ ((List Int)))
  | .h1 i0 vradius1 k2 b3 l4 =>
    Option.bind (Ds_mSize b3) fun r1 =>
    if k2 < r1 then
      Option.bind (Ds_mHex b3 i0) fun r3 =>
      Option.bind (Ds_mHex b3 k2) fun r4 =>
      Option.bind (Ds_hDistance r3 r4) fun r5 =>
      if r5 ≤ vradius1 then
        if (l4 ++ [k2]).length * 8 ≤ 70368744177664 then
          some (.inl (.h1 i0 vradius1 (IntKind.wrap .i64 (k2 + 1)) b3 (l4 ++ [k2])))
        else none
      else
        some (.inl (.h1 i0 vradius1 (IntKind.wrap .i64 (k2 + 1)) b3 l4))
    else
      some (.inr l4)
noncomputable def Ds_mNear (a0 : Gi_Map) (a1 : Int) (a2 : Int) : Option ((List Int)) :=
  loop Bs_mNear (.h1 a1 a2 0 a0 ([] : List Int))
/-! loop example/g00886/spec NearOn -/
noncomputable def Ds_NearOn (a0 : Gi_Map) (a1 : Int) (a2 : Int) : Option ((List Int) × Bool) :=
  Option.bind (Ds_mOn a0 a1) fun r1 =>
  if r1 = true then
    Option.bind (Ds_l1In a2 0 20) fun r3 =>
    if r3 = true then
      Option.bind (Ds_mNear a0 a1 a2) fun r5 =>
      some (r5, true)
    else
      some ([], false)
  else
    some ([], false)
/-! loop example/g00886/laws sameInts -/
inductive Sw_sameInts where
  | h1 (va0 : (List Int)) (b1 : (List Int)) (t2 : Int) (t3 : Int)
noncomputable def Bw_sameInts : Sw_sameInts → Option (Sw_sameInts ⊕ (Bool))
  | .h1 va0 b1 t2 t3 =>
    if t3 < t2 then
      if 0 ≤ t3 then
        Option.bind (va0[(Int.toNat t3)]?) fun x3 =>
        if 0 ≤ t3 then
          Option.bind (b1[(Int.toNat t3)]?) fun x5 =>
          if (x3 : Int) = x5 then
            some (.inl (.h1 va0 b1 t2 (IntKind.wrap .i64 (t3 + 1))))
          else
            some (.inr false)
        else none
      else none
    else
      some (.inr true)
noncomputable def Dw_sameInts (a0 : (List Int)) (a1 : (List Int)) : Option (Bool) :=
  if (((a0.length : Nat) : Int) : Int) = ((a1.length : Nat) : Int) then
    loop Bw_sameInts (.h1 a0 a1 ((a0.length : Nat) : Int) 0)
  else
    some false
/-! loop example/g00886/laws FnPlaces -/
inductive Sw_FnPlaces where
  | h1 (t0 : (List Int))
  | h2 (t0 : (List Int))
noncomputable def Bw_FnPlaces : Sw_FnPlaces → Option (Sw_FnPlaces ⊕ (Bool))
  | .h1 t0 =>
    Option.bind (Ds_DrawHasRiver t0) fun r1 =>
    Option.bind (Di_HasRiver r1.1 r1.2.1 r1.2.2) fun r2 =>
    Option.bind (Ds_HasRiver r1.1 r1.2.1 r1.2.2) fun r3 =>
    if (!(r2.2 == r3.2)) = true then
      some (.inr false)
    else
      if (!(r2.1 == r3.1)) = true then
        some (.inr false)
      else
        Option.bind (Ds_DrawHasRoad t0) fun r6 =>
        Option.bind (Di_HasRoad r6.1 r6.2.1 r6.2.2) fun r7 =>
        if r7.2 = true then
          Option.bind (Ds_HasRoad r6.1 r6.2.1 r6.2.2) fun r9 =>
          if (!(true == r9.2)) = true then
            some (.inr false)
          else
            if (!(r7.1 == r9.1)) = true then
              some (.inr false)
            else
              Option.bind (Di_NextTo r6.1 r6.2.1 r6.2.2) fun r12 =>
              if r12.2 = true then
                Option.bind (Di_HasRoad r6.1 r12.1 (Int.tmod (IntKind.wrap .i64 (r6.2.2 + 3)) 6)) fun r14 =>
                if r14.2 = true then
                  if (!(r14.1 == r9.1)) = true then
                    some (.inr false)
                  else
                    some (.inl (.h2 t0))
                else
                  some (.inr false)
              else
                Option.bind (Di_HasRoad r6.1 r12.1 (Int.tmod (IntKind.wrap .i64 (r6.2.2 + 3)) 6)) fun r14 =>
                some (.inr false)
        else
          Option.bind (Ds_HasRoad r6.1 r6.2.1 r6.2.2) fun r9 =>
          if (!(false == r9.2)) = true then
            some (.inr false)
          else
            if (!(r7.1 == r9.1)) = true then
              some (.inr false)
            else
              some (.inl (.h2 t0))
  | .h2 t0 =>
    Option.bind (Ds_DrawNearOn t0) fun r1 =>
    Option.bind (Di_NearOn r1.1 r1.2.1 r1.2.2) fun r2 =>
    Option.bind (Ds_NearOn r1.1 r1.2.1 r1.2.2) fun r3 =>
    if (r2.2 == r3.2) = true then
      Option.bind (Dw_sameInts r2.1 r3.1) fun r5 =>
      some (.inr r5)
    else
      some (.inr false)
noncomputable def Dw_FnPlaces (a0 : (List Int)) (a1 : (List Int)) : Option (Bool) :=
  Option.bind (Dw_big a0 a1) fun r1 =>
  if r1 = true then
    some true
  else
    Option.bind (Ds_DrawHexAt a0) fun r3 =>
    Option.bind (Di_HexAt r3.1 r3.2) fun r4 =>
    if r4.2 = true then
      Option.bind (Ds_HexAt r3.1 r3.2) fun r6 =>
      if (!(true == r6.2)) = true then
        some false
      else
        if (!((r4.1.Q == r6.1.Q) && (r4.1.R == r6.1.R))) = true then
          some false
        else
          Option.bind (Di_IndexOf r3.1 r4.1) fun r9 =>
          if r9.2 = true then
            if (r9.1 : Int) = r3.2 then
              loop Bw_FnPlaces (.h1 a1)
            else
              some false
          else
            some false
    else
      Option.bind (Ds_HexAt r3.1 r3.2) fun r6 =>
      if (!(false == r6.2)) = true then
        some false
      else
        if (!((r4.1.Q == r6.1.Q) && (r4.1.R == r6.1.R))) = true then
          some false
        else
          loop Bw_FnPlaces (.h1 a1)
end Go.Proofs.YtfnhclmdobdkbaaDoor.Ab
