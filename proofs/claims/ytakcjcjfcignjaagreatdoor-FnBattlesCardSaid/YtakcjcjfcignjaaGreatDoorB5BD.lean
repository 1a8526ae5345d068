/- Part of the proof of FnBattlesCard: no condition of its own. -/
import Derived.Test.YtakcjcjfcignjaaGreatDoorAb4
set_option linter.unusedVariables false
set_option linter.unusedSimpArgs false
open Go
namespace Go.Proofs.YtakcjcjfcignjaaGreatDoor.Ab
structure Gi_Terrain where
  mk ::
  Name : ByteArray
  Cost : (List Int)
  Shift : Int
  Height : Int
  Blocks : Bool
def gi_Terrain (x : Gi_Terrain) : D := .agg [.str x.Name, sl 1 I x.Cost, I x.Shift, I x.Height, .bool x.Blocks]
def goi_Terrain (x : Gi_Terrain) : D := .agg [.str x.Name, ow 1 I x.Cost, I x.Shift, I x.Height, .bool x.Blocks]
structure Gi_Kind where
  mk ::
  Name : ByteArray
  Strength : Int
  Moves : Int
  Steps : Int
  Zone : Bool
  View : Int
def gi_Kind (x : Gi_Kind) : D := .agg [.str x.Name, I x.Strength, I x.Moves, I x.Steps, .bool x.Zone, I x.View]
structure Gi_Rules where
  mk ::
  Terrains : (List Gi_Terrain)
  Kinds : (List Gi_Kind)
  Stack : Int
  River : Int
  Road : Int
  Supply : Int
  Turns : Int
def gi_Rules (x : Gi_Rules) : D := .agg [sl 5 gi_Terrain x.Terrains, sl 6 gi_Kind x.Kinds, I x.Stack, I x.River, I x.Road, I x.Supply, I x.Turns]
structure Gi_Map where
  mk ::
  Width : Int
  Height : Int
  Terrain : (List Int)
  Rivers : (List Int)
  Roads : (List Int)
def gi_Map (x : Gi_Map) : D := .agg [I x.Width, I x.Height, sl 1 I x.Terrain, sl 1 I x.Rivers, sl 1 I x.Roads]
structure Gi_Board where
  mk ::
  Rules : Gi_Rules
  Map : Gi_Map
def gi_Board (x : Gi_Board) : D := .agg [sl 5 gi_Terrain x.Rules.Terrains, sl 6 gi_Kind x.Rules.Kinds, I x.Rules.Stack, I x.Rules.River, I x.Rules.Road, I x.Rules.Supply, I x.Rules.Turns, I x.Map.Width, I x.Map.Height, sl 1 I x.Map.Terrain, sl 1 I x.Map.Rivers, sl 1 I x.Map.Roads]
structure Gi_Unit where
  mk ::
  Side : Int
  Kind : Int
  At : Int
  Steps : Int
def gi_Unit (x : Gi_Unit) : D := .agg [I x.Side, I x.Kind, I x.At, I x.Steps]
structure Gi_State where
  mk ::
  Turn : Int
  Weather : Int
  Units : (List Gi_Unit)
def gi_State (x : Gi_State) : D := .agg [I x.Turn, I x.Weather, sl 4 gi_Unit x.Units]
structure Gi_Attack where
  mk ::
  Unit : Int
  At : Int
def gi_Attack (x : Gi_Attack) : D := .agg [I x.Unit, I x.At]
structure Gi_Battle where
  mk ::
  At : Int
  Attackers : (List Int)
  Defenders : (List Int)
def gi_Battle (x : Gi_Battle) : D := .agg [I x.At, sl 1 I x.Attackers, sl 1 I x.Defenders]
def goi_Battle (x : Gi_Battle) : D := .agg [I x.At, ow 1 I x.Attackers, ow 1 I x.Defenders]
structure Gs_l1Cur where
  mk ::
  code : (List Int)
  at_ : Int
  seed : Int
def gs_l1Cur (x : Gs_l1Cur) : D := .agg [sl 1 (D.int .u8) x.code, I x.at_, .int .u64 x.seed]
structure Gi_Hex where
  mk ::
  Q : Int
  R : Int
def gi_Hex (x : Gi_Hex) : D := .agg [I x.Q, I x.R]
structure GA6i_Hex where
  mk ::
  c0 : Gi_Hex
  c1 : Gi_Hex
  c2 : Gi_Hex
  c3 : Gi_Hex
  c4 : Gi_Hex
  c5 : Gi_Hex
def gA6i_Hex (x : GA6i_Hex) : D := .agg [I x.c0.Q, I x.c0.R, I x.c1.Q, I x.c1.R, I x.c2.Q, I x.c2.R, I x.c3.Q, I x.c3.R, I x.c4.Q, I x.c4.R, I x.c5.Q, I x.c5.R]
structure GA2I where
  mk ::
  c0 : Int
  c1 : Int
def gA2I (x : GA2I) : D := .agg [I x.c0, I x.c1]
def gv0 : List Gi_Hex := [⟨1, 0⟩, ⟨1, (-1)⟩, ⟨0, (-1)⟩, ⟨(-1), 0⟩, ⟨(-1), 1⟩, ⟨0, 1⟩]
def gc0 : List D := [.agg (gv0.flatMap fun y => (gi_Hex y).cells)]
/-!   loop example/g00886/spec l1Cur  next -/
noncomputable def Ds_l1Cur_next (a0 : Gs_l1Cur) : Option (Int × Gs_l1Cur) :=
  if a0.at_ < ((a0.code.length : Nat) : Int) then
    if 0 ≤ a0.at_ then
      Option.bind (a0.code[(Int.toNat a0.at_)]?) fun x3 =>
      if (IntKind.wrap .i64 (a0.at_ + 1)) ≤ ((a0.code.length : Nat) : Int) then
        some ((IntKind.wrap .i64 x3), (Gs_l1Cur.mk a0.code (IntKind.wrap .i64 (a0.at_ + 1)) (IntKind.wrap .u64 ((IntKind.wrap .u64 ((IntKind.wrap .u64 (a0.seed * 6364136223846793005)) + (IntKind.wrap .u64 (IntKind.wrap .i64 x3)))) + 1442695040888963407))))
      else
        some ((IntKind.wrap .i64 (IntKind.wrap .u64 ((BitVec.toNat (BitVec.ofInt (IntKind.bits .u64) (Int.fdiv (IntKind.wrap .u64 ((IntKind.wrap .u64 ((IntKind.wrap .u64 (a0.seed * 6364136223846793005)) + (IntKind.wrap .u64 (IntKind.wrap .i64 x3)))) + 1442695040888963407)) (2 ^ min (Int.toNat 40) (IntKind.bits .u64))) &&& BitVec.ofInt (IntKind.bits .u64) 255) : Nat) : Int))), (Gs_l1Cur.mk a0.code (IntKind.wrap .i64 (a0.at_ + 1)) (IntKind.wrap .u64 ((IntKind.wrap .u64 ((IntKind.wrap .u64 (a0.seed * 6364136223846793005)) + (IntKind.wrap .u64 (IntKind.wrap .i64 x3)))) + 1442695040888963407))))
    else none
  else
    if (IntKind.wrap .i64 (a0.at_ + 1)) ≤ ((a0.code.length : Nat) : Int) then
      some (0, (Gs_l1Cur.mk a0.code (IntKind.wrap .i64 (a0.at_ + 1)) (IntKind.wrap .u64 ((IntKind.wrap .u64 ((IntKind.wrap .u64 (a0.seed * 6364136223846793005)) + (IntKind.wrap .u64 0))) + 1442695040888963407))))
    else
      some ((IntKind.wrap .i64 (IntKind.wrap .u64 ((BitVec.toNat (BitVec.ofInt (IntKind.bits .u64) (Int.fdiv (IntKind.wrap .u64 ((IntKind.wrap .u64 ((IntKind.wrap .u64 (a0.seed * 6364136223846793005)) + (IntKind.wrap .u64 0))) + 1442695040888963407)) (2 ^ min (Int.toNat 40) (IntKind.bits .u64))) &&& BitVec.ofInt (IntKind.bits .u64) 255) : Nat) : Int))), (Gs_l1Cur.mk a0.code (IntKind.wrap .i64 (a0.at_ + 1)) (IntKind.wrap .u64 ((IntKind.wrap .u64 ((IntKind.wrap .u64 (a0.seed * 6364136223846793005)) + (IntKind.wrap .u64 0))) + 1442695040888963407))))
/-!   loop example/g00886/spec l1Cur  pick -/
noncomputable def Ds_l1Cur_pick (a0 : Gs_l1Cur) (a1 : Int) : Option (Int × Gs_l1Cur) :=
  if a1 ≤ 1 then
    some (0, a0)
  else
    Option.bind (Ds_l1Cur_next a0) fun r2 =>
    if a1 > 200 then
      Option.bind (Ds_l1Cur_next r2.2) fun r4 =>
      if ¬ a1 = 0 then
        some ((Int.tmod (IntKind.wrap .i64 ((IntKind.wrap .i64 (r2.1 * 256)) + r4.1)) a1), r4.2)
      else none
    else
      if ¬ a1 = 0 then
        some ((Int.tmod r2.1 a1), r2.2)
      else none
/-!   loop example/g00886/spec l1Cur  one -/
noncomputable def Ds_l1Cur_one (a0 : Gs_l1Cur) (a1 : Int) : Option (Bool × Gs_l1Cur) :=
  Option.bind (Ds_l1Cur_pick a0 a1) fun r1 =>
  some (((r1.1 : Int) == 0), r1.2)
/-!   loop example/g00886/spec l1Cur  rules -/
inductive Ss_l1Cur_rules where
  | h1 (t0 : Int) (b1 : Gs_l1Cur) (b2 : Int) (b3 : Int) (b4 : Int) (b5 : Int) (b6 : Int) (b7 : Int) (b8 : Int) (b9 : Int) (b10 : Int) (b11 : Int) (l12 : (List ByteArray)) (l13 : (List Gi_Kind))
  | h2 (t0 : Int) (t1 : Int) (t2 : Int) (b3 : Gs_l1Cur) (b4 : Int) (b5 : Int) (b6 : Int) (b7 : Int) (b8 : Int) (b9 : Int) (b10 : Int) (b11 : Int) (b12 : Int) (b13 : Int) (l14 : (List ByteArray)) (b15 : ByteArray) (b16 : Int) (b17 : Int) (b18 : Bool) (l19 : (List Gi_Kind))
  | h3 (t0 : Int) (t1 : Int) (t2 : Int) (b3 : Gs_l1Cur) (b4 : Int) (b5 : Int) (b6 : Int) (b7 : Int) (b8 : Int) (b9 : Int) (b10 : Int) (b11 : Int) (b12 : Int) (b13 : Int) (l14 : (List ByteArray)) (b15 : ByteArray) (b16 : Int) (b17 : Int) (b18 : Bool) (l19 : (List Gi_Kind)) (l20 : (List Int))
  | h4 (t0 : Int) (b1 : Gs_l1Cur) (b2 : Int) (b3 : Int) (b4 : Int) (b5 : Int) (b6 : Int) (b7 : Int) (b8 : Int) (b9 : Int) (b10 : Int) (b11 : Int) (l12 : (List ByteArray)) (l13 : (List Gi_Terrain)) (l14 : (List Gi_Kind))
  | h5 (t0 : Int) (t1 : Int) (t2 : Int) (b3 : Gs_l1Cur) (b4 : Int) (b5 : Int) (b6 : Int) (b7 : Int) (b8 : Int) (b9 : Int) (b10 : Int) (b11 : Int) (b12 : Int) (b13 : Int) (l14 : (List ByteArray)) (b15 : ByteArray) (b16 : Int) (b17 : Int) (b18 : Bool) (l19 : (List Gi_Terrain)) (l20 : (List Gi_Kind))
  | h6 (t0 : Int) (t1 : Int) (t2 : Int) (b3 : Gs_l1Cur) (b4 : Int) (b5 : Int) (b6 : Int) (b7 : Int) (b8 : Int) (b9 : Int) (b10 : Int) (b11 : Int) (b12 : Int) (b13 : Int) (l14 : (List ByteArray)) (b15 : ByteArray) (b16 : Int) (b17 : Int) (b18 : Bool) (l19 : (List Gi_Terrain)) (l20 : (List Gi_Kind)) (l21 : (List Int))
noncomputable def Bs_l1Cur_rules : Ss_l1Cur_rules → Option (Ss_l1Cur_rules ⊕ (Gi_Rules × Gs_l1Cur))
  | .h1 t0 b1 b2 b3 b4 b5 b6 b7 b8 b9 b10 b11 l12 l13 =>
    Option.bind (Ds_l1Cur_pick b1 4) fun r1 =>
    if t0 < (IntKind.wrap .i64 (2 + r1.1)) then
      if (t0 : Int) = ((l12.length : Nat) : Int) then
        some (.inr ((Gi_Rules.mk [] l13 b7 b8 b9 b10 b11), r1.2))
      else
        if 0 ≤ t0 then
          Option.bind (l12[(Int.toNat t0)]?) fun x5 =>
          Option.bind (Ds_l1Cur_pick r1.2 3) fun r6 =>
          Option.bind (Ds_l1Cur_pick r6.2 2) fun r7 =>
          Option.bind (Ds_l1Cur_pick r7.2 3) fun r8 =>
          if t0 > 0 then
            Option.bind (Ds_l1Cur_one r8.2 3) fun r10 =>
            some (.inl (.h2 t0 ((l13.length : Nat) : Int) 0 r10.2 b2 b3 b4 b5 b6 b7 b8 b9 b10 b11 l12 x5 (IntKind.wrap .i64 (r6.1 - 1)) (IntKind.wrap .i64 (r7.1 * r8.1)) r10.1 l13))
          else
            some (.inl (.h2 t0 ((l13.length : Nat) : Int) 0 r8.2 b2 b3 b4 b5 b6 b7 b8 b9 b10 b11 l12 x5 (IntKind.wrap .i64 (r6.1 - 1)) (IntKind.wrap .i64 (r7.1 * r8.1)) false l13))
        else none
    else
      some (.inr ((Gi_Rules.mk [] l13 b7 b8 b9 b10 b11), r1.2))
  | .h2 t0 t1 t2 b3 b4 b5 b6 b7 b8 b9 b10 b11 b12 b13 l14 b15 b16 b17 b18 l19 =>
    if t2 < t1 then
      if t0 > 0 then
        Option.bind (Ds_l1Cur_pick b3 4) fun r3 =>
        if [r3.1].length * 8 ≤ 70368744177664 then
          some (.inl (.h3 t0 t1 (IntKind.wrap .i64 (t2 + 1)) r3.2 b4 b5 b6 b7 b8 b9 b10 b11 b12 b13 l14 b15 b16 b17 b18 l19 [r3.1]))
        else none
      else
        if [1].length * 8 ≤ 70368744177664 then
          some (.inl (.h3 t0 t1 (IntKind.wrap .i64 (t2 + 1)) b3 b4 b5 b6 b7 b8 b9 b10 b11 b12 b13 l14 b15 b16 b17 b18 l19 [1]))
        else none
    else
      if [(Gi_Terrain.mk b15 ([] : List Int) b16 b17 b18)].length * 64 ≤ 70368744177664 then
        some (.inl (.h4 (IntKind.wrap .i64 (t0 + 1)) b3 b4 b5 b6 b7 b8 b9 b10 b11 b12 b13 l14 [(Gi_Terrain.mk b15 ([] : List Int) b16 b17 b18)] l19))
      else none
  | .h3 t0 t1 t2 b3 b4 b5 b6 b7 b8 b9 b10 b11 b12 b13 l14 b15 b16 b17 b18 l19 l20 =>
    if t2 < t1 then
      if t0 > 0 then
        Option.bind (Ds_l1Cur_pick b3 4) fun r3 =>
        if (l20 ++ [r3.1]).length * 8 ≤ 70368744177664 then
          some (.inl (.h3 t0 t1 (IntKind.wrap .i64 (t2 + 1)) r3.2 b4 b5 b6 b7 b8 b9 b10 b11 b12 b13 l14 b15 b16 b17 b18 l19 (l20 ++ [r3.1])))
        else none
      else
        if (l20 ++ [1]).length * 8 ≤ 70368744177664 then
          some (.inl (.h3 t0 t1 (IntKind.wrap .i64 (t2 + 1)) b3 b4 b5 b6 b7 b8 b9 b10 b11 b12 b13 l14 b15 b16 b17 b18 l19 (l20 ++ [1])))
        else none
    else
      if [(Gi_Terrain.mk b15 l20 b16 b17 b18)].length * 64 ≤ 70368744177664 then
        some (.inl (.h4 (IntKind.wrap .i64 (t0 + 1)) b3 b4 b5 b6 b7 b8 b9 b10 b11 b12 b13 l14 [(Gi_Terrain.mk b15 l20 b16 b17 b18)] l19))
      else none
  | .h4 t0 b1 b2 b3 b4 b5 b6 b7 b8 b9 b10 b11 l12 l13 l14 =>
    Option.bind (Ds_l1Cur_pick b1 4) fun r1 =>
    if t0 < (IntKind.wrap .i64 (2 + r1.1)) then
      if (t0 : Int) = ((l12.length : Nat) : Int) then
        some (.inr ((Gi_Rules.mk l13 l14 b7 b8 b9 b10 b11), r1.2))
      else
        if 0 ≤ t0 then
          Option.bind (l12[(Int.toNat t0)]?) fun x5 =>
          Option.bind (Ds_l1Cur_pick r1.2 3) fun r6 =>
          Option.bind (Ds_l1Cur_pick r6.2 2) fun r7 =>
          Option.bind (Ds_l1Cur_pick r7.2 3) fun r8 =>
          if t0 > 0 then
            Option.bind (Ds_l1Cur_one r8.2 3) fun r10 =>
            some (.inl (.h5 t0 ((l14.length : Nat) : Int) 0 r10.2 b2 b3 b4 b5 b6 b7 b8 b9 b10 b11 l12 x5 (IntKind.wrap .i64 (r6.1 - 1)) (IntKind.wrap .i64 (r7.1 * r8.1)) r10.1 l13 l14))
          else
            some (.inl (.h5 t0 ((l14.length : Nat) : Int) 0 r8.2 b2 b3 b4 b5 b6 b7 b8 b9 b10 b11 l12 x5 (IntKind.wrap .i64 (r6.1 - 1)) (IntKind.wrap .i64 (r7.1 * r8.1)) false l13 l14))
        else none
    else
      some (.inr ((Gi_Rules.mk l13 l14 b7 b8 b9 b10 b11), r1.2))
  | .h5 t0 t1 t2 b3 b4 b5 b6 b7 b8 b9 b10 b11 b12 b13 l14 b15 b16 b17 b18 l19 l20 =>
    if t2 < t1 then
      if t0 > 0 then
        Option.bind (Ds_l1Cur_pick b3 4) fun r3 =>
        if [r3.1].length * 8 ≤ 70368744177664 then
          some (.inl (.h6 t0 t1 (IntKind.wrap .i64 (t2 + 1)) r3.2 b4 b5 b6 b7 b8 b9 b10 b11 b12 b13 l14 b15 b16 b17 b18 l19 l20 [r3.1]))
        else none
      else
        if [1].length * 8 ≤ 70368744177664 then
          some (.inl (.h6 t0 t1 (IntKind.wrap .i64 (t2 + 1)) b3 b4 b5 b6 b7 b8 b9 b10 b11 b12 b13 l14 b15 b16 b17 b18 l19 l20 [1]))
        else none
    else
      if (l19 ++ [(Gi_Terrain.mk b15 ([] : List Int) b16 b17 b18)]).length * 64 ≤ 70368744177664 then
        some (.inl (.h4 (IntKind.wrap .i64 (t0 + 1)) b3 b4 b5 b6 b7 b8 b9 b10 b11 b12 b13 l14 (l19 ++ [(Gi_Terrain.mk b15 ([] : List Int) b16 b17 b18)]) l20))
      else none
  | .h6 t0 t1 t2 b3 b4 b5 b6 b7 b8 b9 b10 b11 b12 b13 l14 b15 b16 b17 b18 l19 l20 l21 =>
    if t2 < t1 then
      if t0 > 0 then
        Option.bind (Ds_l1Cur_pick b3 4) fun r3 =>
        if (l21 ++ [r3.1]).length * 8 ≤ 70368744177664 then
          some (.inl (.h6 t0 t1 (IntKind.wrap .i64 (t2 + 1)) r3.2 b4 b5 b6 b7 b8 b9 b10 b11 b12 b13 l14 b15 b16 b17 b18 l19 l20 (l21 ++ [r3.1])))
        else none
      else
        if (l21 ++ [1]).length * 8 ≤ 70368744177664 then
          some (.inl (.h6 t0 t1 (IntKind.wrap .i64 (t2 + 1)) b3 b4 b5 b6 b7 b8 b9 b10 b11 b12 b13 l14 b15 b16 b17 b18 l19 l20 (l21 ++ [1])))
        else none
    else
      if (l19 ++ [(Gi_Terrain.mk b15 l21 b16 b17 b18)]).length * 64 ≤ 70368744177664 then
        some (.inl (.h4 (IntKind.wrap .i64 (t0 + 1)) b3 b4 b5 b6 b7 b8 b9 b10 b11 b12 b13 l14 (l19 ++ [(Gi_Terrain.mk b15 l21 b16 b17 b18)]) l20))
      else none
noncomputable def Ds_l1Cur_rules (a0 : Gs_l1Cur) : Option (Gi_Rules × Gs_l1Cur) :=
  Option.bind (Ds_l1Cur_pick a0 3) fun r1 =>
  Option.bind (Ds_l1Cur_pick r1.2 4) fun r2 =>
  Option.bind (Ds_l1Cur_pick r2.2 3) fun r3 =>
  Option.bind (Ds_l1Cur_pick r3.2 2) fun r4 =>
  Option.bind (Ds_l1Cur_pick r4.2 4) fun r5 =>
  Option.bind (Ds_l1Cur_pick r5.2 6) fun r6 =>
  Option.bind (Ds_l1Cur_pick r6.2 2) fun r7 =>
  Option.bind (Ds_l1Cur_one r7.2 2) fun r8 =>
  Option.bind (Ds_l1Cur_pick r8.2 6) fun r9 =>
  Option.bind (Ds_l1Cur_pick r9.2 3) fun r10 =>
  Option.bind (Ds_l1Cur_pick r10.2 3) fun r11 =>
  Option.bind (Ds_l1Cur_pick r11.2 3) fun r12 =>
  if (0 : Int) ≤ (IntKind.wrap .i64 (1 + r12.1)) then
    if ((IntKind.wrap .i64 (1 + r12.1)) : Int) ≤ (([(Gi_Kind.mk ⟨#[102, 111, 111, 116]⟩ (IntKind.wrap .i64 (2 + r1.1)) (IntKind.wrap .i64 (2 + r2.1)) (IntKind.wrap .i64 (1 + r3.1)) true (IntKind.wrap .i64 (1 + r4.1))), (Gi_Kind.mk ⟨#[104, 111, 114, 115, 101]⟩ (IntKind.wrap .i64 (1 + r5.1)) (IntKind.wrap .i64 (3 + r6.1)) (IntKind.wrap .i64 (1 + r7.1)) r8.1 2), (Gi_Kind.mk ⟨#[103, 117, 110]⟩ (IntKind.wrap .i64 (3 + r9.1)) (IntKind.wrap .i64 (1 + r10.1)) 1 false r11.1)].length : Nat) : Int) then
      Option.bind (Ds_l1Cur_pick r12.2 3) fun r15 =>
      Option.bind (Ds_l1Cur_pick r15.2 3) fun r16 =>
      Option.bind (Ds_l1Cur_pick r16.2 8) fun r17 =>
      Option.bind (Ds_l1Cur_pick r17.2 8) fun r18 =>
      loop Bs_l1Cur_rules (.h1 0 r18.2 0 0 0 0 0 (IntKind.wrap .i64 (1 + r15.1)) r16.1 1 (IntKind.wrap .i64 (2 + r17.1)) (IntKind.wrap .i64 (2 + r18.1)) [⟨#[112, 108, 97, 105, 110]⟩, ⟨#[119, 111, 111, 100]⟩, ⟨#[104, 105, 108, 108]⟩, ⟨#[115, 101, 97]⟩, ⟨#[116, 111, 119, 110]⟩] (List.take ((Int.toNat (IntKind.wrap .i64 (1 + r12.1))) - 0) (List.drop 0 [(Gi_Kind.mk ⟨#[102, 111, 111, 116]⟩ (IntKind.wrap .i64 (2 + r1.1)) (IntKind.wrap .i64 (2 + r2.1)) (IntKind.wrap .i64 (1 + r3.1)) true (IntKind.wrap .i64 (1 + r4.1))), (Gi_Kind.mk ⟨#[104, 111, 114, 115, 101]⟩ (IntKind.wrap .i64 (1 + r5.1)) (IntKind.wrap .i64 (3 + r6.1)) (IntKind.wrap .i64 (1 + r7.1)) r8.1 2), (Gi_Kind.mk ⟨#[103, 117, 110]⟩ (IntKind.wrap .i64 (3 + r9.1)) (IntKind.wrap .i64 (1 + r10.1)) 1 false r11.1)])))
    else none
  else none
/-! loop example/g00886/spec mSize -/
noncomputable def Ds_mSize (a0 : Gi_Map) : Option (Int) :=
  some (IntKind.wrap .i64 (a0.Width * a0.Height))
/-! loop example/g00886/spec mHex -/
noncomputable def Ds_mHex (a0 : Gi_Map) (a1 : Int) : Option (Gi_Hex) :=
  if ¬ a0.Width = 0 then
    if ¬ a0.Width = 0 then
      some (Gi_Hex.mk (Int.tmod a1 a0.Width) (IntKind.wrap .i64 (Int.tdiv a1 a0.Width)))
    else none
  else none
/-! loop example/g00886/spec hStep -/
noncomputable def Ds_hStep (a0 : Gi_Hex) (a1 : Int) : Option (Gi_Hex) :=
  if 0 ≤ a1 then
    Option.bind ([1, 1, 0, (-1), (-1), 0][(Int.toNat a1)]?) fun x2 =>
    if 0 ≤ a1 then
      Option.bind ([0, (-1), (-1), 0, 1, 1][(Int.toNat a1)]?) fun x4 =>
      some (Gi_Hex.mk (IntKind.wrap .i64 (a0.Q + x2)) (IntKind.wrap .i64 (a0.R + x4)))
    else none
  else none
/-! loop example/g00886/spec l1In -/
noncomputable def Ds_l1In (a0 : Int) (a1 : Int) (a2 : Int) : Option (Bool) :=
  if a0 ≥ a1 then
    some (decide (a0 ≤ a2))
  else
    some false
/-! loop example/g00886/spec mIndex -/
noncomputable def Ds_mIndex (a0 : Gi_Map) (a1 : Gi_Hex) : Option (Int) :=
  Option.bind (Ds_l1In a1.Q 0 (IntKind.wrap .i64 (a0.Width - 1))) fun r1 =>
  if r1 = true then
    Option.bind (Ds_l1In a1.R 0 (IntKind.wrap .i64 (a0.Height - 1))) fun r3 =>
    if r3 = true then
      some (IntKind.wrap .i64 ((IntKind.wrap .i64 (a1.R * a0.Width)) + a1.Q))
    else
      some (-1)
  else
    some (-1)
/-! loop example/g00886/spec mNext -/
noncomputable def Ds_mNext (a0 : Gi_Map) (a1 : Int) (a2 : Int) : Option (Int) :=
  Option.bind (Ds_mHex a0 a1) fun r1 =>
  Option.bind (Ds_hStep r1 a2) fun r2 =>
  Option.bind (Ds_mIndex a0 r2) fun r3 =>
  some r3
/-! loop example/g00886/spec mEdge -/
noncomputable def Ds_mEdge (a0 : Gi_Map) (a1 : Int) (a2 : Int) : Option (Int) :=
  if a2 < 3 then
    some (IntKind.wrap .i64 ((IntKind.wrap .i64 (3 * a1)) + a2))
  else
    Option.bind (Ds_mNext a0 a1 a2) fun r2 =>
    some (IntKind.wrap .i64 ((IntKind.wrap .i64 ((IntKind.wrap .i64 (3 * r2)) + a2)) - 3))
/-! loop example/g00886/spec l1Put -/
inductive Ss_l1Put_c0 where
  | h1 (n0 : Int) (k1 : Int) (l2 : (List Int))
noncomputable def Bs_l1Put_c0 : Ss_l1Put_c0 → Option (Ss_l1Put_c0 ⊕ ((List Int)))
  | .h1 n0 k1 l2 =>
    if k1 < ((l2.length : Nat) : Int) then
      if 0 ≤ k1 then
        Option.bind (l2[(Int.toNat k1)]?) fun x3 =>
        if x3 < n0 then
          some (.inl (.h1 n0 (IntKind.wrap .i64 (k1 + 1)) l2))
        else
          if k1 < ((l2.length : Nat) : Int) then
            if 0 ≤ k1 then
              Option.bind (l2[(Int.toNat k1)]?) fun x7 =>
              if (x7 : Int) = n0 then
                some (.inr l2)
              else
                if (0 : Int) ≤ k1 then
                  if (k1 : Int) ≤ ((l2.length : Nat) : Int) then
                    if (List.take ((Int.toNat k1) - 0) (List.drop 0 l2)).length * 8 ≤ 70368744177664 then
                      if ((List.take ((Int.toNat k1) - 0) (List.drop 0 l2)) ++ [n0]).length * 8 ≤ 70368744177664 then
                        if (0 : Int) ≤ k1 then
                          if (k1 : Int) ≤ ((l2.length : Nat) : Int) then
                            if (((List.take ((Int.toNat k1) - 0) (List.drop 0 l2)) ++ [n0]) ++ (List.take (l2.length - (Int.toNat k1)) (List.drop (Int.toNat k1) l2))).length * 8 ≤ 70368744177664 then
                              some (.inr (((List.take ((Int.toNat k1) - 0) (List.drop 0 l2)) ++ [n0]) ++ (List.take (l2.length - (Int.toNat k1)) (List.drop (Int.toNat k1) l2))))
                            else none
                          else none
                        else none
                      else none
                    else none
                  else none
                else none
            else none
          else
            if (0 : Int) ≤ k1 then
              if (k1 : Int) ≤ ((l2.length : Nat) : Int) then
                if (List.take ((Int.toNat k1) - 0) (List.drop 0 l2)).length * 8 ≤ 70368744177664 then
                  if ((List.take ((Int.toNat k1) - 0) (List.drop 0 l2)) ++ [n0]).length * 8 ≤ 70368744177664 then
                    if (0 : Int) ≤ k1 then
                      if (k1 : Int) ≤ ((l2.length : Nat) : Int) then
                        if (((List.take ((Int.toNat k1) - 0) (List.drop 0 l2)) ++ [n0]) ++ (List.take (l2.length - (Int.toNat k1)) (List.drop (Int.toNat k1) l2))).length * 8 ≤ 70368744177664 then
                          some (.inr (((List.take ((Int.toNat k1) - 0) (List.drop 0 l2)) ++ [n0]) ++ (List.take (l2.length - (Int.toNat k1)) (List.drop (Int.toNat k1) l2))))
                        else none
                      else none
                    else none
                  else none
                else none
              else none
            else none
      else none
    else
      if k1 < ((l2.length : Nat) : Int) then
        if 0 ≤ k1 then
          Option.bind (l2[(Int.toNat k1)]?) fun x4 =>
          if (x4 : Int) = n0 then
            some (.inr l2)
          else
            if (0 : Int) ≤ k1 then
              if (k1 : Int) ≤ ((l2.length : Nat) : Int) then
                if (List.take ((Int.toNat k1) - 0) (List.drop 0 l2)).length * 8 ≤ 70368744177664 then
                  if ((List.take ((Int.toNat k1) - 0) (List.drop 0 l2)) ++ [n0]).length * 8 ≤ 70368744177664 then
                    if (0 : Int) ≤ k1 then
                      if (k1 : Int) ≤ ((l2.length : Nat) : Int) then
                        if (((List.take ((Int.toNat k1) - 0) (List.drop 0 l2)) ++ [n0]) ++ (List.take (l2.length - (Int.toNat k1)) (List.drop (Int.toNat k1) l2))).length * 8 ≤ 70368744177664 then
                          some (.inr (((List.take ((Int.toNat k1) - 0) (List.drop 0 l2)) ++ [n0]) ++ (List.take (l2.length - (Int.toNat k1)) (List.drop (Int.toNat k1) l2))))
                        else none
                      else none
                    else none
                  else none
                else none
              else none
            else none
        else none
      else
        if (0 : Int) ≤ k1 then
          if (k1 : Int) ≤ ((l2.length : Nat) : Int) then
            if (List.take ((Int.toNat k1) - 0) (List.drop 0 l2)).length * 8 ≤ 70368744177664 then
              if ((List.take ((Int.toNat k1) - 0) (List.drop 0 l2)) ++ [n0]).length * 8 ≤ 70368744177664 then
                if (0 : Int) ≤ k1 then
                  if (k1 : Int) ≤ ((l2.length : Nat) : Int) then
                    if (((List.take ((Int.toNat k1) - 0) (List.drop 0 l2)) ++ [n0]) ++ (List.take (l2.length - (Int.toNat k1)) (List.drop (Int.toNat k1) l2))).length * 8 ≤ 70368744177664 then
                      some (.inr (((List.take ((Int.toNat k1) - 0) (List.drop 0 l2)) ++ [n0]) ++ (List.take (l2.length - (Int.toNat k1)) (List.drop (Int.toNat k1) l2))))
                    else none
                  else none
                else none
              else none
            else none
          else none
        else none
noncomputable def Ds_l1Put_c0 (a0 : (List Int)) (a1 : Int) : Option ((List Int)) :=
  loop Bs_l1Put_c0 (.h1 a1 0 a0)
/-!   loop example/g00886/spec l1Cur  edges -/
inductive Ss_l1Cur_edges where
  | h1 (k0 : Int) (b1 : Gs_l1Cur) (b2 : Gi_Map) (l3 : (List Int))
noncomputable def Bs_l1Cur_edges : Ss_l1Cur_edges → Option (Ss_l1Cur_edges ⊕ ((List Int) × Gs_l1Cur))
  | .h1 k0 b1 b2 l3 =>
    if k0 > 0 then
      Option.bind (Ds_mSize b2) fun r2 =>
      Option.bind (Ds_l1Cur_pick b1 r2) fun r3 =>
      Option.bind (Ds_l1Cur_pick r3.2 6) fun r4 =>
      Option.bind (Ds_mNext b2 r3.1 r4.1) fun r5 =>
      if r5 ≥ 0 then
        Option.bind (Ds_mEdge b2 r3.1 r4.1) fun r7 =>
        Option.bind (Ds_l1Put_c0 l3 r7) fun r8 =>
        some (.inl (.h1 (IntKind.wrap .i64 (k0 - 1)) r4.2 b2 r8))
      else
        some (.inl (.h1 (IntKind.wrap .i64 (k0 - 1)) r4.2 b2 l3))
    else
      some (.inr (l3, b1))
noncomputable def Ds_l1Cur_edges (a0 : Gs_l1Cur) (a1 : Gi_Map) : Option ((List Int) × Gs_l1Cur) :=
  Option.bind (Ds_l1Cur_pick a0 8) fun r1 =>
  loop Bs_l1Cur_edges (.h1 r1.1 r1.2 a1 ([] : List Int))






/-!   loop example/g00886/spec l1Cur  mapOf -/
inductive Ss_l1Cur_mapOf where
  | h1 (terrains0 : Int) (i1 : Int) (b2 : Gs_l1Cur) (b3 : Int) (b4 : Int) (b5 : Int) (b6 : Int)
  | h2 (terrains0 : Int) (i1 : Int) (b2 : Gs_l1Cur) (b3 : Int) (b4 : Int) (b5 : Int) (b6 : Int) (l7 : (List Int))
noncomputable def Bs_l1Cur_mapOf : Ss_l1Cur_mapOf → Option (Ss_l1Cur_mapOf ⊕ (Gi_Map × Gs_l1Cur))
  | .h1 terrains0 i1 b2 b3 b4 b5 b6 =>
    Option.bind (Ds_mSize (Gi_Map.mk b5 b6 [] [] [])) fun r1 =>
    if i1 < r1 then
      Option.bind (Ds_l1Cur_one b2 3) fun r3 =>
      if r3.1 = true then
        Option.bind (Ds_l1Cur_pick r3.2 terrains0) fun r5 =>
        if [r5.1].length * 8 ≤ 70368744177664 then
          some (.inl (.h2 terrains0 (IntKind.wrap .i64 (i1 + 1)) r5.2 b3 b4 b5 b6 [r5.1]))
        else none
      else
        if [0].length * 8 ≤ 70368744177664 then
          some (.inl (.h2 terrains0 (IntKind.wrap .i64 (i1 + 1)) r3.2 b3 b4 b5 b6 [0]))
        else none
    else
      Option.bind (Ds_l1Cur_edges b2 (Gi_Map.mk b5 b6 [] [] [])) fun r3 =>
      Option.bind (Ds_l1Cur_edges r3.2 (Gi_Map.mk b5 b6 [] r3.1 [])) fun r4 =>
      some (.inr ((Gi_Map.mk b5 b6 [] r3.1 r4.1), r4.2))
  | .h2 terrains0 i1 b2 b3 b4 b5 b6 l7 =>
    Option.bind (Ds_mSize (Gi_Map.mk b5 b6 l7 [] [])) fun r1 =>
    if i1 < r1 then
      Option.bind (Ds_l1Cur_one b2 3) fun r3 =>
      if r3.1 = true then
        Option.bind (Ds_l1Cur_pick r3.2 terrains0) fun r5 =>
        if (l7 ++ [r5.1]).length * 8 ≤ 70368744177664 then
          some (.inl (.h2 terrains0 (IntKind.wrap .i64 (i1 + 1)) r5.2 b3 b4 b5 b6 (l7 ++ [r5.1])))
        else none
      else
        if (l7 ++ [0]).length * 8 ≤ 70368744177664 then
          some (.inl (.h2 terrains0 (IntKind.wrap .i64 (i1 + 1)) r3.2 b3 b4 b5 b6 (l7 ++ [0])))
        else none
    else
      Option.bind (Ds_l1Cur_edges b2 (Gi_Map.mk b5 b6 l7 [] [])) fun r3 =>
      Option.bind (Ds_l1Cur_edges r3.2 (Gi_Map.mk b5 b6 l7 r3.1 [])) fun r4 =>
      some (.inr ((Gi_Map.mk b5 b6 l7 r3.1 r4.1), r4.2))
noncomputable def Ds_l1Cur_mapOf (a0 : Gs_l1Cur) (a1 : Int) : Option (Gi_Map × Gs_l1Cur) :=
  Option.bind (Ds_l1Cur_pick a0 6) fun r1 =>
  Option.bind (Ds_l1Cur_pick r1.2 6) fun r2 =>
  loop Bs_l1Cur_mapOf (.h1 a1 0 r2.2 0 0 (IntKind.wrap .i64 (1 + r1.1)) (IntKind.wrap .i64 (1 + r2.1)))
/-!   loop example/g00886/spec l1Cur  board -/
noncomputable def Ds_l1Cur_board (a0 : Gs_l1Cur) : Option (Gi_Board × Gs_l1Cur) :=
  Option.bind (Ds_l1Cur_rules a0) fun r1 =>
  Option.bind (Ds_l1Cur_mapOf r1.2 ((r1.1.Terrains.length : Nat) : Int)) fun r2 =>
  some ((Gi_Board.mk r1.1 r2.1), r2.2)
/-!   loop example/g00886/spec l1Cur  among -/
noncomputable def Ds_l1Cur_among (a0 : Gs_l1Cur) (a1 : (List Int)) : Option (Int × Gs_l1Cur) :=
  Option.bind (Ds_l1Cur_pick a0 ((a1.length : Nat) : Int)) fun r1 =>
  if 0 ≤ r1.1 then
    Option.bind (a1[(Int.toNat r1.1)]?) fun x3 =>
    some (x3, r1.2)
  else none
/-!   loop example/g00886/spec l1Cur  of -/
noncomputable def Ds_l1Cur_of (a0 : Gs_l1Cur) (a1 : (List ByteArray)) : Option (ByteArray × Gs_l1Cur) :=
  Option.bind (Ds_l1Cur_pick a0 ((a1.length : Nat) : Int)) fun r1 =>
  if 0 ≤ r1.1 then
    Option.bind (a1[(Int.toNat r1.1)]?) fun x3 =>
    some (x3, r1.2)
  else none
/-!   loop example/g00886/spec l1Cur  anyRules -/
noncomputable def Ds_l1Cur_anyRules (a0 : Gs_l1Cur) : Option (Gi_Rules × Gs_l1Cur) :=
  Option.bind (Ds_l1Cur_rules a0) fun r1 =>
  Option.bind (Ds_l1Cur_pick r1.2 30) fun r2 =>
  if (r2.1 : Int) = 0 then
    Option.bind (r1.1.Terrains[(Int.toNat 0)]?) fun x4 =>
    Option.bind (Ds_l1Cur_among r2.2 [(-1), 9, 10, 0]) fun r5 =>
    Option.bind (x4.Cost[(Int.toNat 0)]?) fun x6 =>
    some ((Gi_Rules.mk (List.set r1.1.Terrains (Int.toNat 0) (Gi_Terrain.mk x4.Name (List.set x4.Cost (Int.toNat 0) r5.1) x4.Shift x4.Height x4.Blocks)) r1.1.Kinds r1.1.Stack r1.1.River r1.1.Road r1.1.Supply r1.1.Turns), r5.2)
  else
    if (r2.1 : Int) = 1 then
      Option.bind (Ds_l1Cur_of r2.2 [⟨#[]⟩, ⟨#[80, 108, 97, 105, 110]⟩, ⟨#[119, 111, 111, 100]⟩, ⟨#[97, 98, 99, 100, 101, 102, 103, 104]⟩, ⟨#[97, 98, 99, 100, 101, 102, 103, 104, 105]⟩]) fun r5 =>
      Option.bind (r1.1.Terrains[(Int.toNat 0)]?) fun x6 =>
      some ((Gi_Rules.mk (List.set r1.1.Terrains (Int.toNat 0) (Gi_Terrain.mk r5.1 x6.Cost x6.Shift x6.Height x6.Blocks)) r1.1.Kinds r1.1.Stack r1.1.River r1.1.Road r1.1.Supply r1.1.Turns), r5.2)
    else
      if (r2.1 : Int) = 2 then
        Option.bind (Ds_l1Cur_among r2.2 [(-1), 0, 9, 10]) fun r6 =>
        Option.bind (r1.1.Kinds[(Int.toNat 0)]?) fun x7 =>
        some ((Gi_Rules.mk r1.1.Terrains (List.set r1.1.Kinds (Int.toNat 0) (Gi_Kind.mk x7.Name x7.Strength r6.1 x7.Steps x7.Zone x7.View)) r1.1.Stack r1.1.River r1.1.Road r1.1.Supply r1.1.Turns), r6.2)
      else
        if (r2.1 : Int) = 3 then
          Option.bind (r1.1.Kinds[(Int.toNat 0)]?) fun x7 =>
          if (r1.1.Kinds ++ [x7]).length * 56 ≤ 70368744177664 then
            some ((Gi_Rules.mk r1.1.Terrains (r1.1.Kinds ++ [x7]) r1.1.Stack r1.1.River r1.1.Road r1.1.Supply r1.1.Turns), r2.2)
          else none
        else
          if (r2.1 : Int) = 4 then
            Option.bind (Ds_l1Cur_among r2.2 [0, 4, 5]) fun r8 =>
            some ((Gi_Rules.mk r1.1.Terrains r1.1.Kinds r8.1 r1.1.River r1.1.Road r1.1.Supply r1.1.Turns), r8.2)
          else
            if (r2.1 : Int) = 5 then
              Option.bind (Ds_l1Cur_among r2.2 [0, 30, 31]) fun r9 =>
              some ((Gi_Rules.mk r1.1.Terrains r1.1.Kinds r1.1.Stack r1.1.River r1.1.Road r1.1.Supply r9.1), r9.2)
            else
              if (r2.1 : Int) = 6 then
                Option.bind (Ds_l1Cur_among r2.2 [(-4), (-3), 4]) fun r10 =>
                Option.bind (r1.1.Terrains[(Int.toNat 0)]?) fun x11 =>
                some ((Gi_Rules.mk (List.set r1.1.Terrains (Int.toNat 0) (Gi_Terrain.mk x11.Name x11.Cost r10.1 x11.Height x11.Blocks)) r1.1.Kinds r1.1.Stack r1.1.River r1.1.Road r1.1.Supply r1.1.Turns), r10.2)
              else
                some (r1.1, r2.2)
/-!   loop example/g00886/spec l1Cur  anyMap -/
noncomputable def Ds_l1Cur_anyMap (a0 : Gs_l1Cur) : Option (Gi_Map × Gs_l1Cur) :=
  Option.bind (Ds_l1Cur_mapOf a0 6) fun r1 =>
  Option.bind (Ds_l1Cur_pick r1.2 30) fun r2 =>
  if (r2.1 : Int) = 0 then
    Option.bind (Ds_l1Cur_among r2.2 [0, 10, 11, (IntKind.wrap .i64 (r1.1.Width + 1))]) fun r4 =>
    some ((Gi_Map.mk r4.1 r1.1.Height r1.1.Terrain r1.1.Rivers r1.1.Roads), r4.2)
  else
    if (r2.1 : Int) = 1 then
      Option.bind (Ds_l1Cur_among r2.2 [(-1), 6]) fun r5 =>
      Option.bind (r1.1.Terrain[(Int.toNat 0)]?) fun x6 =>
      some ((Gi_Map.mk r1.1.Width r1.1.Height (List.set r1.1.Terrain (Int.toNat 0) r5.1) r1.1.Rivers r1.1.Roads), r5.2)
    else
      if (r2.1 : Int) = 2 then
        Option.bind (Ds_mSize r1.1) fun r6 =>
        Option.bind (Ds_mSize r1.1) fun r7 =>
        Option.bind (Ds_l1Cur_among r2.2 [0, (IntKind.wrap .i64 (3 * r6)), (IntKind.wrap .i64 ((IntKind.wrap .i64 (3 * r7)) - 1)), (-1)]) fun r8 =>
        if (r1.1.Rivers ++ [r8.1]).length * 8 ≤ 70368744177664 then
          some ((Gi_Map.mk r1.1.Width r1.1.Height r1.1.Terrain (r1.1.Rivers ++ [r8.1]) r1.1.Roads), r8.2)
        else none
      else
        if (r2.1 : Int) = 3 then
          if ([2] ++ r1.1.Roads).length * 8 ≤ 70368744177664 then
            some ((Gi_Map.mk r1.1.Width r1.1.Height r1.1.Terrain r1.1.Rivers ([2] ++ r1.1.Roads)), r2.2)
          else none
        else
          some (r1.1, r2.2)
/-!   loop example/g00886/spec l1Cur  anyBoard -/
noncomputable def Ds_l1Cur_anyBoard (a0 : Gs_l1Cur) : Option (Gi_Board × Gs_l1Cur) :=
  Option.bind (Ds_l1Cur_board a0) fun r1 =>
  Option.bind (Ds_l1Cur_pick r1.2 24) fun r2 =>
  if (r2.1 : Int) = 0 then
    Option.bind (Ds_l1Cur_anyRules r2.2) fun r4 =>
    some ((Gi_Board.mk r4.1 r1.1.Map), r4.2)
  else
    if (r2.1 : Int) = 1 then
      Option.bind (Ds_l1Cur_anyMap r2.2) fun r5 =>
      some ((Gi_Board.mk r1.1.Rules r5.1), r5.2)
    else
      some (r1.1, r2.2)
/-! loop example/g00886/spec rName -/
inductive Ss_rName where
  | h1 (s0 : ByteArray) (i1 : Int)
noncomputable def Bs_rName : Ss_rName → Option (Ss_rName ⊕ (Bool))
  | .h1 s0 i1 =>
    if i1 < ((ByteArray.size s0 : Nat) : Int) then
      if 0 ≤ i1 then
        if i1 < (ByteArray.size s0 : Int) then
          if ((byteAt s0 (Int.toNat i1) : Nat) : Int) < 97 then
            some (.inr false)
          else
            if 0 ≤ i1 then
              if i1 < (ByteArray.size s0 : Int) then
                if ((byteAt s0 (Int.toNat i1) : Nat) : Int) > 122 then
                  some (.inr false)
                else
                  some (.inl (.h1 s0 (IntKind.wrap .i64 (i1 + 1))))
              else none
            else none
        else none
      else none
    else
      Option.bind (Ds_l1In ((ByteArray.size s0 : Nat) : Int) 1 8) fun r2 =>
      some (.inr r2)
noncomputable def Ds_rName (a0 : ByteArray) : Option (Bool) :=
  loop Bs_rName (.h1 a0 0)
/-! loop example/g00886/spec rTerrain -/
inductive Ss_rTerrain where
  | h1 (name0 : ByteArray) (t1 : (List Gi_Terrain)) (t2 : Int) (t3 : Int)
noncomputable def Bs_rTerrain : Ss_rTerrain → Option (Ss_rTerrain ⊕ (Int))
  | .h1 name0 t1 t2 t3 =>
    if t3 < t2 then
      if 0 ≤ t3 then
        Option.bind (t1[(Int.toNat t3)]?) fun x3 =>
        if x3.Name = name0 then
          some (.inr t3)
        else
          some (.inl (.h1 name0 t1 t2 (IntKind.wrap .i64 (t3 + 1))))
      else none
    else
      some (.inr (-1))
noncomputable def Ds_rTerrain (a0 : (List Gi_Terrain)) (a1 : ByteArray) : Option (Int) :=
  loop Bs_rTerrain (.h1 a1 a0 ((a0.length : Nat) : Int) 0)
/-! loop example/g00886/spec l1All -/
inductive Ss_l1All where
  | h1 (lo0 : Int) (vhi1 : Int) (t2 : (List Int)) (t3 : Int) (t4 : Int)
noncomputable def Bs_l1All : Ss_l1All → Option (Ss_l1All ⊕ (Bool))
  | .h1 lo0 vhi1 t2 t3 t4 =>
    if t4 < t3 then
      if 0 ≤ t4 then
        Option.bind (t2[(Int.toNat t4)]?) fun x3 =>
        Option.bind (Ds_l1In x3 lo0 vhi1) fun r4 =>
        if r4 = true then
          some (.inl (.h1 lo0 vhi1 t2 t3 (IntKind.wrap .i64 (t4 + 1))))
        else
          some (.inr false)
      else none
    else
      some (.inr true)
noncomputable def Ds_l1All (a0 : (List Int)) (a1 : Int) (a2 : Int) : Option (Bool) :=
  loop Bs_l1All (.h1 a1 a2 a0 ((a0.length : Nat) : Int) 0)
/-! loop example/g00886/spec rKind -/
inductive Ss_rKind where
  | h1 (name0 : ByteArray) (t1 : (List Gi_Kind)) (t2 : Int) (t3 : Int)
noncomputable def Bs_rKind : Ss_rKind → Option (Ss_rKind ⊕ (Int))
  | .h1 name0 t1 t2 t3 =>
    if t3 < t2 then
      if 0 ≤ t3 then
        Option.bind (t1[(Int.toNat t3)]?) fun x3 =>
        if x3.Name = name0 then
          some (.inr t3)
        else
          some (.inl (.h1 name0 t1 t2 (IntKind.wrap .i64 (t3 + 1))))
      else none
    else
      some (.inr (-1))
noncomputable def Ds_rKind (a0 : (List Gi_Kind)) (a1 : ByteArray) : Option (Int) :=
  loop Bs_rKind (.h1 a1 a0 ((a0.length : Nat) : Int) 0)
/-! loop example/g00886/spec rGood -/
inductive Ss_rGood where
  | h1 (t0 : (List Gi_Terrain)) (t1 : Int) (t2 : Int) (b3 : Gi_Rules)
  | h2 (t0 : (List Gi_Kind)) (t1 : Int) (t2 : Int) (b3 : Gi_Rules)
noncomputable def Bs_rGood : Ss_rGood → Option (Ss_rGood ⊕ (Bool))
  | .h1 t0 t1 t2 b3 =>
    if t2 < t1 then
      if 0 ≤ t2 then
        Option.bind (t0[(Int.toNat t2)]?) fun x3 =>
        Option.bind (Ds_rName x3.Name) fun r4 =>
        if r4 = true then
          Option.bind (Ds_rTerrain b3.Terrains x3.Name) fun r6 =>
          if (r6 : Int) = t2 then
            if (((x3.Cost.length : Nat) : Int) : Int) = ((b3.Kinds.length : Nat) : Int) then
              Option.bind (Ds_l1All x3.Cost 0 9) fun r9 =>
              if r9 = true then
                Option.bind (Ds_l1In x3.Shift (-3) 3) fun r11 =>
                if r11 = true then
                  Option.bind (Ds_l1In x3.Height 0 3) fun r13 =>
                  if r13 = true then
                    some (.inl (.h1 t0 t1 (IntKind.wrap .i64 (t2 + 1)) b3))
                  else
                    some (.inr false)
                else
                  some (.inr false)
              else
                some (.inr false)
            else
              some (.inr false)
          else
            some (.inr false)
        else
          some (.inr false)
      else none
    else
      some (.inl (.h2 b3.Kinds ((b3.Kinds.length : Nat) : Int) 0 b3))
  | .h2 t0 t1 t2 b3 =>
    if t2 < t1 then
      if 0 ≤ t2 then
        Option.bind (t0[(Int.toNat t2)]?) fun x3 =>
        Option.bind (Ds_rName x3.Name) fun r4 =>
        if r4 = true then
          Option.bind (Ds_rKind b3.Kinds x3.Name) fun r6 =>
          if (r6 : Int) = t2 then
            Option.bind (Ds_l1In x3.Strength 1 9) fun r8 =>
            if r8 = true then
              Option.bind (Ds_l1In x3.Moves 0 9) fun r10 =>
              if r10 = true then
                Option.bind (Ds_l1In x3.Steps 1 4) fun r12 =>
                if r12 = true then
                  Option.bind (Ds_l1In x3.View 0 4) fun r14 =>
                  if r14 = true then
                    some (.inl (.h2 t0 t1 (IntKind.wrap .i64 (t2 + 1)) b3))
                  else
                    some (.inr false)
                else
                  some (.inr false)
              else
                some (.inr false)
            else
              some (.inr false)
          else
            some (.inr false)
        else
          some (.inr false)
      else none
    else
      Option.bind (Ds_l1In b3.Stack 1 4) fun r2 =>
      if r2 = true then
        Option.bind (Ds_l1In b3.River 0 9) fun r4 =>
        if r4 = true then
          Option.bind (Ds_l1In b3.Road 1 9) fun r6 =>
          if r6 = true then
            Option.bind (Ds_l1In b3.Supply 0 20) fun r8 =>
            if r8 = true then
              Option.bind (Ds_l1In b3.Turns 1 30) fun r10 =>
              some (.inr r10)
            else
              some (.inr false)
          else
            some (.inr false)
        else
          some (.inr false)
      else
        some (.inr false)
noncomputable def Ds_rGood (a0 : Gi_Rules) : Option (Bool) :=
  Option.bind (Ds_l1In ((a0.Terrains.length : Nat) : Int) 1 6) fun r1 =>
  if r1 = true then
    Option.bind (Ds_l1In ((a0.Kinds.length : Nat) : Int) 1 4) fun r3 =>
    if r3 = true then
      loop Bs_rGood (.h1 a0.Terrains ((a0.Terrains.length : Nat) : Int) 0 a0)
    else
      some false
  else
    some false
/-! loop example/g00886/spec l1Rising -/
inductive Ss_l1Rising where
  | h1 (l0 : (List Int)) (lo1 : Int) (vhi2 : Int) (t3 : (List Int)) (t4 : Int) (t5 : Int)
noncomputable def Bs_l1Rising : Ss_l1Rising → Option (Ss_l1Rising ⊕ (Bool))
  | .h1 l0 lo1 vhi2 t3 t4 t5 =>
    if t5 < t4 then
      if 0 ≤ t5 then
        Option.bind (t3[(Int.toNat t5)]?) fun x3 =>
        Option.bind (Ds_l1In x3 lo1 vhi2) fun r4 =>
        if r4 = true then
          if t5 > 0 then
            if 0 ≤ (IntKind.wrap .i64 (t5 - 1)) then
              Option.bind (l0[(Int.toNat (IntKind.wrap .i64 (t5 - 1)))]?) fun x8 =>
              if x8 ≥ x3 then
                some (.inr false)
              else
                some (.inl (.h1 l0 lo1 vhi2 t3 t4 (IntKind.wrap .i64 (t5 + 1))))
            else none
          else
            some (.inl (.h1 l0 lo1 vhi2 t3 t4 (IntKind.wrap .i64 (t5 + 1))))
        else
          some (.inr false)
      else none
    else
      some (.inr true)
noncomputable def Ds_l1Rising (a0 : (List Int)) (a1 : Int) (a2 : Int) : Option (Bool) :=
  loop Bs_l1Rising (.h1 a0 a1 a2 a0 ((a0.length : Nat) : Int) 0)
/-! loop example/g00886/spec mEdges -/
inductive Ss_mEdges where
  | h1 (l0 : (List Int)) (t1 : (List Int)) (t2 : Int) (t3 : Int) (b4 : Gi_Map)
noncomputable def Bs_mEdges : Ss_mEdges → Option (Ss_mEdges ⊕ (Bool))
  | .h1 l0 t1 t2 t3 b4 =>
    if t3 < t2 then
      if 0 ≤ t3 then
        Option.bind (t1[(Int.toNat t3)]?) fun x3 =>
        Option.bind (Ds_mSize b4) fun r4 =>
        Option.bind (Ds_l1In x3 0 (IntKind.wrap .i64 ((IntKind.wrap .i64 (3 * r4)) - 1))) fun r5 =>
        if r5 = true then
          Option.bind (Ds_mNext b4 (IntKind.wrap .i64 (Int.tdiv x3 3)) (Int.tmod x3 3)) fun r7 =>
          if r7 < 0 then
            some (.inr false)
          else
            some (.inl (.h1 l0 t1 t2 (IntKind.wrap .i64 (t3 + 1)) b4))
        else
          some (.inr false)
      else none
    else
      Option.bind (Ds_mSize b4) fun r2 =>
      Option.bind (Ds_l1Rising l0 0 (IntKind.wrap .i64 ((IntKind.wrap .i64 (3 * r2)) - 1))) fun r3 =>
      some (.inr r3)
noncomputable def Ds_mEdges (a0 : Gi_Map) (a1 : (List Int)) : Option (Bool) :=
  loop Bs_mEdges (.h1 a1 a1 ((a1.length : Nat) : Int) 0 a0)
/-! loop example/g00886/spec mGood -/
noncomputable def Ds_mGood (a0 : Gi_Map) : Option (Bool) :=
  Option.bind (Ds_l1In a0.Width 1 10) fun r1 =>
  if r1 = true then
    Option.bind (Ds_l1In a0.Height 1 10) fun r3 =>
    if r3 = true then
      Option.bind (Ds_mSize a0) fun r5 =>
      if (((a0.Terrain.length : Nat) : Int) : Int) = r5 then
        Option.bind (Ds_l1All a0.Terrain 0 5) fun r7 =>
        if r7 = true then
          Option.bind (Ds_mEdges a0 a0.Rivers) fun r9 =>
          if r9 = true then
            Option.bind (Ds_mEdges a0 a0.Roads) fun r11 =>
            some r11
          else
            some false
        else
          some false
      else
        some false
    else
      some false
  else
    some false
/-! loop example/g00886/spec bGood -/
noncomputable def Ds_bGood (a0 : Gi_Board) : Option (Bool) :=
  Option.bind (Ds_rGood a0.Rules) fun r1 =>
  if r1 = true then
    Option.bind (Ds_mGood a0.Map) fun r3 =>
    if r3 = true then
      Option.bind (Ds_l1All a0.Map.Terrain 0 (IntKind.wrap .i64 (((a0.Rules.Terrains.length : Nat) : Int) - 1))) fun r5 =>
      some r5
    else
      some false
  else
    some false
/-! loop example/g00886/spec bTerrain -/
noncomputable def Ds_bTerrain (a0 : Gi_Board) (a1 : Int) : Option (Gi_Terrain) :=
  if 0 ≤ a1 then
    Option.bind (a0.Map.Terrain[(Int.toNat a1)]?) fun x2 =>
    if 0 ≤ x2 then
      Option.bind (a0.Rules.Terrains[(Int.toNat x2)]?) fun x4 =>
      some x4
    else none
  else none
/-! loop example/g00886/spec bCost -/
noncomputable def Ds_bCost (a0 : Gi_Board) (a1 : Int) (a2 : Int) : Option (Int) :=
  Option.bind (Ds_bTerrain a0 a2) fun r1 =>
  if 0 ≤ a1 then
    Option.bind (r1.Cost[(Int.toNat a1)]?) fun x3 =>
    some x3
  else none
/-! loop example/g00886/spec sUnit -/
noncomputable def Ds_sUnit (a0 : Gi_Board) (a1 : Gi_Unit) : Option (Bool) :=
  Option.bind (Ds_l1In a1.Side 0 1) fun r1 =>
  if r1 = true then
    Option.bind (Ds_l1In a1.Kind 0 (IntKind.wrap .i64 (((a0.Rules.Kinds.length : Nat) : Int) - 1))) fun r3 =>
    if r3 = true then
      if 0 ≤ a1.Kind then
        Option.bind (a0.Rules.Kinds[(Int.toNat a1.Kind)]?) fun x6 =>
        Option.bind (Ds_l1In a1.Steps 0 x6.Steps) fun r7 =>
        if r7 = true then
          if (a1.At : Int) = (-1) then
            some true
          else
            if a1.Steps > 0 then
              Option.bind (Ds_mSize a0.Map) fun r11 =>
              Option.bind (Ds_l1In a1.At 0 (IntKind.wrap .i64 (r11 - 1))) fun r12 =>
              if r12 = true then
                Option.bind (Ds_bCost a0 a1.Kind a1.At) fun r14 =>
                some (decide (r14 > 0))
              else
                some false
            else
              some false
        else
          some false
      else none
    else
      some false
  else
    some false
/-! loop example/g00886/spec sAt -/
inductive Ss_sAt where
  | h1 (i0 : Int) (side1 : Int) (t2 : (List Gi_Unit)) (t3 : Int) (t4 : Int) (l5 : (List Int))
noncomputable def Bs_sAt : Ss_sAt → Option (Ss_sAt ⊕ ((List Int)))
  | .h1 i0 side1 t2 t3 t4 l5 =>
    if t4 < t3 then
      if 0 ≤ t4 then
        Option.bind (t2[(Int.toNat t4)]?) fun x3 =>
        if (x3.At : Int) = i0 then
          if (x3.Side : Int) = side1 then
            if (l5 ++ [t4]).length * 8 ≤ 70368744177664 then
              some (.inl (.h1 i0 side1 t2 t3 (IntKind.wrap .i64 (t4 + 1)) (l5 ++ [t4])))
            else none
          else
            some (.inl (.h1 i0 side1 t2 t3 (IntKind.wrap .i64 (t4 + 1)) l5))
        else
          some (.inl (.h1 i0 side1 t2 t3 (IntKind.wrap .i64 (t4 + 1)) l5))
      else none
    else
      some (.inr l5)
noncomputable def Ds_sAt (a0 : Gi_State) (a1 : Int) (a2 : Int) : Option ((List Int)) :=
  loop Bs_sAt (.h1 a1 a2 a0.Units ((a0.Units.length : Nat) : Int) 0 ([] : List Int))
/-! loop example/g00886/spec sGood -/
inductive Ss_sGood where
  | h1 (t0 : (List Gi_Unit)) (t1 : Int) (t2 : Int) (b3 : Gi_Board) (b4 : Gi_State)
  | h2 (t0 : (List Gi_Unit)) (t1 : Int) (t2 : Int) (b3 : Gi_Board) (b4 : Gi_State)
noncomputable def Bs_sGood : Ss_sGood → Option (Ss_sGood ⊕ (Bool))
  | .h1 t0 t1 t2 b3 b4 =>
    if t2 < t1 then
      if 0 ≤ t2 then
        Option.bind (t0[(Int.toNat t2)]?) fun x3 =>
        Option.bind (Ds_sUnit b3 x3) fun r4 =>
        if r4 = true then
          some (.inl (.h1 t0 t1 (IntKind.wrap .i64 (t2 + 1)) b3 b4))
        else
          some (.inr false)
      else none
    else
      some (.inl (.h2 b4.Units ((b4.Units.length : Nat) : Int) 0 b3 b4))
  | .h2 t0 t1 t2 b3 b4 =>
    if t2 < t1 then
      if 0 ≤ t2 then
        Option.bind (t0[(Int.toNat t2)]?) fun x3 =>
        if x3.At ≥ 0 then
          Option.bind (Ds_sAt b4 x3.At (IntKind.wrap .i64 (1 - x3.Side))) fun r5 =>
          if ((r5.length : Nat) : Int) > 0 then
            some (.inr false)
          else
            Option.bind (Ds_sAt b4 x3.At x3.Side) fun r7 =>
            if ((r7.length : Nat) : Int) > b3.Rules.Stack then
              some (.inr false)
            else
              some (.inl (.h2 t0 t1 (IntKind.wrap .i64 (t2 + 1)) b3 b4))
        else
          some (.inl (.h2 t0 t1 (IntKind.wrap .i64 (t2 + 1)) b3 b4))
      else none
    else
      some (.inr true)
noncomputable def Ds_sGood (a0 : Gi_Board) (a1 : Gi_State) : Option (Bool) :=
  Option.bind (Ds_bGood a0) fun r1 =>
  if r1 = true then
    Option.bind (Ds_l1In a1.Turn 0 a0.Rules.Turns) fun r3 =>
    if r3 = true then
      Option.bind (Ds_l1In a1.Weather 0 2) fun r5 =>
      if r5 = true then
        if ((a1.Units.length : Nat) : Int) > 12 then
          some false
        else
          loop Bs_sGood (.h1 a1.Units ((a1.Units.length : Nat) : Int) 0 a0 a1)
      else
        some false
    else
      some false
  else
    some false
/-! loop example/g00886/spec l1Most -/
noncomputable def Ds_l1Most (a0 : Int) (a1 : Int) : Option (Int) :=
  if a0 > a1 then
    some a0
  else
    some a1
/-!   loop example/g00886/spec l1Cur  place -/
noncomputable def Ds_l1Cur_place (a0 : Gs_l1Cur) (a1 : Gi_Map) : Option (Int × Gs_l1Cur) :=
  Option.bind (Ds_l1Cur_one a0 20) fun r1 =>
  if r1.1 = true then
    Option.bind (Ds_mSize a1) fun r3 =>
    Option.bind (Ds_l1Cur_among r1.2 [(-1), r3]) fun r4 =>
    some (r4.1, r4.2)
  else
    Option.bind (Ds_mSize a1) fun r3 =>
    Option.bind (Ds_l1Most r3 1) fun r4 =>
    Option.bind (Ds_l1Cur_pick r1.2 r4) fun r5 =>
    some (r5.1, r5.2)
/-!   loop example/g00886/spec l1Cur  state -/
inductive Ss_l1Cur_state where
  | h1 (t0 : Int) (b1 : Gs_l1Cur) (b2 : Gi_Board) (b3 : Int) (b4 : Int) (b5 : Int) (b6 : Int)
  | h2 (t0 : Int) (b1 : Gs_l1Cur) (b2 : Gi_Board) (b3 : Int) (b4 : Int) (b5 : Int) (b6 : Int) (l7 : (List Gi_Unit))
noncomputable def Bs_l1Cur_state : Ss_l1Cur_state → Option (Ss_l1Cur_state ⊕ (Gi_State × Gs_l1Cur))
  | .h1 t0 b1 b2 b3 b4 b5 b6 =>
    if t0 > 0 then
      Option.bind (Ds_l1Cur_pick b1 2) fun r2 =>
      Option.bind (Ds_l1Cur_pick r2.2 ((b2.Rules.Kinds.length : Nat) : Int)) fun r3 =>
      if 0 ≤ r3.1 then
        Option.bind (b2.Rules.Kinds[(Int.toNat r3.1)]?) fun x5 =>
        Option.bind (Ds_l1Cur_pick r3.2 x5.Steps) fun r6 =>
        Option.bind (Ds_l1Cur_one r6.2 8) fun r7 =>
        if r7.1 = true then
          if [(Gi_Unit.mk r2.1 r3.1 (-1) (IntKind.wrap .i64 (1 + r6.1)))].length * 32 ≤ 70368744177664 then
            Option.bind (Ds_sGood b2 (Gi_State.mk b5 b6 [(Gi_Unit.mk r2.1 r3.1 (-1) (IntKind.wrap .i64 (1 + r6.1)))])) fun r10 =>
            if r10 = true then
              some (.inl (.h2 (IntKind.wrap .i64 (t0 - 1)) r7.2 b2 b3 b4 b5 b6 [(Gi_Unit.mk r2.1 r3.1 (-1) (IntKind.wrap .i64 (1 + r6.1)))]))
            else
              if 0 ≤ (IntKind.wrap .i64 ((([(Gi_Unit.mk r2.1 r3.1 (-1) (IntKind.wrap .i64 (1 + r6.1)))].length : Nat) : Int) - 1)) then
                Option.bind ([(Gi_Unit.mk r2.1 r3.1 (-1) (IntKind.wrap .i64 (1 + r6.1)))][(Int.toNat (IntKind.wrap .i64 ((([(Gi_Unit.mk r2.1 r3.1 (-1) (IntKind.wrap .i64 (1 + r6.1)))].length : Nat) : Int) - 1)))]?) fun x13 =>
                some (.inl (.h2 (IntKind.wrap .i64 (t0 - 1)) r7.2 b2 b3 b4 b5 b6 (List.set [(Gi_Unit.mk r2.1 r3.1 (-1) (IntKind.wrap .i64 (1 + r6.1)))] (Int.toNat (IntKind.wrap .i64 ((([(Gi_Unit.mk r2.1 r3.1 (-1) (IntKind.wrap .i64 (1 + r6.1)))].length : Nat) : Int) - 1))) (Gi_Unit.mk x13.Side x13.Kind (-1) x13.Steps))))
              else none
          else none
        else
          Option.bind (Ds_l1Cur_place r7.2 b2.Map) fun r9 =>
          if [(Gi_Unit.mk r2.1 r3.1 r9.1 (IntKind.wrap .i64 (1 + r6.1)))].length * 32 ≤ 70368744177664 then
            Option.bind (Ds_sGood b2 (Gi_State.mk b5 b6 [(Gi_Unit.mk r2.1 r3.1 r9.1 (IntKind.wrap .i64 (1 + r6.1)))])) fun r11 =>
            if r11 = true then
              some (.inl (.h2 (IntKind.wrap .i64 (t0 - 1)) r9.2 b2 b3 b4 b5 b6 [(Gi_Unit.mk r2.1 r3.1 r9.1 (IntKind.wrap .i64 (1 + r6.1)))]))
            else
              if 0 ≤ (IntKind.wrap .i64 ((([(Gi_Unit.mk r2.1 r3.1 r9.1 (IntKind.wrap .i64 (1 + r6.1)))].length : Nat) : Int) - 1)) then
                Option.bind ([(Gi_Unit.mk r2.1 r3.1 r9.1 (IntKind.wrap .i64 (1 + r6.1)))][(Int.toNat (IntKind.wrap .i64 ((([(Gi_Unit.mk r2.1 r3.1 r9.1 (IntKind.wrap .i64 (1 + r6.1)))].length : Nat) : Int) - 1)))]?) fun x14 =>
                some (.inl (.h2 (IntKind.wrap .i64 (t0 - 1)) r9.2 b2 b3 b4 b5 b6 (List.set [(Gi_Unit.mk r2.1 r3.1 r9.1 (IntKind.wrap .i64 (1 + r6.1)))] (Int.toNat (IntKind.wrap .i64 ((([(Gi_Unit.mk r2.1 r3.1 r9.1 (IntKind.wrap .i64 (1 + r6.1)))].length : Nat) : Int) - 1))) (Gi_Unit.mk x14.Side x14.Kind (-1) x14.Steps))))
              else none
          else none
      else none
    else
      some (.inr ((Gi_State.mk b5 b6 []), b1))
  | .h2 t0 b1 b2 b3 b4 b5 b6 l7 =>
    if t0 > 0 then
      Option.bind (Ds_l1Cur_pick b1 2) fun r2 =>
      Option.bind (Ds_l1Cur_pick r2.2 ((b2.Rules.Kinds.length : Nat) : Int)) fun r3 =>
      if 0 ≤ r3.1 then
        Option.bind (b2.Rules.Kinds[(Int.toNat r3.1)]?) fun x5 =>
        Option.bind (Ds_l1Cur_pick r3.2 x5.Steps) fun r6 =>
        Option.bind (Ds_l1Cur_one r6.2 8) fun r7 =>
        if r7.1 = true then
          if (l7 ++ [(Gi_Unit.mk r2.1 r3.1 (-1) (IntKind.wrap .i64 (1 + r6.1)))]).length * 32 ≤ 70368744177664 then
            Option.bind (Ds_sGood b2 (Gi_State.mk b5 b6 (l7 ++ [(Gi_Unit.mk r2.1 r3.1 (-1) (IntKind.wrap .i64 (1 + r6.1)))]))) fun r10 =>
            if r10 = true then
              some (.inl (.h2 (IntKind.wrap .i64 (t0 - 1)) r7.2 b2 b3 b4 b5 b6 (l7 ++ [(Gi_Unit.mk r2.1 r3.1 (-1) (IntKind.wrap .i64 (1 + r6.1)))])))
            else
              if 0 ≤ (IntKind.wrap .i64 ((((l7 ++ [(Gi_Unit.mk r2.1 r3.1 (-1) (IntKind.wrap .i64 (1 + r6.1)))]).length : Nat) : Int) - 1)) then
                Option.bind ((l7 ++ [(Gi_Unit.mk r2.1 r3.1 (-1) (IntKind.wrap .i64 (1 + r6.1)))])[(Int.toNat (IntKind.wrap .i64 ((((l7 ++ [(Gi_Unit.mk r2.1 r3.1 (-1) (IntKind.wrap .i64 (1 + r6.1)))]).length : Nat) : Int) - 1)))]?) fun x13 =>
                some (.inl (.h2 (IntKind.wrap .i64 (t0 - 1)) r7.2 b2 b3 b4 b5 b6 (List.set (l7 ++ [(Gi_Unit.mk r2.1 r3.1 (-1) (IntKind.wrap .i64 (1 + r6.1)))]) (Int.toNat (IntKind.wrap .i64 ((((l7 ++ [(Gi_Unit.mk r2.1 r3.1 (-1) (IntKind.wrap .i64 (1 + r6.1)))]).length : Nat) : Int) - 1))) (Gi_Unit.mk x13.Side x13.Kind (-1) x13.Steps))))
              else none
          else none
        else
          Option.bind (Ds_l1Cur_place r7.2 b2.Map) fun r9 =>
          if (l7 ++ [(Gi_Unit.mk r2.1 r3.1 r9.1 (IntKind.wrap .i64 (1 + r6.1)))]).length * 32 ≤ 70368744177664 then
            Option.bind (Ds_sGood b2 (Gi_State.mk b5 b6 (l7 ++ [(Gi_Unit.mk r2.1 r3.1 r9.1 (IntKind.wrap .i64 (1 + r6.1)))]))) fun r11 =>
            if r11 = true then
              some (.inl (.h2 (IntKind.wrap .i64 (t0 - 1)) r9.2 b2 b3 b4 b5 b6 (l7 ++ [(Gi_Unit.mk r2.1 r3.1 r9.1 (IntKind.wrap .i64 (1 + r6.1)))])))
            else
              if 0 ≤ (IntKind.wrap .i64 ((((l7 ++ [(Gi_Unit.mk r2.1 r3.1 r9.1 (IntKind.wrap .i64 (1 + r6.1)))]).length : Nat) : Int) - 1)) then
                Option.bind ((l7 ++ [(Gi_Unit.mk r2.1 r3.1 r9.1 (IntKind.wrap .i64 (1 + r6.1)))])[(Int.toNat (IntKind.wrap .i64 ((((l7 ++ [(Gi_Unit.mk r2.1 r3.1 r9.1 (IntKind.wrap .i64 (1 + r6.1)))]).length : Nat) : Int) - 1)))]?) fun x14 =>
                some (.inl (.h2 (IntKind.wrap .i64 (t0 - 1)) r9.2 b2 b3 b4 b5 b6 (List.set (l7 ++ [(Gi_Unit.mk r2.1 r3.1 r9.1 (IntKind.wrap .i64 (1 + r6.1)))]) (Int.toNat (IntKind.wrap .i64 ((((l7 ++ [(Gi_Unit.mk r2.1 r3.1 r9.1 (IntKind.wrap .i64 (1 + r6.1)))]).length : Nat) : Int) - 1))) (Gi_Unit.mk x14.Side x14.Kind (-1) x14.Steps))))
              else none
          else none
      else none
    else
      some (.inr ((Gi_State.mk b5 b6 l7), b1))
noncomputable def Ds_l1Cur_state (a0 : Gs_l1Cur) (a1 : Gi_Board) : Option (Gi_State × Gs_l1Cur) :=
  Option.bind (Ds_l1Cur_pick a0 (IntKind.wrap .i64 (a1.Rules.Turns + 1))) fun r1 =>
  Option.bind (Ds_l1Cur_pick r1.2 5) fun r2 =>
  Option.bind (Ds_l1Cur_pick r2.2 6) fun r3 =>
  loop Bs_l1Cur_state (.h1 (IntKind.wrap .i64 (2 + r3.1)) r3.2 a1 0 0 r1.1 (Int.tmod r2.1 3))
/-!   loop example/g00886/spec l1Cur  anyState -/
inductive Ss_l1Cur_anyState where
  | h1 (b0 : Gs_l1Cur) (b1 : Int) (b2 : Int) (b3 : Int) (b4 : Int) (l5 : (List Gi_Unit))
noncomputable def Bs_l1Cur_anyState : Ss_l1Cur_anyState → Option (Ss_l1Cur_anyState ⊕ (Gi_State × Gs_l1Cur))
  | .h1 b0 b1 b2 b3 b4 l5 =>
    Option.bind (Ds_l1Cur_pick b0 2) fun r1 =>
    if ((l5.length : Nat) : Int) < (IntKind.wrap .i64 (12 + r1.1)) then
      if (l5 ++ [(Gi_Unit.mk 0 0 (-1) 1)]).length * 32 ≤ 70368744177664 then
        some (.inl (.h1 r1.2 b1 b2 b3 b4 (l5 ++ [(Gi_Unit.mk 0 0 (-1) 1)])))
      else none
    else
      some (.inr ((Gi_State.mk b3 b4 l5), r1.2))
noncomputable def Ds_l1Cur_anyState (a0 : Gs_l1Cur) (a1 : Gi_Board) : Option (Gi_State × Gs_l1Cur) :=
  Option.bind (Ds_bGood a1) fun r1 =>
  if r1 = true then
    Option.bind (Ds_l1Cur_state a0 a1) fun r3 =>
    Option.bind (Ds_l1Cur_pick r3.2 ((r3.1.Units.length : Nat) : Int)) fun r4 =>
    Option.bind (Ds_l1Cur_pick r4.2 24) fun r5 =>
    if (r5.1 : Int) = 0 then
      Option.bind (Ds_l1Cur_among r5.2 [(-1), a1.Rules.Turns, (IntKind.wrap .i64 (a1.Rules.Turns + 1))]) fun r7 =>
      some ((Gi_State.mk r7.1 r3.1.Weather r3.1.Units), r7.2)
    else
      if (r5.1 : Int) = 1 then
        Option.bind (Ds_l1Cur_among r5.2 [(-1), 2, 3]) fun r8 =>
        some ((Gi_State.mk r3.1.Turn r8.1 r3.1.Units), r8.2)
      else
        if (r5.1 : Int) = 2 then
          Option.bind (Ds_mSize a1.Map) fun r9 =>
          Option.bind (Ds_l1Cur_among r5.2 [(-2), (-1), r9, 0]) fun r10 =>
          if 0 ≤ r4.1 then
            Option.bind (r3.1.Units[(Int.toNat r4.1)]?) fun x12 =>
            some ((Gi_State.mk r3.1.Turn r3.1.Weather (List.set r3.1.Units (Int.toNat r4.1) (Gi_Unit.mk x12.Side x12.Kind r10.1 x12.Steps))), r10.2)
          else none
        else
          if (r5.1 : Int) = 3 then
            Option.bind (Ds_l1Cur_among r5.2 [(-1), 0, 4, 5]) fun r10 =>
            if 0 ≤ r4.1 then
              Option.bind (r3.1.Units[(Int.toNat r4.1)]?) fun x12 =>
              some ((Gi_State.mk r3.1.Turn r3.1.Weather (List.set r3.1.Units (Int.toNat r4.1) (Gi_Unit.mk x12.Side x12.Kind x12.At r10.1))), r10.2)
            else none
          else
            if (r5.1 : Int) = 4 then
              Option.bind (Ds_l1Cur_among r5.2 [(-1), 2, 1]) fun r11 =>
              if 0 ≤ r4.1 then
                Option.bind (r3.1.Units[(Int.toNat r4.1)]?) fun x13 =>
                some ((Gi_State.mk r3.1.Turn r3.1.Weather (List.set r3.1.Units (Int.toNat r4.1) (Gi_Unit.mk r11.1 x13.Kind x13.At x13.Steps))), r11.2)
              else none
            else
              if (r5.1 : Int) = 5 then
                loop Bs_l1Cur_anyState (.h1 r5.2 0 0 r3.1.Turn r3.1.Weather r3.1.Units)
              else
                some (r3.1, r5.2)
  else
    some ((Gi_State.mk 0 0 [(Gi_Unit.mk 0 0 0 1)]), a0)
/-! loop example/g00886/spec sOwn -/
noncomputable def Ds_sOwn (a0 : Gi_State) : Option (Gi_State) :=
  if a0.Units.length * 32 ≤ 70368744177664 then
    some a0
  else none
/-! loop example/g00886/spec aSide -/
inductive Ss_aSide where
  | h1 (i0 : Int) (u1 : Int) (d2 : Int) (b3 : Gi_Board) (b4 : Gi_State)
noncomputable def Bs_aSide : Ss_aSide → Option (Ss_aSide ⊕ (Int))
  | .h1 i0 u1 d2 b3 b4 =>
    if d2 < 6 then
      Option.bind (Ds_mNext b3.Map i0 d2) fun r2 =>
      if r2 ≥ 0 then
        if 0 ≤ u1 then
          Option.bind (b4.Units[(Int.toNat u1)]?) fun x5 =>
          if (r2 : Int) = x5.At then
            some (.inr d2)
          else
            some (.inl (.h1 i0 u1 (IntKind.wrap .i64 (d2 + 1)) b3 b4))
        else none
      else
        some (.inl (.h1 i0 u1 (IntKind.wrap .i64 (d2 + 1)) b3 b4))
    else
      some (.inr (-1))
noncomputable def Ds_aSide (a0 : Gi_Board) (a1 : Gi_State) (a2 : Int) (a3 : Int) : Option (Int) :=
  loop Bs_aSide (.h1 a2 a3 0 a0 a1)
/-!   loop example/g00886/spec l1Cur  fought -/
inductive Ss_l1Cur_fought where
  | h1 (t0 : Int) (b1 : Gs_l1Cur) (b2 : Int) (b3 : Int) (b4 : Int) (b5 : Int) (b6 : Int) (b7 : Int) (b8 : Int) (b9 : Int) (b10 : Int) (b11 : Int) (b12 : Int) (b13 : Int) (b14 : Int) (b15 : Int) (b16 : Int) (b17 : Int) (b18 : Int) (b19 : Int) (l20 : (List Gi_Terrain)) (l21 : (List Gi_Kind)) (l22 : (List Int)) (l23 : (List Int)) (l24 : (List Int)) (l25 : (List Gi_Unit))
  | h2 (t0 : Int) (t1 : Int) (b2 : Gs_l1Cur) (b3 : Int) (b4 : Int) (b5 : Int) (b6 : Int) (b7 : Int) (b8 : Int) (b9 : Int) (b10 : Int) (b11 : Int) (b12 : Int) (b13 : Int) (b14 : Int) (b15 : Int) (b16 : Int) (b17 : Int) (b18 : Int) (b19 : Int) (b20 : Int) (l21 : (List Gi_Attack)) (l22 : (List Gi_Terrain)) (l23 : (List Gi_Kind)) (l24 : (List Int)) (l25 : (List Int)) (l26 : (List Int)) (l27 : (List Gi_Unit))
  | h3 (t0 : Int) (t1 : Int) (t2 : Int) (t3 : Int) (t4 : Int) (b5 : Gs_l1Cur) (b6 : Int) (b7 : Int) (b8 : Int) (b9 : Int) (b10 : Int) (b11 : Int) (b12 : Int) (b13 : Int) (b14 : Int) (b15 : Int) (b16 : Int) (b17 : Int) (b18 : Int) (b19 : Int) (b20 : Int) (b21 : Int) (b22 : Int) (b23 : Int) (l24 : (List Gi_Attack)) (l25 : (List Gi_Terrain)) (l26 : (List Gi_Kind)) (l27 : (List Int)) (l28 : (List Int)) (l29 : (List Int)) (l30 : (List Gi_Unit))
noncomputable def Bs_l1Cur_fought : Ss_l1Cur_fought → Option (Ss_l1Cur_fought ⊕ (Gi_Board × Gi_State × (List Gi_Attack) × Gs_l1Cur))
  | .h1 t0 b1 b2 b3 b4 b5 b6 b7 b8 b9 b10 b11 b12 b13 b14 b15 b16 b17 b18 b19 l20 l21 l22 l23 l24 l25 =>
    if t0 > 0 then
      Option.bind (Ds_l1Cur_pick b1 ((l25.length : Nat) : Int)) fun r2 =>
      Option.bind (Ds_l1Cur_pick r2.2 ((l25.length : Nat) : Int)) fun r3 =>
      if 0 ≤ r3.1 then
        Option.bind (l25[(Int.toNat r3.1)]?) fun x5 =>
        if x5.At < 0 then
          some (.inl (.h1 (IntKind.wrap .i64 (t0 - 1)) r3.2 b2 b3 b4 b5 b6 b7 b8 b9 b10 b11 b12 b13 b14 b15 b16 b17 b18 b19 l20 l21 l22 l23 l24 l25))
        else
          if 0 ≤ r2.1 then
            Option.bind (l25[(Int.toNat r2.1)]?) fun x8 =>
            if (x8.Steps : Int) = 0 then
              some (.inl (.h1 (IntKind.wrap .i64 (t0 - 1)) r3.2 b2 b3 b4 b5 b6 b7 b8 b9 b10 b11 b12 b13 b14 b15 b16 b17 b18 b19 l20 l21 l22 l23 l24 l25))
            else
              if 0 ≤ r3.1 then
                Option.bind (l25[(Int.toNat r3.1)]?) fun x11 =>
                Option.bind (Ds_l1Cur_pick r3.2 6) fun r12 =>
                Option.bind (Ds_mNext (Gi_Map.mk b16 b17 l22 l23 l24) x11.At r12.1) fun r13 =>
                if r13 ≥ 0 then
                  Option.bind (Ds_sOwn (Gi_State.mk b18 b19 l25)) fun r15 =>
                  if 0 ≤ r2.1 then
                    Option.bind (r15.Units[(Int.toNat r2.1)]?) fun x17 =>
                    Option.bind (Ds_sGood (Gi_Board.mk (Gi_Rules.mk l20 l21 b11 b12 b13 b14 b15) (Gi_Map.mk b16 b17 l22 l23 l24)) (Gi_State.mk r15.Turn r15.Weather (List.set r15.Units (Int.toNat r2.1) (Gi_Unit.mk x17.Side x17.Kind r13 x17.Steps)))) fun r18 =>
                    if r18 = true then
                      some (.inl (.h1 (IntKind.wrap .i64 (t0 - 1)) r12.2 b2 b3 b4 b5 b6 b7 b8 b9 b10 b11 b12 b13 b14 b15 b16 b17 r15.Turn r15.Weather l20 l21 l22 l23 l24 (List.set r15.Units (Int.toNat r2.1) (Gi_Unit.mk x17.Side x17.Kind r13 x17.Steps))))
                    else
                      some (.inl (.h1 (IntKind.wrap .i64 (t0 - 1)) r12.2 b2 b3 b4 b5 b6 b7 b8 b9 b10 b11 b12 b13 b14 b15 b16 b17 b18 b19 l20 l21 l22 l23 l24 l25))
                  else none
                else
                  some (.inl (.h1 (IntKind.wrap .i64 (t0 - 1)) r12.2 b2 b3 b4 b5 b6 b7 b8 b9 b10 b11 b12 b13 b14 b15 b16 b17 b18 b19 l20 l21 l22 l23 l24 l25))
              else none
          else none
      else none
    else
      some (.inl (.h2 ((l25.length : Nat) : Int) 0 b1 b2 b3 b4 b5 b6 b7 b8 b9 b10 b11 b12 b13 b14 b15 b16 b17 b18 b19 ([] : List Gi_Attack) l20 l21 l22 l23 l24 l25))
  | .h2 t0 t1 b2 b3 b4 b5 b6 b7 b8 b9 b10 b11 b12 b13 b14 b15 b16 b17 b18 b19 b20 l21 l22 l23 l24 l25 l26 l27 =>
    if t1 < t0 then
      some (.inl (.h3 t1 t0 t1 ((l27.length : Nat) : Int) 0 b2 b3 b4 b5 b6 b7 b8 b9 b10 b11 b12 b13 b14 b15 b16 b17 b18 b19 b20 l21 l22 l23 l24 l25 l26 l27))
    else
      if ((l21.length : Nat) : Int) > 24 then
        if (24 : Int) ≤ ((l21.length : Nat) : Int) then
          Option.bind (Ds_l1Cur_pick b2 16) fun r4 =>
          if (r4.1 : Int) = 0 then
            Option.bind (Ds_l1Cur_among r4.2 [(-1), 0, 12]) fun r6 =>
            Option.bind (Ds_l1Cur_among r6.2 [(-1), 0, 3, 100]) fun r7 =>
            if ((List.take ((Int.toNat 24) - 0) (List.drop 0 l21)) ++ [(Gi_Attack.mk r6.1 r7.1)]).length * 16 ≤ 70368744177664 then
              some (.inr ((Gi_Board.mk (Gi_Rules.mk l22 l23 b12 b13 b14 b15 b16) (Gi_Map.mk b17 b18 l24 l25 l26)), (Gi_State.mk b19 b20 l27), ((List.take ((Int.toNat 24) - 0) (List.drop 0 l21)) ++ [(Gi_Attack.mk r6.1 r7.1)]), r7.2))
            else none
          else
            if (r4.1 : Int) = 1 then
              if ((List.take ((Int.toNat 24) - 0) (List.drop 0 l21)) ++ (List.take ((Int.toNat 24) - 0) (List.drop 0 l21))).length * 16 ≤ 70368744177664 then
                some (.inr ((Gi_Board.mk (Gi_Rules.mk l22 l23 b12 b13 b14 b15 b16) (Gi_Map.mk b17 b18 l24 l25 l26)), (Gi_State.mk b19 b20 l27), ((List.take ((Int.toNat 24) - 0) (List.drop 0 l21)) ++ (List.take ((Int.toNat 24) - 0) (List.drop 0 l21))), r4.2))
              else none
            else
              some (.inr ((Gi_Board.mk (Gi_Rules.mk l22 l23 b12 b13 b14 b15 b16) (Gi_Map.mk b17 b18 l24 l25 l26)), (Gi_State.mk b19 b20 l27), (List.take ((Int.toNat 24) - 0) (List.drop 0 l21)), r4.2))
        else none
      else
        Option.bind (Ds_l1Cur_pick b2 16) fun r3 =>
        if (r3.1 : Int) = 0 then
          Option.bind (Ds_l1Cur_among r3.2 [(-1), 0, 12]) fun r5 =>
          Option.bind (Ds_l1Cur_among r5.2 [(-1), 0, 3, 100]) fun r6 =>
          if (l21 ++ [(Gi_Attack.mk r5.1 r6.1)]).length * 16 ≤ 70368744177664 then
            some (.inr ((Gi_Board.mk (Gi_Rules.mk l22 l23 b12 b13 b14 b15 b16) (Gi_Map.mk b17 b18 l24 l25 l26)), (Gi_State.mk b19 b20 l27), (l21 ++ [(Gi_Attack.mk r5.1 r6.1)]), r6.2))
          else none
        else
          if (r3.1 : Int) = 1 then
            if (l21 ++ l21).length * 16 ≤ 70368744177664 then
              some (.inr ((Gi_Board.mk (Gi_Rules.mk l22 l23 b12 b13 b14 b15 b16) (Gi_Map.mk b17 b18 l24 l25 l26)), (Gi_State.mk b19 b20 l27), (l21 ++ l21), r3.2))
            else none
          else
            some (.inr ((Gi_Board.mk (Gi_Rules.mk l22 l23 b12 b13 b14 b15 b16) (Gi_Map.mk b17 b18 l24 l25 l26)), (Gi_State.mk b19 b20 l27), l21, r3.2))
  | .h3 t0 t1 t2 t3 t4 b5 b6 b7 b8 b9 b10 b11 b12 b13 b14 b15 b16 b17 b18 b19 b20 b21 b22 b23 l24 l25 l26 l27 l28 l29 l30 =>
    if t4 < t3 then
      if 0 ≤ t0 then
        Option.bind (l30[(Int.toNat t0)]?) fun x3 =>
        if 0 ≤ t4 then
          Option.bind (l30[(Int.toNat t4)]?) fun x5 =>
          if (x3.Side : Int) = x5.Side then
            some (.inl (.h3 t0 t1 t2 t3 (IntKind.wrap .i64 (t4 + 1)) b5 b6 b7 b8 b9 b10 b11 b12 b13 b14 b15 b16 b17 b18 b19 b20 b21 b22 b23 l24 l25 l26 l27 l28 l29 l30))
          else
            if 0 ≤ t4 then
              Option.bind (l30[(Int.toNat t4)]?) fun x8 =>
              if x8.At ≥ 0 then
                if 0 ≤ t4 then
                  Option.bind (l30[(Int.toNat t4)]?) fun x11 =>
                  Option.bind (Ds_aSide (Gi_Board.mk (Gi_Rules.mk l25 l26 b15 b16 b17 b18 b19) (Gi_Map.mk b20 b21 l27 l28 l29)) (Gi_State.mk b22 b23 l30) x11.At t0) fun r12 =>
                  if r12 ≥ 0 then
                    Option.bind (Ds_l1Cur_one b5 4) fun r14 =>
                    if r14.1 = true then
                      some (.inl (.h3 t0 t1 t2 t3 (IntKind.wrap .i64 (t4 + 1)) r14.2 b6 b7 b8 b9 b10 b11 b12 b13 b14 b15 b16 b17 b18 b19 b20 b21 b22 b23 l24 l25 l26 l27 l28 l29 l30))
                    else
                      if 0 ≤ t4 then
                        Option.bind (l30[(Int.toNat t4)]?) fun x17 =>
                        if (l24 ++ [(Gi_Attack.mk t0 x17.At)]).length * 16 ≤ 70368744177664 then
                          some (.inl (.h3 t0 t1 t2 t3 (IntKind.wrap .i64 (t4 + 1)) r14.2 b6 b7 b8 b9 b10 b11 b12 b13 b14 b15 b16 b17 b18 b19 b20 b21 b22 b23 (l24 ++ [(Gi_Attack.mk t0 x17.At)]) l25 l26 l27 l28 l29 l30))
                        else none
                      else none
                  else
                    some (.inl (.h3 t0 t1 t2 t3 (IntKind.wrap .i64 (t4 + 1)) b5 b6 b7 b8 b9 b10 b11 b12 b13 b14 b15 b16 b17 b18 b19 b20 b21 b22 b23 l24 l25 l26 l27 l28 l29 l30))
                else none
              else
                some (.inl (.h3 t0 t1 t2 t3 (IntKind.wrap .i64 (t4 + 1)) b5 b6 b7 b8 b9 b10 b11 b12 b13 b14 b15 b16 b17 b18 b19 b20 b21 b22 b23 l24 l25 l26 l27 l28 l29 l30))
            else none
        else none
      else none
    else
      some (.inl (.h2 t1 (IntKind.wrap .i64 (t2 + 1)) b5 b6 b7 b8 b9 b10 b11 b12 b13 b14 b15 b16 b17 b18 b19 b20 b21 b22 b23 l24 l25 l26 l27 l28 l29 l30))
noncomputable def Ds_l1Cur_fought (a0 : Gs_l1Cur) : Option (Gi_Board × Gi_State × (List Gi_Attack) × Gs_l1Cur) :=
  Option.bind (Ds_l1Cur_anyBoard a0) fun r1 =>
  Option.bind (Ds_l1Cur_anyState r1.2 r1.1) fun r2 =>
  Option.bind (Ds_sGood r1.1 r2.1) fun r3 =>
  if r3 = true then
    Option.bind (Ds_l1Cur_pick r2.2 5) fun r5 =>
    loop Bs_l1Cur_fought (.h1 r5.1 r5.2 0 0 0 0 0 0 0 0 0 r1.1.Rules.Stack r1.1.Rules.River r1.1.Rules.Road r1.1.Rules.Supply r1.1.Rules.Turns r1.1.Map.Width r1.1.Map.Height r2.1.Turn r2.1.Weather r1.1.Rules.Terrains r1.1.Rules.Kinds r1.1.Map.Terrain r1.1.Map.Rivers r1.1.Map.Roads r2.1.Units)
  else
    some (r1.1, r2.1, [(Gi_Attack.mk 0 0)], r2.2)
/-! loop example/g00886/spec DrawBattlesOf -/
noncomputable def Ds_DrawBattlesOf (a0 : (List Int)) : Option (Gi_Board × Gi_State × (List Gi_Attack)) :=
  Option.bind (Ds_l1Cur_fought (Gs_l1Cur.mk a0 0 0)) fun r1 =>
  some (r1.1, r1.2.1, r1.2.2.1)
/-! loop example/g00886/impl inRange -/
noncomputable def Di_inRange (a0 : Int) (a1 : Int) (a2 : Int) : Option (Bool) :=
  if a1 ≤ a0 then
    some (decide (a0 ≤ a2))
  else
    some false
/-! loop example/g00886/impl isName -/
inductive Si_isName where
  | h1 (s0 : ByteArray) (i1 : Int)
noncomputable def Bi_isName : Si_isName → Option (Si_isName ⊕ (Bool))
  | .h1 s0 i1 =>
    if i1 < ((ByteArray.size s0 : Nat) : Int) then
      if 0 ≤ i1 then
        if i1 < (ByteArray.size s0 : Int) then
          if ((byteAt s0 (Int.toNat i1) : Nat) : Int) < 97 then
            some (.inr false)
          else
            if 0 ≤ i1 then
              if i1 < (ByteArray.size s0 : Int) then
                if ((byteAt s0 (Int.toNat i1) : Nat) : Int) > 122 then
                  some (.inr false)
                else
                  some (.inl (.h1 s0 (IntKind.wrap .i64 (i1 + 1))))
              else none
            else none
        else none
      else none
    else
      Option.bind (Di_inRange ((ByteArray.size s0 : Nat) : Int) 1 8) fun r2 =>
      some (.inr r2)
noncomputable def Di_isName (a0 : ByteArray) : Option (Bool) :=
  loop Bi_isName (.h1 a0 0)
/-! loop example/g00886/impl goodTerrain 1 -/
noncomputable def Di_goodTerrain_1 (a0 : Int) : Option (Bool) :=
  Option.bind (Di_inRange a0 0 9) fun r1 =>
  some (!r1)
/-! slices IndexFunc   int int  -/
inductive Sslices_IndexFunc_int_i_goodTerrain_1 where
  | h1 (s0 : (List Int)) (t1 : Int) (t2 : Int)
noncomputable def Bslices_IndexFunc_int_i_goodTerrain_1 : Sslices_IndexFunc_int_i_goodTerrain_1 → Option (Sslices_IndexFunc_int_i_goodTerrain_1 ⊕ (Int))
  | .h1 s0 t1 t2 =>
    if t2 < t1 then
      if 0 ≤ t2 then
        Option.bind (s0[(Int.toNat t2)]?) fun x3 =>
        Option.bind (Di_goodTerrain_1 x3) fun r4 =>
        if r4 = true then
          some (.inr t2)
        else
          some (.inl (.h1 s0 t1 (IntKind.wrap .i64 (t2 + 1))))
      else none
    else
      some (.inr (-1))
noncomputable def Dslices_IndexFunc_int_i_goodTerrain_1 (a0 : (List Int)) : Option (Int) :=
  loop Bslices_IndexFunc_int_i_goodTerrain_1 (.h1 a0 ((a0.length : Nat) : Int) 0)
/-! slices ContainsFunc   int int  -/
noncomputable def Dslices_ContainsFunc_int_i_goodTerrain_1 (a0 : (List Int)) : Option (Bool) :=
  Option.bind (Dslices_IndexFunc_int_i_goodTerrain_1 a0) fun r1 =>
  some (decide (r1 ≥ 0))
/-! loop example/g00886/impl goodTerrain -/
noncomputable def Di_goodTerrain (a0 : Gi_Terrain) (a1 : Int) : Option (Bool) :=
  Option.bind (Di_isName a0.Name) fun r1 =>
  if r1 = true then
    if (((a0.Cost.length : Nat) : Int) : Int) = a1 then
      Option.bind (Di_inRange a0.Shift (-3) 3) fun r4 =>
      if r4 = true then
        Option.bind (Di_inRange a0.Height 0 3) fun r6 =>
        if r6 = true then
          Option.bind (Dslices_ContainsFunc_int_i_goodTerrain_1 a0.Cost) fun r8 =>
          some (!r8)
        else
          some false
      else
        some false
    else
      some false
  else
    some false
/-! loop example/g00886/impl terrainIndex 1 -/
noncomputable def Di_terrainIndex_1 (a0 : Gi_Terrain) (a1 : ByteArray) : Option (Bool) :=
  some (a0.Name == a1)
/-! slices IndexFunc   loop example/g00886/impl Terrain loop example/g00886/impl Terrain  -/
inductive Sslices_IndexFunc_i_Terrain_i_terrainIndex_1 where
  | h1 (s0 : (List Gi_Terrain)) (f1 : ByteArray) (t2 : Int) (t3 : Int)
noncomputable def Bslices_IndexFunc_i_Terrain_i_terrainIndex_1 : Sslices_IndexFunc_i_Terrain_i_terrainIndex_1 → Option (Sslices_IndexFunc_i_Terrain_i_terrainIndex_1 ⊕ (Int))
  | .h1 s0 f1 t2 t3 =>
    if t3 < t2 then
      if 0 ≤ t3 then
        Option.bind (s0[(Int.toNat t3)]?) fun x3 =>
        Option.bind (Di_terrainIndex_1 x3 f1) fun r4 =>
        if r4 = true then
          some (.inr t3)
        else
          some (.inl (.h1 s0 f1 t2 (IntKind.wrap .i64 (t3 + 1))))
      else none
    else
      some (.inr (-1))
noncomputable def Dslices_IndexFunc_i_Terrain_i_terrainIndex_1 (a0 : (List Gi_Terrain)) (a100 : ByteArray) : Option (Int) :=
  loop Bslices_IndexFunc_i_Terrain_i_terrainIndex_1 (.h1 a0 a100 ((a0.length : Nat) : Int) 0)
/-! loop example/g00886/impl terrainIndex -/
noncomputable def Di_terrainIndex (a0 : (List Gi_Terrain)) (a1 : ByteArray) : Option (Int) :=
  Option.bind (Dslices_IndexFunc_i_Terrain_i_terrainIndex_1 a0 a1) fun r1 =>
  some r1
/-! loop example/g00886/impl goodKind -/
noncomputable def Di_goodKind (a0 : Gi_Kind) : Option (Bool) :=
  Option.bind (Di_isName a0.Name) fun r1 =>
  if r1 = true then
    Option.bind (Di_inRange a0.Strength 1 9) fun r3 =>
    if r3 = true then
      Option.bind (Di_inRange a0.Moves 0 9) fun r5 =>
      if r5 = true then
        Option.bind (Di_inRange a0.Steps 1 4) fun r7 =>
        if r7 = true then
          Option.bind (Di_inRange a0.View 0 4) fun r9 =>
          some r9
        else
          some false
      else
        some false
    else
      some false
  else
    some false
/-! loop example/g00886/impl kindIndex 1 -/
noncomputable def Di_kindIndex_1 (a0 : Gi_Kind) (a1 : ByteArray) : Option (Bool) :=
  some (a0.Name == a1)
/-! slices IndexFunc   loop example/g00886/impl Kind loop example/g00886/impl Kind  -/
inductive Sslices_IndexFunc_i_Kind_i_kindIndex_1 where
  | h1 (s0 : (List Gi_Kind)) (f1 : ByteArray) (t2 : Int) (t3 : Int)
noncomputable def Bslices_IndexFunc_i_Kind_i_kindIndex_1 : Sslices_IndexFunc_i_Kind_i_kindIndex_1 → Option (Sslices_IndexFunc_i_Kind_i_kindIndex_1 ⊕ (Int))
  | .h1 s0 f1 t2 t3 =>
    if t3 < t2 then
      if 0 ≤ t3 then
        Option.bind (s0[(Int.toNat t3)]?) fun x3 =>
        Option.bind (Di_kindIndex_1 x3 f1) fun r4 =>
        if r4 = true then
          some (.inr t3)
        else
          some (.inl (.h1 s0 f1 t2 (IntKind.wrap .i64 (t3 + 1))))
      else none
    else
      some (.inr (-1))
noncomputable def Dslices_IndexFunc_i_Kind_i_kindIndex_1 (a0 : (List Gi_Kind)) (a100 : ByteArray) : Option (Int) :=
  loop Bslices_IndexFunc_i_Kind_i_kindIndex_1 (.h1 a0 a100 ((a0.length : Nat) : Int) 0)
/-! loop example/g00886/impl kindIndex -/
noncomputable def Di_kindIndex (a0 : (List Gi_Kind)) (a1 : ByteArray) : Option (Int) :=
  Option.bind (Dslices_IndexFunc_i_Kind_i_kindIndex_1 a0 a1) fun r1 =>
  some r1
/-! loop example/g00886/impl IsRules -/
inductive Si_IsRules where
  | h1 (t0 : (List Gi_Terrain)) (t1 : Int) (t2 : Int) (b3 : Gi_Rules)
  | h2 (t0 : (List Gi_Kind)) (t1 : Int) (t2 : Int) (b3 : Gi_Rules)
noncomputable def Bi_IsRules : Si_IsRules → Option (Si_IsRules ⊕ (Bool))
  | .h1 t0 t1 t2 b3 =>
    if t2 < t1 then
      if 0 ≤ t2 then
        Option.bind (t0[(Int.toNat t2)]?) fun x3 =>
        Option.bind (Di_goodTerrain x3 ((b3.Kinds.length : Nat) : Int)) fun r4 =>
        if r4 = true then
          Option.bind (Di_terrainIndex b3.Terrains x3.Name) fun r6 =>
          if (r6 : Int) = t2 then
            some (.inl (.h1 t0 t1 (IntKind.wrap .i64 (t2 + 1)) b3))
          else
            some (.inr false)
        else
          some (.inr false)
      else none
    else
      some (.inl (.h2 b3.Kinds ((b3.Kinds.length : Nat) : Int) 0 b3))
  | .h2 t0 t1 t2 b3 =>
    if t2 < t1 then
      if 0 ≤ t2 then
        Option.bind (t0[(Int.toNat t2)]?) fun x3 =>
        Option.bind (Di_goodKind x3) fun r4 =>
        if r4 = true then
          Option.bind (Di_kindIndex b3.Kinds x3.Name) fun r6 =>
          if (r6 : Int) = t2 then
            some (.inl (.h2 t0 t1 (IntKind.wrap .i64 (t2 + 1)) b3))
          else
            some (.inr false)
        else
          some (.inr false)
      else none
    else
      Option.bind (Di_inRange b3.Stack 1 4) fun r2 =>
      if r2 = true then
        Option.bind (Di_inRange b3.River 0 9) fun r4 =>
        if r4 = true then
          Option.bind (Di_inRange b3.Road 1 9) fun r6 =>
          if r6 = true then
            Option.bind (Di_inRange b3.Supply 0 20) fun r8 =>
            if r8 = true then
              Option.bind (Di_inRange b3.Turns 1 30) fun r10 =>
              some (.inr r10)
            else
              some (.inr false)
          else
            some (.inr false)
        else
          some (.inr false)
      else
        some (.inr false)
noncomputable def Di_IsRules (a0 : Gi_Rules) : Option (Bool) :=
  Option.bind (Di_inRange ((a0.Terrains.length : Nat) : Int) 1 6) fun r1 =>
  if r1 = true then
    Option.bind (Di_inRange ((a0.Kinds.length : Nat) : Int) 1 4) fun r3 =>
    if r3 = true then
      loop Bi_IsRules (.h1 a0.Terrains ((a0.Terrains.length : Nat) : Int) 0 a0)
    else
      some false
  else
    some false
/-! loop example/g00886/impl isIndex -/
noncomputable def Di_isIndex (a0 : Int) (a1 : Int) : Option (Bool) :=
  Option.bind (Di_inRange a0 0 (IntKind.wrap .i64 (a1 - 1))) fun r1 =>
  some r1
/-! loop example/g00886/impl increasing -/
inductive Si_increasing where
  | h1 (list0 : (List Int)) (i1 : Int)
noncomputable def Bi_increasing : Si_increasing → Option (Si_increasing ⊕ (Bool))
  | .h1 list0 i1 =>
    if i1 < ((list0.length : Nat) : Int) then
      if 0 ≤ (IntKind.wrap .i64 (i1 - 1)) then
        Option.bind (list0[(Int.toNat (IntKind.wrap .i64 (i1 - 1)))]?) fun x3 =>
        if 0 ≤ i1 then
          Option.bind (list0[(Int.toNat i1)]?) fun x5 =>
          if x3 ≥ x5 then
            some (.inr false)
          else
            some (.inl (.h1 list0 (IntKind.wrap .i64 (i1 + 1))))
        else none
      else none
    else
      some (.inr true)
noncomputable def Di_increasing (a0 : (List Int)) : Option (Bool) :=
  loop Bi_increasing (.h1 a0 1)
/-! loop example/g00886/impl hexOf -/
noncomputable def Di_hexOf (a0 : Gi_Map) (a1 : Int) : Option (Gi_Hex) :=
  if ¬ a0.Width = 0 then
    if ¬ a0.Width = 0 then
      some (Gi_Hex.mk (Int.tmod a1 a0.Width) (IntKind.wrap .i64 (Int.tdiv a1 a0.Width)))
    else none
  else none
/-! loop example/g00886/impl stepBy -/
noncomputable def Di_stepBy (a0 : Gi_Hex) (a1 : Int) (a2 : Int) : Option (Gi_Hex) :=
  if 0 ≤ a1 then
    Option.bind (gv0[Int.toNat a1]?) fun x2 =>
    if 0 ≤ a1 then
      Option.bind (gv0[Int.toNat a1]?) fun x4 =>
      some (Gi_Hex.mk (IntKind.wrap .i64 (a0.Q + (IntKind.wrap .i64 (a2 * x2.Q)))) (IntKind.wrap .i64 (a0.R + (IntKind.wrap .i64 (a2 * x4.R)))))
    else none
  else none
/-! loop example/g00886/impl indexOf -/
noncomputable def Di_indexOf (a0 : Gi_Map) (a1 : Gi_Hex) : Option (Int) :=
  Option.bind (Di_isIndex a1.Q a0.Width) fun r1 =>
  if r1 = true then
    Option.bind (Di_isIndex a1.R a0.Height) fun r3 =>
    if r3 = true then
      some (IntKind.wrap .i64 ((IntKind.wrap .i64 (a1.R * a0.Width)) + a1.Q))
    else
      some (-1)
  else
    some (-1)
/-! loop example/g00886/impl nextTo -/
noncomputable def Di_nextTo (a0 : Gi_Map) (a1 : Int) (a2 : Int) : Option (Int) :=
  Option.bind (Di_hexOf a0 a1) fun r1 =>
  Option.bind (Di_stepBy r1 a2 1) fun r2 =>
  Option.bind (Di_indexOf a0 r2) fun r3 =>
  some r3
/-! loop example/g00886/impl isEdge -/
noncomputable def Di_isEdge (a0 : Gi_Map) (a1 : Int) : Option (Bool) :=
  Option.bind (Di_inRange a1 0 (IntKind.wrap .i64 ((IntKind.wrap .i64 ((IntKind.wrap .i64 (3 * a0.Width)) * a0.Height)) - 1))) fun r1 =>
  if r1 = true then
    Option.bind (Di_nextTo a0 (IntKind.wrap .i64 (Int.tdiv a1 3)) (Int.tmod a1 3)) fun r3 =>
    some (decide (r3 ≥ 0))
  else
    some false
/-! loop example/g00886/impl IsMap -/
inductive Si_IsMap where
  | h1 (t0 : (List Int)) (t1 : Int) (t2 : Int) (b3 : Gi_Map)
  | h2 (t0 : Int) (t1 : Int) (b2 : Gi_Map) (l3 : (List (List Int)))
  | h3 (t0 : Int) (t1 : Int) (t2 : (List Int)) (t3 : Int) (t4 : Int) (b5 : Gi_Map) (l6 : (List (List Int)))
noncomputable def Bi_IsMap : Si_IsMap → Option (Si_IsMap ⊕ (Bool))
  | .h1 t0 t1 t2 b3 =>
    if t2 < t1 then
      if 0 ≤ t2 then
        Option.bind (t0[(Int.toNat t2)]?) fun x3 =>
        Option.bind (Di_isIndex x3 6) fun r4 =>
        if r4 = true then
          some (.inl (.h1 t0 t1 (IntKind.wrap .i64 (t2 + 1)) b3))
        else
          some (.inr false)
      else none
    else
      some (.inl (.h2 (([b3.Rivers, b3.Roads].length : Nat) : Int) 0 b3 [b3.Rivers, b3.Roads]))
  | .h2 t0 t1 b2 l3 =>
    if t1 < t0 then
      if 0 ≤ t1 then
        Option.bind (l3[(Int.toNat t1)]?) fun x3 =>
        Option.bind (Di_increasing x3) fun r4 =>
        if r4 = true then
          some (.inl (.h3 t0 t1 x3 ((x3.length : Nat) : Int) 0 b2 l3))
        else
          some (.inr false)
      else none
    else
      some (.inr true)
  | .h3 t0 t1 t2 t3 t4 b5 l6 =>
    if t4 < t3 then
      if 0 ≤ t4 then
        Option.bind (t2[(Int.toNat t4)]?) fun x3 =>
        Option.bind (Di_isEdge b5 x3) fun r4 =>
        if r4 = true then
          some (.inl (.h3 t0 t1 t2 t3 (IntKind.wrap .i64 (t4 + 1)) b5 l6))
        else
          some (.inr false)
      else none
    else
      some (.inl (.h2 t0 (IntKind.wrap .i64 (t1 + 1)) b5 l6))
noncomputable def Di_IsMap (a0 : Gi_Map) : Option (Bool) :=
  Option.bind (Di_inRange a0.Width 1 10) fun r1 =>
  if r1 = true then
    Option.bind (Di_inRange a0.Height 1 10) fun r3 =>
    if r3 = true then
      if (((a0.Terrain.length : Nat) : Int) : Int) = (IntKind.wrap .i64 (a0.Width * a0.Height)) then
        loop Bi_IsMap (.h1 a0.Terrain ((a0.Terrain.length : Nat) : Int) 0 a0)
      else
        some false
    else
      some false
  else
    some false
/-! loop example/g00886/impl IsBoard 1 -/
noncomputable def Di_IsBoard_1 (a0 : Int) (a1 : Gi_Board) : Option (Bool) :=
  some (decide (a0 ≥ ((a1.Rules.Terrains.length : Nat) : Int)))
/-! slices IndexFunc   int int  -/
inductive Sslices_IndexFunc_int_i_IsBoard_1 where
  | h1 (s0 : (List Int)) (f1 : Gi_Board) (t2 : Int) (t3 : Int)
noncomputable def Bslices_IndexFunc_int_i_IsBoard_1 : Sslices_IndexFunc_int_i_IsBoard_1 → Option (Sslices_IndexFunc_int_i_IsBoard_1 ⊕ (Int))
  | .h1 s0 f1 t2 t3 =>
    if t3 < t2 then
      if 0 ≤ t3 then
        Option.bind (s0[(Int.toNat t3)]?) fun x3 =>
        Option.bind (Di_IsBoard_1 x3 f1) fun r4 =>
        if r4 = true then
          some (.inr t3)
        else
          some (.inl (.h1 s0 f1 t2 (IntKind.wrap .i64 (t3 + 1))))
      else none
    else
      some (.inr (-1))
noncomputable def Dslices_IndexFunc_int_i_IsBoard_1 (a0 : (List Int)) (a100 : Gi_Board) : Option (Int) :=
  loop Bslices_IndexFunc_int_i_IsBoard_1 (.h1 a0 a100 ((a0.length : Nat) : Int) 0)
/-! slices ContainsFunc   int int  -/
noncomputable def Dslices_ContainsFunc_int_i_IsBoard_1 (a0 : (List Int)) (a100 : Gi_Board) : Option (Bool) :=
  Option.bind (Dslices_IndexFunc_int_i_IsBoard_1 a0 a100) fun r1 =>
  some (decide (r1 ≥ 0))
/-! loop example/g00886/impl IsBoard -/
noncomputable def Di_IsBoard (a0 : Gi_Board) : Option (Bool) :=
  Option.bind (Di_IsRules a0.Rules) fun r1 =>
  if r1 = true then
    Option.bind (Di_IsMap a0.Map) fun r3 =>
    if r3 = true then
      Option.bind (Dslices_ContainsFunc_int_i_IsBoard_1 a0.Map.Terrain a0) fun r5 =>
      some (!r5)
    else
      some false
  else
    some false
/-! loop example/g00886/impl sizeOf -/
noncomputable def Di_sizeOf (a0 : Gi_Board) : Option (Int) :=
  some ((a0.Map.Terrain.length : Nat) : Int)
/-! loop example/g00886/impl isSide -/
noncomputable def Di_isSide (a0 : Int) : Option (Bool) :=
  Option.bind (Di_inRange a0 0 1) fun r1 =>
  some r1
/-! loop example/g00886/impl terrainAt -/
noncomputable def Di_terrainAt (a0 : Gi_Board) (a1 : Int) : Option (Gi_Terrain) :=
  if 0 ≤ a1 then
    Option.bind (a0.Map.Terrain[(Int.toNat a1)]?) fun x2 =>
    if 0 ≤ x2 then
      Option.bind (a0.Rules.Terrains[(Int.toNat x2)]?) fun x4 =>
      some x4
    else none
  else none
/-! loop example/g00886/impl enterCost -/
noncomputable def Di_enterCost (a0 : Gi_Board) (a1 : Int) (a2 : Int) : Option (Int) :=
  Option.bind (Di_terrainAt a0 a2) fun r1 =>
  if 0 ≤ a1 then
    Option.bind (r1.Cost[(Int.toNat a1)]?) fun x3 =>
    some x3
  else none
/-! loop example/g00886/impl goodUnit -/
noncomputable def Di_goodUnit (a0 : Gi_Board) (a1 : Gi_Unit) : Option (Bool) :=
  Option.bind (Di_isSide a1.Side) fun r1 =>
  if r1 = true then
    Option.bind (Di_isIndex a1.Kind ((a0.Rules.Kinds.length : Nat) : Int)) fun r3 =>
    if r3 = true then
      if 0 ≤ a1.Kind then
        Option.bind (a0.Rules.Kinds[(Int.toNat a1.Kind)]?) fun x6 =>
        Option.bind (Di_inRange a1.Steps 0 x6.Steps) fun r7 =>
        if r7 = true then
          if (a1.At : Int) = (-1) then
            some true
          else
            if a1.Steps > 0 then
              Option.bind (Di_sizeOf a0) fun r11 =>
              Option.bind (Di_isIndex a1.At r11) fun r12 =>
              if r12 = true then
                Option.bind (Di_enterCost a0 a1.Kind a1.At) fun r14 =>
                some ((r14 : Int) != 0)
              else
                some false
            else
              some false
        else
          some false
      else none
    else
      some false
  else
    some false
/-! loop example/g00886/impl goodState -/
inductive Si_goodState where
  | h1 (t0 : (List Gi_Unit)) (t1 : Int) (t2 : Int) (b3 : Gi_Board) (l4 : (List GA2I))
noncomputable def Bi_goodState : Si_goodState → Option (Si_goodState ⊕ (Bool))
  | .h1 t0 t1 t2 b3 l4 =>
    if t2 < t1 then
      if 0 ≤ t2 then
        Option.bind (t0[(Int.toNat t2)]?) fun x3 =>
        Option.bind (Di_goodUnit b3 x3) fun r4 =>
        if r4 = true then
          if x3.At < 0 then
            some (.inl (.h1 t0 t1 (IntKind.wrap .i64 (t2 + 1)) b3 l4))
          else
            if 0 ≤ x3.At then
              Option.bind (l4[(Int.toNat x3.At)]?) fun x8 =>
              if x3.Side = 0 then
                if 0 ≤ x3.At then
                  Option.bind (l4[(Int.toNat x3.At)]?) fun x11 =>
                  if 0 ≤ x3.At then
                    Option.bind ((List.set l4 (Int.toNat x3.At) (GA2I.mk (IntKind.wrap .i64 (x8.c0 + 1)) x11.c1))[(Int.toNat x3.At)]?) fun x13 =>
                    if (IntKind.wrap .i64 (1 - x3.Side)) = 0 then
                      if x13.c0 > 0 then
                        some (.inr false)
                      else
                        if 0 ≤ x3.At then
                          Option.bind ((List.set l4 (Int.toNat x3.At) (GA2I.mk (IntKind.wrap .i64 (x8.c0 + 1)) x11.c1))[(Int.toNat x3.At)]?) fun x17 =>
                          if x17.c0 > b3.Rules.Stack then
                            some (.inr false)
                          else
                            some (.inl (.h1 t0 t1 (IntKind.wrap .i64 (t2 + 1)) b3 (List.set l4 (Int.toNat x3.At) (GA2I.mk (IntKind.wrap .i64 (x8.c0 + 1)) x11.c1))))
                        else none
                    else
                      if (IntKind.wrap .i64 (1 - x3.Side)) = 1 then
                        if x13.c1 > 0 then
                          some (.inr false)
                        else
                          if 0 ≤ x3.At then
                            Option.bind ((List.set l4 (Int.toNat x3.At) (GA2I.mk (IntKind.wrap .i64 (x8.c0 + 1)) x11.c1))[(Int.toNat x3.At)]?) fun x18 =>
                            if x18.c0 > b3.Rules.Stack then
                              some (.inr false)
                            else
                              some (.inl (.h1 t0 t1 (IntKind.wrap .i64 (t2 + 1)) b3 (List.set l4 (Int.toNat x3.At) (GA2I.mk (IntKind.wrap .i64 (x8.c0 + 1)) x11.c1))))
                          else none
                      else none
                  else none
                else none
              else
                if x3.Side = 1 then
                  if 0 ≤ x3.At then
                    Option.bind (l4[(Int.toNat x3.At)]?) fun x12 =>
                    if 0 ≤ x3.At then
                      Option.bind ((List.set l4 (Int.toNat x3.At) (GA2I.mk x12.c0 (IntKind.wrap .i64 (x8.c1 + 1))))[(Int.toNat x3.At)]?) fun x14 =>
                      if (IntKind.wrap .i64 (1 - x3.Side)) = 0 then
                        if x14.c0 > 0 then
                          some (.inr false)
                        else
                          if 0 ≤ x3.At then
                            Option.bind ((List.set l4 (Int.toNat x3.At) (GA2I.mk x12.c0 (IntKind.wrap .i64 (x8.c1 + 1))))[(Int.toNat x3.At)]?) fun x18 =>
                            if x18.c1 > b3.Rules.Stack then
                              some (.inr false)
                            else
                              some (.inl (.h1 t0 t1 (IntKind.wrap .i64 (t2 + 1)) b3 (List.set l4 (Int.toNat x3.At) (GA2I.mk x12.c0 (IntKind.wrap .i64 (x8.c1 + 1))))))
                          else none
                      else
                        if (IntKind.wrap .i64 (1 - x3.Side)) = 1 then
                          if x14.c1 > 0 then
                            some (.inr false)
                          else
                            if 0 ≤ x3.At then
                              Option.bind ((List.set l4 (Int.toNat x3.At) (GA2I.mk x12.c0 (IntKind.wrap .i64 (x8.c1 + 1))))[(Int.toNat x3.At)]?) fun x19 =>
                              if x19.c1 > b3.Rules.Stack then
                                some (.inr false)
                              else
                                some (.inl (.h1 t0 t1 (IntKind.wrap .i64 (t2 + 1)) b3 (List.set l4 (Int.toNat x3.At) (GA2I.mk x12.c0 (IntKind.wrap .i64 (x8.c1 + 1))))))
                            else none
                        else none
                    else none
                  else none
                else none
            else none
        else
          some (.inr false)
      else none
    else
      some (.inr true)
noncomputable def Di_goodState (a0 : Gi_Board) (a1 : Gi_State) : Option (Bool) :=
  Option.bind (Di_inRange a1.Turn 0 a0.Rules.Turns) fun r1 =>
  if r1 = true then
    Option.bind (Di_inRange a1.Weather 0 2) fun r3 =>
    if r3 = true then
      if ((a1.Units.length : Nat) : Int) > 12 then
        some false
      else
        Option.bind (Di_sizeOf a0) fun r6 =>
        if 0 ≤ r6 then
          if Int.toNat r6 * 16 ≤ 140737488355328 then
            loop Bi_goodState (.h1 a1.Units ((a1.Units.length : Nat) : Int) 0 a0 (List.replicate (Int.toNat r6) (GA2I.mk 0 0)))
          else none
        else none
    else
      some false
  else
    some false
/-! loop example/g00886/impl fits -/
noncomputable def Di_fits (a0 : Gi_Board) (a1 : Gi_State) : Option (Bool) :=
  Option.bind (Di_IsBoard a0) fun r1 =>
  if r1 = true then
    Option.bind (Di_goodState a0 a1) fun r3 =>
    some r3
  else
    some false
/-! loop example/g00886/impl unitsAt -/
inductive Si_unitsAt where
  | h1 (i0 : Int) (t1 : (List Gi_Unit)) (t2 : Int) (t3 : Int) (l4 : (List Int))
noncomputable def Bi_unitsAt : Si_unitsAt → Option (Si_unitsAt ⊕ ((List Int)))
  | .h1 i0 t1 t2 t3 l4 =>
    if t3 < t2 then
      if 0 ≤ t3 then
        Option.bind (t1[(Int.toNat t3)]?) fun x3 =>
        if (x3.At : Int) = i0 then
          if (l4 ++ [t3]).length * 8 ≤ 70368744177664 then
            some (.inl (.h1 i0 t1 t2 (IntKind.wrap .i64 (t3 + 1)) (l4 ++ [t3])))
          else none
        else
          some (.inl (.h1 i0 t1 t2 (IntKind.wrap .i64 (t3 + 1)) l4))
      else none
    else
      some (.inr l4)
noncomputable def Di_unitsAt (a0 : Gi_State) (a1 : Int) : Option ((List Int)) :=
  loop Bi_unitsAt (.h1 a1 a0.Units ((a0.Units.length : Nat) : Int) 0 ([] : List Int))
/-! loop example/g00886/impl ownerOf -/
inductive Si_ownerOf where
  | h1 (i0 : Int) (t1 : (List Gi_Unit)) (t2 : Int) (t3 : Int)
noncomputable def Bi_ownerOf : Si_ownerOf → Option (Si_ownerOf ⊕ (Int))
  | .h1 i0 t1 t2 t3 =>
    if t3 < t2 then
      if 0 ≤ t3 then
        Option.bind (t1[(Int.toNat t3)]?) fun x3 =>
        if (x3.At : Int) = i0 then
          some (.inr x3.Side)
        else
          some (.inl (.h1 i0 t1 t2 (IntKind.wrap .i64 (t3 + 1))))
      else none
    else
      some (.inr (-1))
noncomputable def Di_ownerOf (a0 : Gi_State) (a1 : Int) : Option (Int) :=
  loop Bi_ownerOf (.h1 a1 a0.Units ((a0.Units.length : Nat) : Int) 0)
/-! loop example/g00886/impl directionOn -/
inductive Si_directionOn where
  | h1 (i0 : Int) (k1 : Int) (t2 : Int) (b3 : Gi_Map)
noncomputable def Bi_directionOn : Si_directionOn → Option (Si_directionOn ⊕ (Int))
  | .h1 i0 k1 t2 b3 =>
    if t2 < 6 then
      Option.bind (Di_nextTo b3 i0 t2) fun r2 =>
      if (r2 : Int) = k1 then
        some (.inr t2)
      else
        some (.inl (.h1 i0 k1 (IntKind.wrap .i64 (t2 + 1)) b3))
    else
      some (.inr (-1))
noncomputable def Di_directionOn (a0 : Gi_Map) (a1 : Int) (a2 : Int) : Option (Int) :=
  loop Bi_directionOn (.h1 a1 a2 0 a0)
/-! loop example/g00886/impl isNear -/
noncomputable def Di_isNear (a0 : Gi_Board) (a1 : Gi_Unit) (a2 : Int) : Option (Bool) :=
  if a1.At ≥ 0 then
    Option.bind (Di_directionOn a0.Map a2 a1.At) fun r2 =>
    some (decide (r2 ≥ 0))
  else
    some false
/-! slices Index   loop example/g00886/impl Attack loop example/g00886/impl Attack  -/
inductive Sslices_Index_i_Attack where
  | h1 (s0 : (List Gi_Attack)) (t1 : Int) (t2 : Int) (b3 : Gi_Attack)
noncomputable def Bslices_Index_i_Attack : Sslices_Index_i_Attack → Option (Sslices_Index_i_Attack ⊕ (Int))
  | .h1 s0 t1 t2 b3 =>
    if t2 < t1 then
      if 0 ≤ t2 then
        Option.bind (s0[(Int.toNat t2)]?) fun x3 =>
        if ((b3.Unit == x3.Unit) && (b3.At == x3.At)) = true then
          some (.inr t2)
        else
          some (.inl (.h1 s0 t1 (IntKind.wrap .i64 (t2 + 1)) b3))
      else none
    else
      some (.inr (-1))
noncomputable def Dslices_Index_i_Attack (a0 : (List Gi_Attack)) (a1 : Gi_Attack) : Option (Int) :=
  loop Bslices_Index_i_Attack (.h1 a0 ((a0.length : Nat) : Int) 0 a1)
/-! slices Contains   loop example/g00886/impl Attack loop example/g00886/impl Attack  -/
noncomputable def Dslices_Contains_i_Attack (a0 : (List Gi_Attack)) (a1 : Gi_Attack) : Option (Bool) :=
  Option.bind (Dslices_Index_i_Attack a0 a1) fun r1 =>
  some (decide (r1 ≥ 0))
/-! loop example/g00886/impl battlesOf -/
inductive Si_battlesOf where
  | h1 (t0 : (List Gi_Attack)) (t1 : Int) (t2 : Int) (b3 : Gi_Board) (b4 : Gi_State) (l5 : (List Gi_Battle))
  | h2 (t0 : (List Gi_Attack)) (t1 : Int) (t2 : Int) (t3 : Int) (t4 : (List Gi_Unit)) (t5 : Int) (t6 : Int) (b7 : Gi_Board) (b8 : Gi_State) (l9 : (List Gi_Battle)) (b10 : Int) (l11 : (List Int)) (l12 : (List Int))
  | h3 (t0 : (List Gi_Attack)) (t1 : Int) (t2 : Int) (t3 : Int) (t4 : (List Gi_Unit)) (t5 : Int) (t6 : Int) (b7 : Gi_Board) (b8 : Gi_State) (l9 : (List Gi_Battle)) (b10 : Int) (l11 : (List Int)) (l12 : (List Int))
noncomputable def Bi_battlesOf : Si_battlesOf → Option (Si_battlesOf ⊕ ((List Gi_Battle)))
  | .h1 t0 t1 t2 b3 b4 l5 =>
    if t2 < t1 then
      Option.bind (Di_unitsAt b4 t2) fun r2 =>
      if (((r2.length : Nat) : Int) : Int) = 0 then
        some (.inl (.h1 t0 t1 (IntKind.wrap .i64 (t2 + 1)) b3 b4 l5))
      else
        some (.inl (.h2 t0 t2 t1 t2 b4.Units ((b4.Units.length : Nat) : Int) 0 b3 b4 l5 t2 ([] : List Int) r2))
    else
      some (.inr l5)
  | .h2 t0 t1 t2 t3 t4 t5 t6 b7 b8 l9 b10 l11 l12 =>
    if t6 < t5 then
      if 0 ≤ t6 then
        Option.bind (t4[(Int.toNat t6)]?) fun x3 =>
        Option.bind (Di_ownerOf b8 t1) fun r4 =>
        if (x3.Side : Int) = r4 then
          some (.inl (.h3 t0 t1 t2 t3 t4 t5 (IntKind.wrap .i64 (t6 + 1)) b7 b8 l9 b10 l11 l12))
        else
          Option.bind (Di_isNear b7 x3 t1) fun r6 =>
          if r6 = true then
            Option.bind (Dslices_Contains_i_Attack t0 (Gi_Attack.mk t6 t1)) fun r8 =>
            if r8 = true then
              if (l11 ++ [t6]).length * 8 ≤ 70368744177664 then
                some (.inl (.h3 t0 t1 t2 t3 t4 t5 (IntKind.wrap .i64 (t6 + 1)) b7 b8 l9 b10 (l11 ++ [t6]) l12))
              else none
            else
              some (.inl (.h3 t0 t1 t2 t3 t4 t5 (IntKind.wrap .i64 (t6 + 1)) b7 b8 l9 b10 l11 l12))
          else
            some (.inl (.h3 t0 t1 t2 t3 t4 t5 (IntKind.wrap .i64 (t6 + 1)) b7 b8 l9 b10 l11 l12))
      else none
    else
      if ((l11.length : Nat) : Int) > 0 then
        if (l9 ++ [(Gi_Battle.mk b10 l11 l12)]).length * 56 ≤ 70368744177664 then
          some (.inl (.h1 t0 t2 (IntKind.wrap .i64 (t3 + 1)) b7 b8 (l9 ++ [(Gi_Battle.mk b10 l11 l12)])))
        else none
      else
        some (.inl (.h1 t0 t2 (IntKind.wrap .i64 (t3 + 1)) b7 b8 l9))
  | .h3 t0 t1 t2 t3 t4 t5 t6 b7 b8 l9 b10 l11 l12 =>
    if t6 < t5 then
      if 0 ≤ t6 then
        Option.bind (t4[(Int.toNat t6)]?) fun x3 =>
        Option.bind (Di_ownerOf b8 t1) fun r4 =>
        if (x3.Side : Int) = r4 then
          some (.inl (.h3 t0 t1 t2 t3 t4 t5 (IntKind.wrap .i64 (t6 + 1)) b7 b8 l9 b10 l11 l12))
        else
          Option.bind (Di_isNear b7 x3 t1) fun r6 =>
          if r6 = true then
            Option.bind (Dslices_Contains_i_Attack t0 (Gi_Attack.mk t6 t1)) fun r8 =>
            if r8 = true then
              if (l11 ++ [t6]).length * 8 ≤ 70368744177664 then
                some (.inl (.h3 t0 t1 t2 t3 t4 t5 (IntKind.wrap .i64 (t6 + 1)) b7 b8 l9 b10 (l11 ++ [t6]) l12))
              else none
            else
              some (.inl (.h3 t0 t1 t2 t3 t4 t5 (IntKind.wrap .i64 (t6 + 1)) b7 b8 l9 b10 l11 l12))
          else
            some (.inl (.h3 t0 t1 t2 t3 t4 t5 (IntKind.wrap .i64 (t6 + 1)) b7 b8 l9 b10 l11 l12))
      else none
    else
      if ((l11.length : Nat) : Int) > 0 then
        if (l9 ++ [(Gi_Battle.mk b10 l11 l12)]).length * 56 ≤ 70368744177664 then
          some (.inl (.h1 t0 t2 (IntKind.wrap .i64 (t3 + 1)) b7 b8 (l9 ++ [(Gi_Battle.mk b10 l11 l12)])))
        else none
      else
        some (.inl (.h1 t0 t2 (IntKind.wrap .i64 (t3 + 1)) b7 b8 l9))
noncomputable def Di_battlesOf (a0 : Gi_Board) (a1 : Gi_State) (a2 : (List Gi_Attack)) : Option ((List Gi_Battle)) :=
  loop Bi_battlesOf (.h1 a2 ((a0.Map.Terrain.length : Nat) : Int) 0 a0 a1 ([] : List Gi_Battle))
/-! loop example/g00886/impl BattlesOf -/
noncomputable def Di_BattlesOf (a0 : Gi_Board) (a1 : Gi_State) (a2 : (List Gi_Attack)) : Option ((List Gi_Battle) × Bool) :=
  Option.bind (Di_fits a0 a1) fun r1 =>
  if r1 = true then
    if ((a2.length : Nat) : Int) > 24 then
      some ([], false)
    else
      Option.bind (Di_battlesOf a0 a1 a2) fun r4 =>
      some (r4, true)
  else
    some ([], false)
/-! loop example/g00886/spec sOwner -/
inductive Ss_sOwner where
  | h1 (i0 : Int) (t1 : (List Gi_Unit)) (t2 : Int) (t3 : Int)
noncomputable def Bs_sOwner : Ss_sOwner → Option (Ss_sOwner ⊕ (Int))
  | .h1 i0 t1 t2 t3 =>
    if t3 < t2 then
      if 0 ≤ t3 then
        Option.bind (t1[(Int.toNat t3)]?) fun x3 =>
        if (x3.At : Int) = i0 then
          some (.inr x3.Side)
        else
          some (.inl (.h1 i0 t1 t2 (IntKind.wrap .i64 (t3 + 1))))
      else none
    else
      some (.inr (-1))
noncomputable def Ds_sOwner (a0 : Gi_State) (a1 : Int) : Option (Int) :=
  loop Bs_sOwner (.h1 a1 a0.Units ((a0.Units.length : Nat) : Int) 0)
/-! loop example/g00886/spec aBattles -/
inductive Ss_aBattles where
  | h1 (t0 : (List Gi_Attack)) (t1 : Int) (b2 : Gi_Board) (b3 : Gi_State) (l4 : (List Gi_Battle))
  | h2 (t0 : (List Gi_Attack)) (t1 : Int) (t2 : Int) (t3 : Int) (b4 : Gi_Board) (b5 : Gi_State) (l6 : (List Gi_Battle)) (b7 : Int) (l8 : (List Int)) (l9 : (List Int))
  | h3 (t0 : (List Gi_Attack)) (t1 : Int) (t2 : Int) (t3 : Int) (t4 : Int) (t5 : (List Gi_Attack)) (t6 : Int) (t7 : Int) (b8 : Gi_Board) (b9 : Gi_State) (l10 : (List Gi_Battle)) (b11 : Int) (l12 : (List Int)) (l13 : (List Int))
  | h4 (t0 : (List Gi_Attack)) (t1 : Int) (t2 : Int) (t3 : Int) (b4 : Gi_Board) (b5 : Gi_State) (l6 : (List Gi_Battle)) (b7 : Int) (l8 : (List Int)) (l9 : (List Int))
noncomputable def Bs_aBattles : Ss_aBattles → Option (Ss_aBattles ⊕ ((List Gi_Battle)))
  | .h1 t0 t1 b2 b3 l4 =>
    Option.bind (Ds_mSize b2.Map) fun r1 =>
    if t1 < r1 then
      some (.inl (.h2 t0 t1 ((b3.Units.length : Nat) : Int) 0 b2 b3 l4 t1 ([] : List Int) ([] : List Int)))
    else
      some (.inr l4)
  | .h2 t0 t1 t2 t3 b4 b5 l6 b7 l8 l9 =>
    if t3 < t2 then
      some (.inl (.h3 t0 t1 t3 t2 t3 t0 ((t0.length : Nat) : Int) 0 b4 b5 l6 b7 l8 l9))
    else
      if ((l8.length : Nat) : Int) > 0 then
        Option.bind (Ds_sOwner b5 t1) fun r3 =>
        Option.bind (Ds_sAt b5 t1 r3) fun r4 =>
        if (l6 ++ [(Gi_Battle.mk b7 l8 r4)]).length * 56 ≤ 70368744177664 then
          some (.inl (.h1 t0 (IntKind.wrap .i64 (t1 + 1)) b4 b5 (l6 ++ [(Gi_Battle.mk b7 l8 r4)])))
        else none
      else
        some (.inl (.h1 t0 (IntKind.wrap .i64 (t1 + 1)) b4 b5 l6))
  | .h3 t0 t1 t2 t3 t4 t5 t6 t7 b8 b9 l10 b11 l12 l13 =>
    if t7 < t6 then
      if 0 ≤ t7 then
        Option.bind (t5[(Int.toNat t7)]?) fun x3 =>
        if (x3.Unit : Int) = t2 then
          if (x3.At : Int) = t1 then
            Option.bind (Ds_sOwner b9 t1) fun r6 =>
            if 0 ≤ t2 then
              Option.bind (b9.Units[(Int.toNat t2)]?) fun x8 =>
              if (r6 : Int) = (IntKind.wrap .i64 (1 - x8.Side)) then
                Option.bind (Ds_aSide b8 b9 t1 t2) fun r10 =>
                if r10 ≥ 0 then
                  Option.bind (Ds_l1Put_c0 l12 t2) fun r12 =>
                  some (.inl (.h3 t0 t1 t2 t3 t4 t5 t6 (IntKind.wrap .i64 (t7 + 1)) b8 b9 l10 b11 r12 l13))
                else
                  some (.inl (.h3 t0 t1 t2 t3 t4 t5 t6 (IntKind.wrap .i64 (t7 + 1)) b8 b9 l10 b11 l12 l13))
              else
                some (.inl (.h3 t0 t1 t2 t3 t4 t5 t6 (IntKind.wrap .i64 (t7 + 1)) b8 b9 l10 b11 l12 l13))
            else none
          else
            some (.inl (.h3 t0 t1 t2 t3 t4 t5 t6 (IntKind.wrap .i64 (t7 + 1)) b8 b9 l10 b11 l12 l13))
        else
          some (.inl (.h3 t0 t1 t2 t3 t4 t5 t6 (IntKind.wrap .i64 (t7 + 1)) b8 b9 l10 b11 l12 l13))
      else none
    else
      some (.inl (.h4 t0 t1 t3 (IntKind.wrap .i64 (t4 + 1)) b8 b9 l10 b11 l12 l13))
  | .h4 t0 t1 t2 t3 b4 b5 l6 b7 l8 l9 =>
    if t3 < t2 then
      some (.inl (.h3 t0 t1 t3 t2 t3 t0 ((t0.length : Nat) : Int) 0 b4 b5 l6 b7 l8 l9))
    else
      if ((l8.length : Nat) : Int) > 0 then
        Option.bind (Ds_sOwner b5 t1) fun r3 =>
        Option.bind (Ds_sAt b5 t1 r3) fun r4 =>
        if (l6 ++ [(Gi_Battle.mk b7 l8 r4)]).length * 56 ≤ 70368744177664 then
          some (.inl (.h1 t0 (IntKind.wrap .i64 (t1 + 1)) b4 b5 (l6 ++ [(Gi_Battle.mk b7 l8 r4)])))
        else none
      else
        some (.inl (.h1 t0 (IntKind.wrap .i64 (t1 + 1)) b4 b5 l6))
noncomputable def Ds_aBattles (a0 : Gi_Board) (a1 : Gi_State) (a2 : (List Gi_Attack)) : Option ((List Gi_Battle)) :=
  loop Bs_aBattles (.h1 a2 0 a0 a1 ([] : List Gi_Battle))
/-! loop example/g00886/spec BattlesOf -/
noncomputable def Ds_BattlesOf (a0 : Gi_Board) (a1 : Gi_State) (a2 : (List Gi_Attack)) : Option ((List Gi_Battle) × Bool) :=
  Option.bind (Ds_sGood a0 a1) fun r1 =>
  if r1 = true then
    if ((a2.length : Nat) : Int) > 24 then
      some ([], false)
    else
      Option.bind (Ds_aBattles a0 a1 a2) fun r4 =>
      some (r4, true)
  else
    some ([], false)
/-!   loop example/g00886/spec l1Cur  battle -/
noncomputable def Ds_l1Cur_battle (a0 : Gs_l1Cur) : Option (Gi_Board × Gi_State × Gi_Battle × Gs_l1Cur) :=
  Option.bind (Ds_l1Cur_fought a0) fun r1 =>
  Option.bind (Ds_sGood r1.1 r1.2.1) fun r2 =>
  if r2 = true then
    Option.bind (Ds_aBattles r1.1 r1.2.1 r1.2.2.1) fun r4 =>
    if (((r4.length : Nat) : Int) : Int) = 0 then
      Option.bind (Ds_l1Cur_pick r1.2.2.2 9) fun r6 =>
      some (r1.1, r1.2.1, (Gi_Battle.mk r6.1 [0] [1]), r6.2)
    else
      Option.bind (Ds_l1Cur_pick r1.2.2.2 ((r4.length : Nat) : Int)) fun r6 =>
      if 0 ≤ r6.1 then
        Option.bind (r4[(Int.toNat r6.1)]?) fun x8 =>
        Option.bind (Ds_l1Cur_pick r6.2 24) fun r9 =>
        if (r9.1 : Int) = 0 then
          if (x8.Defenders ++ [0]).length * 8 ≤ 70368744177664 then
            some (r1.1, r1.2.1, (Gi_Battle.mk x8.At x8.Attackers (x8.Defenders ++ [0])), r9.2)
          else none
        else
          if (r9.1 : Int) = 1 then
            Option.bind (Ds_l1Cur_among r9.2 [0, 5, 12]) fun r12 =>
            if (x8.Attackers ++ [r12.1]).length * 8 ≤ 70368744177664 then
              some (r1.1, r1.2.1, (Gi_Battle.mk x8.At (x8.Attackers ++ [r12.1]) x8.Defenders), r12.2)
            else none
          else
            if (r9.1 : Int) = 2 then
              Option.bind (Ds_l1Cur_among r9.2 [(-1), 0, 100]) fun r13 =>
              some (r1.1, r1.2.1, (Gi_Battle.mk r13.1 x8.Attackers x8.Defenders), r13.2)
            else
              some (r1.1, r1.2.1, x8, r9.2)
      else none
  else
    some (r1.1, r1.2.1, (Gi_Battle.mk 0 [0] [1]), r1.2.2.2)
/-! loop example/g00886/spec DrawIsBattle -/
noncomputable def Ds_DrawIsBattle (a0 : (List Int)) : Option (Gi_Board × Gi_State × Gi_Battle) :=
  Option.bind (Ds_l1Cur_battle (Gs_l1Cur.mk a0 0 0)) fun r1 =>
  some (r1.1, r1.2.1, r1.2.2.1)
/-! loop example/g00886/spec DrawAttackStrength -/
noncomputable def Ds_DrawAttackStrength (a0 : (List Int)) : Option (Gi_Board × Gi_State × Gi_Battle) :=
  Option.bind (Ds_DrawIsBattle a0) fun r1 =>
  some (r1.1, r1.2.1, r1.2.2)
/-! slices Equal   int int  -/
inductive Sslices_Equal_int where
  | h1 (s10 : (List Int)) (s21 : (List Int)) (t2 : Int) (t3 : Int)
noncomputable def Bslices_Equal_int : Sslices_Equal_int → Option (Sslices_Equal_int ⊕ (Bool))
  | .h1 s10 s21 t2 t3 =>
    if t3 < t2 then
      if 0 ≤ t3 then
        Option.bind (s10[(Int.toNat t3)]?) fun x3 =>
        if 0 ≤ t3 then
          Option.bind (s21[(Int.toNat t3)]?) fun x5 =>
          if (x3 : Int) = x5 then
            some (.inl (.h1 s10 s21 t2 (IntKind.wrap .i64 (t3 + 1))))
          else
            some (.inr false)
        else none
      else none
    else
      some (.inr true)
noncomputable def Dslices_Equal_int (a0 : (List Int)) (a1 : (List Int)) : Option (Bool) :=
  if (((a0.length : Nat) : Int) : Int) = ((a1.length : Nat) : Int) then
    loop Bslices_Equal_int (.h1 a0 a1 ((a0.length : Nat) : Int) 0)
  else
    some false
/-! loop example/g00886/impl goodBattle -/
inductive Si_goodBattle where
  | h1 (t0 : (List Int)) (t1 : Int) (t2 : Int) (b3 : Gi_Board) (b4 : Gi_State) (b5 : Gi_Battle)
noncomputable def Bi_goodBattle : Si_goodBattle → Option (Si_goodBattle ⊕ (Bool))
  | .h1 t0 t1 t2 b3 b4 b5 =>
    if t2 < t1 then
      if 0 ≤ t2 then
        Option.bind (t0[(Int.toNat t2)]?) fun x3 =>
        Option.bind (Di_isIndex x3 ((b4.Units.length : Nat) : Int)) fun r4 =>
        if r4 = true then
          if 0 ≤ x3 then
            Option.bind (b4.Units[(Int.toNat x3)]?) fun x7 =>
            Option.bind (Di_ownerOf b4 b5.At) fun r8 =>
            if (x7.Side : Int) = r8 then
              some (.inr false)
            else
              if 0 ≤ x3 then
                Option.bind (b4.Units[(Int.toNat x3)]?) fun x11 =>
                Option.bind (Di_isNear b3 x11 b5.At) fun r12 =>
                if r12 = true then
                  some (.inl (.h1 t0 t1 (IntKind.wrap .i64 (t2 + 1)) b3 b4 b5))
                else
                  some (.inr false)
              else none
          else none
        else
          some (.inr false)
      else none
    else
      some (.inr true)
noncomputable def Di_goodBattle (a0 : Gi_Board) (a1 : Gi_State) (a2 : Gi_Battle) : Option (Bool) :=
  Option.bind (Di_sizeOf a0) fun r1 =>
  Option.bind (Di_isIndex a2.At r1) fun r2 =>
  if r2 = true then
    if (((a2.Defenders.length : Nat) : Int) : Int) = 0 then
      some false
    else
      Option.bind (Di_unitsAt a1 a2.At) fun r5 =>
      Option.bind (Dslices_Equal_int a2.Defenders r5) fun r6 =>
      if r6 = true then
        if (((a2.Attackers.length : Nat) : Int) : Int) = 0 then
          some false
        else
          Option.bind (Di_increasing a2.Attackers) fun r9 =>
          if r9 = true then
            loop Bi_goodBattle (.h1 a2.Attackers ((a2.Attackers.length : Nat) : Int) 0 a0 a1 a2)
          else
            some false
      else
        some false
  else
    some false
/-! loop example/g00886/impl hasBattle -/
noncomputable def Di_hasBattle (a0 : Gi_Board) (a1 : Gi_State) (a2 : Gi_Battle) : Option (Bool) :=
  Option.bind (Di_fits a0 a1) fun r1 =>
  if r1 = true then
    Option.bind (Di_goodBattle a0 a1 a2) fun r3 =>
    some r3
  else
    some false
/-! loop example/g00886/impl forceOf -/
noncomputable def Di_forceOf (a0 : Gi_Board) (a1 : Gi_Unit) : Option (Int) :=
  if 0 ≤ a1.Kind then
    Option.bind (a0.Rules.Kinds[(Int.toNat a1.Kind)]?) fun x2 =>
    some (IntKind.wrap .i64 (x2.Strength * a1.Steps))
  else none
/-! loop example/g00886/impl edgeOf -/
noncomputable def Di_edgeOf (a0 : Gi_Map) (a1 : Int) (a2 : Int) : Option (Int) :=
  Option.bind (Di_nextTo a0 a1 a2) fun r1 =>
  if r1 < 0 then
    some (-1)
  else
    if a2 < 3 then
      some (IntKind.wrap .i64 ((IntKind.wrap .i64 (3 * a1)) + a2))
    else
      some (IntKind.wrap .i64 ((IntKind.wrap .i64 ((IntKind.wrap .i64 (3 * r1)) + a2)) - 3))
/-! slices Index   int int  -/
inductive Sslices_Index_int where
  | h1 (s0 : (List Int)) (v1 : Int) (t2 : Int) (t3 : Int)
noncomputable def Bslices_Index_int : Sslices_Index_int → Option (Sslices_Index_int ⊕ (Int))
  | .h1 s0 v1 t2 t3 =>
    if t3 < t2 then
      if 0 ≤ t3 then
        Option.bind (s0[(Int.toNat t3)]?) fun x3 =>
        if (v1 : Int) = x3 then
          some (.inr t3)
        else
          some (.inl (.h1 s0 v1 t2 (IntKind.wrap .i64 (t3 + 1))))
      else none
    else
      some (.inr (-1))
noncomputable def Dslices_Index_int (a0 : (List Int)) (a1 : Int) : Option (Int) :=
  loop Bslices_Index_int (.h1 a0 a1 ((a0.length : Nat) : Int) 0)
/-! slices Contains   int int  -/
noncomputable def Dslices_Contains_int (a0 : (List Int)) (a1 : Int) : Option (Bool) :=
  Option.bind (Dslices_Index_int a0 a1) fun r1 =>
  some (decide (r1 ≥ 0))
/-! loop example/g00886/impl crossesFreely -/
noncomputable def Di_crossesFreely (a0 : Gi_Map) (a1 : Int) : Option (Bool) :=
  Option.bind (Dslices_Contains_int a0.Rivers a1) fun r1 =>
  if r1 = true then
    Option.bind (Dslices_Contains_int a0.Roads a1) fun r3 =>
    some r3
  else
    some true
/-! loop example/g00886/impl attackStrength -/
inductive Si_attackStrength where
  | h1 (sum0 : Int) (t1 : (List Int)) (t2 : Int) (t3 : Int) (b4 : Gi_Board) (b5 : Gi_State) (b6 : Gi_Battle)
noncomputable def Bi_attackStrength : Si_attackStrength → Option (Si_attackStrength ⊕ (Int))
  | .h1 sum0 t1 t2 t3 b4 b5 b6 =>
    if t3 < t2 then
      if 0 ≤ t3 then
        Option.bind (t1[(Int.toNat t3)]?) fun x3 =>
        if 0 ≤ x3 then
          Option.bind (b5.Units[(Int.toNat x3)]?) fun x5 =>
          Option.bind (Di_forceOf b4 x5) fun r6 =>
          if 0 ≤ x3 then
            Option.bind (b5.Units[(Int.toNat x3)]?) fun x8 =>
            Option.bind (Di_directionOn b4.Map b6.At x8.At) fun r9 =>
            Option.bind (Di_edgeOf b4.Map b6.At r9) fun r10 =>
            Option.bind (Di_crossesFreely b4.Map r10) fun r11 =>
            if r11 = true then
              some (.inl (.h1 (IntKind.wrap .i64 (sum0 + r6)) t1 t2 (IntKind.wrap .i64 (t3 + 1)) b4 b5 b6))
            else
              some (.inl (.h1 (IntKind.wrap .i64 (sum0 + (IntKind.wrap .i64 (Int.tdiv r6 2)))) t1 t2 (IntKind.wrap .i64 (t3 + 1)) b4 b5 b6))
          else none
        else none
      else none
    else
      some (.inr sum0)
noncomputable def Di_attackStrength (a0 : Gi_Board) (a1 : Gi_State) (a2 : Gi_Battle) : Option (Int) :=
  loop Bi_attackStrength (.h1 0 a2.Attackers ((a2.Attackers.length : Nat) : Int) 0 a0 a1 a2)
/-! loop example/g00886/impl AttackStrength -/
noncomputable def Di_AttackStrength (a0 : Gi_Board) (a1 : Gi_State) (a2 : Gi_Battle) : Option (Int × Bool) :=
  Option.bind (Di_hasBattle a0 a1 a2) fun r1 =>
  if r1 = true then
    Option.bind (Di_attackStrength a0 a1 a2) fun r3 =>
    some (r3, true)
  else
    some (0, false)
/-! loop example/g00886/spec sHex -/
noncomputable def Ds_sHex (a0 : Gi_Board) (a1 : Gi_State) (a2 : Int) : Option (Bool) :=
  Option.bind (Ds_sGood a0 a1) fun r1 =>
  if r1 = true then
    Option.bind (Ds_mSize a0.Map) fun r3 =>
    Option.bind (Ds_l1In a2 0 (IntKind.wrap .i64 (r3 - 1))) fun r4 =>
    some r4
  else
    some false
/-! loop example/g00886/spec l1Same -/
inductive Ss_l1Same where
  | h1 (va0 : (List Int)) (b1 : (List Int)) (t2 : Int) (t3 : Int)
noncomputable def Bs_l1Same : Ss_l1Same → Option (Ss_l1Same ⊕ (Bool))
  | .h1 va0 b1 t2 t3 =>
    if t3 < t2 then
      if 0 ≤ t3 then
        Option.bind (va0[(Int.toNat t3)]?) fun x3 =>
        if 0 ≤ t3 then
          Option.bind (b1[(Int.toNat t3)]?) fun x5 =>
          if (x3 : Int) = x5 then
            some (.inl (.h1 va0 b1 t2 (IntKind.wrap .i64 (t3 + 1))))
          else
            some (.inr false)
        else none
      else none
    else
      some (.inr true)
noncomputable def Ds_l1Same (a0 : (List Int)) (a1 : (List Int)) : Option (Bool) :=
  if (((a0.length : Nat) : Int) : Int) = ((a1.length : Nat) : Int) then
    loop Bs_l1Same (.h1 a0 a1 ((a0.length : Nat) : Int) 0)
  else
    some false
/-! loop example/g00886/spec aGood -/
inductive Ss_aGood where
  | h1 (owner0 : Int) (t1 : (List Int)) (t2 : Int) (t3 : Int) (b4 : Gi_Board) (b5 : Gi_State) (b6 : Gi_Battle)
noncomputable def Bs_aGood : Ss_aGood → Option (Ss_aGood ⊕ (Bool))
  | .h1 owner0 t1 t2 t3 b4 b5 b6 =>
    if t3 < t2 then
      if 0 ≤ t3 then
        Option.bind (t1[(Int.toNat t3)]?) fun x3 =>
        if 0 ≤ x3 then
          Option.bind (b5.Units[(Int.toNat x3)]?) fun x5 =>
          if (x5.Side : Int) = owner0 then
            some (.inr false)
          else
            Option.bind (Ds_aSide b4 b5 b6.At x3) fun r7 =>
            if r7 < 0 then
              some (.inr false)
            else
              some (.inl (.h1 owner0 t1 t2 (IntKind.wrap .i64 (t3 + 1)) b4 b5 b6))
        else none
      else none
    else
      Option.bind (Ds_sAt b5 b6.At owner0) fun r2 =>
      Option.bind (Ds_l1Same b6.Defenders r2) fun r3 =>
      some (.inr r3)
noncomputable def Ds_aGood (a0 : Gi_Board) (a1 : Gi_State) (a2 : Gi_Battle) : Option (Bool) :=
  Option.bind (Ds_sHex a0 a1 a2.At) fun r1 =>
  if r1 = true then
    Option.bind (Ds_sOwner a1 a2.At) fun r3 =>
    if r3 < 0 then
      some false
    else
      if (((a2.Attackers.length : Nat) : Int) : Int) = 0 then
        some false
      else
        Option.bind (Ds_l1Rising a2.Attackers 0 (IntKind.wrap .i64 (((a1.Units.length : Nat) : Int) - 1))) fun r6 =>
        if r6 = true then
          Option.bind (Ds_sOwner a1 a2.At) fun r8 =>
          loop Bs_aGood (.h1 r8 a2.Attackers ((a2.Attackers.length : Nat) : Int) 0 a0 a1 a2)
        else
          some false
  else
    some false
/-! loop example/g00886/spec aForce -/
noncomputable def Ds_aForce (a0 : Gi_Board) (a1 : Gi_State) (a2 : Int) : Option (Int) :=
  if 0 ≤ a2 then
    Option.bind (a1.Units[(Int.toNat a2)]?) fun x2 =>
    if 0 ≤ x2.Kind then
      Option.bind (a0.Rules.Kinds[(Int.toNat x2.Kind)]?) fun x4 =>
      if 0 ≤ a2 then
        Option.bind (a1.Units[(Int.toNat a2)]?) fun x6 =>
        some (IntKind.wrap .i64 (x4.Strength * x6.Steps))
      else none
    else none
  else none
/-! loop example/g00886/spec l1Has -/
inductive Ss_l1Has where
  | h1 (n0 : Int) (t1 : (List Int)) (t2 : Int) (t3 : Int)
noncomputable def Bs_l1Has : Ss_l1Has → Option (Ss_l1Has ⊕ (Bool))
  | .h1 n0 t1 t2 t3 =>
    if t3 < t2 then
      if 0 ≤ t3 then
        Option.bind (t1[(Int.toNat t3)]?) fun x3 =>
        if (x3 : Int) = n0 then
          some (.inr true)
        else
          some (.inl (.h1 n0 t1 t2 (IntKind.wrap .i64 (t3 + 1))))
      else none
    else
      some (.inr false)
noncomputable def Ds_l1Has (a0 : (List Int)) (a1 : Int) : Option (Bool) :=
  loop Bs_l1Has (.h1 a1 a0 ((a0.length : Nat) : Int) 0)
/-! loop example/g00886/spec mRiver -/
noncomputable def Ds_mRiver (a0 : Gi_Map) (a1 : Int) (a2 : Int) : Option (Bool) :=
  Option.bind (Ds_mEdge a0 a1 a2) fun r1 =>
  Option.bind (Ds_l1Has a0.Rivers r1) fun r2 =>
  some r2
/-! loop example/g00886/spec mRoad -/
noncomputable def Ds_mRoad (a0 : Gi_Map) (a1 : Int) (a2 : Int) : Option (Bool) :=
  Option.bind (Ds_mEdge a0 a1 a2) fun r1 =>
  Option.bind (Ds_l1Has a0.Roads r1) fun r2 =>
  some r2
/-! loop example/g00886/spec aAttack -/
inductive Ss_aAttack where
  | h1 (sum0 : Int) (t1 : (List Int)) (t2 : Int) (t3 : Int) (b4 : Gi_Board) (b5 : Gi_State) (b6 : Gi_Battle)
noncomputable def Bs_aAttack : Ss_aAttack → Option (Ss_aAttack ⊕ (Int))
  | .h1 sum0 t1 t2 t3 b4 b5 b6 =>
    if t3 < t2 then
      if 0 ≤ t3 then
        Option.bind (t1[(Int.toNat t3)]?) fun x3 =>
        Option.bind (Ds_aForce b4 b5 x3) fun r4 =>
        Option.bind (Ds_aSide b4 b5 b6.At x3) fun r5 =>
        Option.bind (Ds_mRiver b4.Map b6.At r5) fun r6 =>
        if r6 = true then
          Option.bind (Ds_mRoad b4.Map b6.At r5) fun r8 =>
          if r8 = true then
            some (.inl (.h1 (IntKind.wrap .i64 (sum0 + r4)) t1 t2 (IntKind.wrap .i64 (t3 + 1)) b4 b5 b6))
          else
            some (.inl (.h1 (IntKind.wrap .i64 (sum0 + (IntKind.wrap .i64 (Int.tdiv r4 2)))) t1 t2 (IntKind.wrap .i64 (t3 + 1)) b4 b5 b6))
        else
          some (.inl (.h1 (IntKind.wrap .i64 (sum0 + r4)) t1 t2 (IntKind.wrap .i64 (t3 + 1)) b4 b5 b6))
      else none
    else
      some (.inr sum0)
noncomputable def Ds_aAttack (a0 : Gi_Board) (a1 : Gi_State) (a2 : Gi_Battle) : Option (Int) :=
  loop Bs_aAttack (.h1 0 a2.Attackers ((a2.Attackers.length : Nat) : Int) 0 a0 a1 a2)
/-! loop example/g00886/spec AttackStrength -/
noncomputable def Ds_AttackStrength (a0 : Gi_Board) (a1 : Gi_State) (a2 : Gi_Battle) : Option (Int × Bool) :=
  Option.bind (Ds_aGood a0 a1 a2) fun r1 =>
  if r1 = true then
    Option.bind (Ds_aAttack a0 a1 a2) fun r3 =>
    some (r3, true)
  else
    some (0, false)
/-! loop example/g00886/impl IsBattle -/
noncomputable def Di_IsBattle (a0 : Gi_Board) (a1 : Gi_State) (a2 : Gi_Battle) : Option (Bool × Bool) :=
  Option.bind (Di_fits a0 a1) fun r1 =>
  if r1 = true then
    Option.bind (Di_goodBattle a0 a1 a2) fun r3 =>
    some (r3, true)
  else
    some (false, false)
/-! loop example/g00886/laws qInts -/
inductive Sw_qInts where
  | h1 (va0 : (List Int)) (b1 : (List Int)) (t2 : Int) (t3 : Int)
noncomputable def Bw_qInts : Sw_qInts → Option (Sw_qInts ⊕ (Bool))
  | .h1 va0 b1 t2 t3 =>
    if t3 < t2 then
      if 0 ≤ t3 then
        Option.bind (va0[(Int.toNat t3)]?) fun x3 =>
        if 0 ≤ t3 then
          Option.bind (b1[(Int.toNat t3)]?) fun x5 =>
          if (x3 : Int) = x5 then
            some (.inl (.h1 va0 b1 t2 (IntKind.wrap .i64 (t3 + 1))))
          else
            some (.inr false)
        else none
      else none
    else
      some (.inr true)
noncomputable def Dw_qInts (a0 : (List Int)) (a1 : (List Int)) : Option (Bool) :=
  if (((a0.length : Nat) : Int) : Int) = ((a1.length : Nat) : Int) then
    loop Bw_qInts (.h1 a0 a1 ((a0.length : Nat) : Int) 0)
  else
    some false
/-! loop example/g00886/laws FnBattles -/
inductive Sw_FnBattles where
  | h1 (t0 : Int) (t1 : Int) (t2 : Int) (t3 : Int) (b4 : Gi_Board) (b5 : Int) (b6 : Int) (l7 : (List Gi_Attack)) (l8 : (List Gi_Battle)) (l9 : (List Gi_Battle)) (b10 : Gi_Board) (b11 : Int) (b12 : Int) (l13 : (List Int)) (l14 : (List Gi_Unit)) (l15 : (List Gi_Unit))
  | h2 (b0 : Gi_Board) (b1 : Int) (b2 : Int) (l3 : (List Gi_Attack)) (l4 : (List Gi_Battle)) (l5 : (List Gi_Battle)) (l6 : (List Gi_Unit))
  | h3 (t0 : Int) (t1 : Int) (b2 : Gi_Board) (b3 : Int) (b4 : Int) (l5 : (List Gi_Attack)) (l6 : (List Gi_Battle)) (l7 : (List Gi_Battle)) (l8 : (List Gi_Unit))
  | h4 (t0 : Int) (t1 : Int) (t2 : (List Int)) (t3 : Int) (t4 : Int) (b5 : Gi_Board) (b6 : Int) (b7 : Int) (l8 : (List Gi_Attack)) (l9 : (List Gi_Battle)) (l10 : (List Gi_Battle)) (b11 : Gi_Battle) (l12 : (List Gi_Unit))
  | h5 (t0 : Int) (t1 : Bool) (t2 : Int) (t3 : Int) (t4 : (List Int)) (t5 : Int) (t6 : Int) (t7 : Int) (t8 : Int) (b9 : Gi_Board) (b10 : Int) (b11 : Int) (l12 : (List Gi_Attack)) (l13 : (List Gi_Battle)) (l14 : (List Gi_Battle)) (b15 : Gi_Battle) (l16 : (List Gi_Unit))
  | h6 (t0 : Int) (t1 : Int) (b2 : Gi_Board) (b3 : Int) (b4 : Int) (l5 : (List Gi_Attack)) (l6 : (List Gi_Battle)) (l7 : (List Gi_Battle)) (l8 : (List Gi_Unit))
noncomputable def Bw_FnBattles : Sw_FnBattles → Option (Sw_FnBattles ⊕ (Bool))
  | .h1 t0 t1 t2 t3 b4 b5 b6 l7 l8 l9 b10 b11 b12 l13 l14 l15 =>
    if t3 < t2 then
      if 0 ≤ t3 then
        Option.bind (l13[(Int.toNat t3)]?) fun x3 =>
        if 0 ≤ x3 then
          Option.bind (l15[(Int.toNat x3)]?) fun x5 =>
          if 0 ≤ x5.Kind then
            Option.bind (b10.Rules.Kinds[(Int.toNat x5.Kind)]?) fun x7 =>
            if 0 ≤ x3 then
              Option.bind (l15[(Int.toNat x3)]?) fun x9 =>
              some (.inl (.h1 t0 (IntKind.wrap .i64 (t1 + (IntKind.wrap .i64 (x7.Strength * x9.Steps)))) t2 (IntKind.wrap .i64 (t3 + 1)) b4 b5 b6 l7 l8 l9 b10 b11 b12 l13 l14 l15))
            else none
          else none
        else none
      else none
    else
      if t0 > t1 then
        some (.inr false)
      else
        some (.inl (.h2 b4 b5 b6 l7 l8 l9 l14))
  | .h2 b0 b1 b2 l3 l4 l5 l6 =>
    some (.inl (.h3 ((l4.length : Nat) : Int) 0 b0 b1 b2 l3 l4 l5 l6))
  | .h3 t0 t1 b2 b3 b4 l5 l6 l7 l8 =>
    if t1 < t0 then
      if 0 ≤ t1 then
        Option.bind (l6[(Int.toNat t1)]?) fun x3 =>
        Option.bind (Di_IsBattle b2 (Gi_State.mk b3 b4 l8) x3) fun r4 =>
        if r4.1 = true then
          if r4.2 = true then
            if 0 ≤ t1 then
              Option.bind (l7[(Int.toNat t1)]?) fun x8 =>
              if (x3.At : Int) = x8.At then
                if 0 ≤ t1 then
                  Option.bind (l7[(Int.toNat t1)]?) fun x11 =>
                  Option.bind (Dw_qInts x3.Attackers x11.Attackers) fun r12 =>
                  if r12 = true then
                    if 0 ≤ t1 then
                      Option.bind (l7[(Int.toNat t1)]?) fun x15 =>
                      Option.bind (Dw_qInts x3.Defenders x15.Defenders) fun r16 =>
                      if r16 = true then
                        if t1 > 0 then
                          if 0 ≤ (IntKind.wrap .i64 (t1 - 1)) then
                            Option.bind (l6[(Int.toNat (IntKind.wrap .i64 (t1 - 1)))]?) fun x20 =>
                            if x20.At ≥ x3.At then
                              some (.inr false)
                            else
                              some (.inl (.h4 t0 t1 x3.Attackers ((x3.Attackers.length : Nat) : Int) 0 b2 b3 b4 l5 l6 l7 x3 l8))
                          else none
                        else
                          some (.inl (.h4 t0 t1 x3.Attackers ((x3.Attackers.length : Nat) : Int) 0 b2 b3 b4 l5 l6 l7 x3 l8))
                      else
                        some (.inr false)
                    else none
                  else
                    some (.inr false)
                else none
              else
                some (.inr false)
            else none
          else
            some (.inr false)
        else
          if r4.2 = true then
            some (.inr false)
          else
            some (.inr false)
      else none
    else
      some (.inr true)
  | .h4 t0 t1 t2 t3 t4 b5 b6 b7 l8 l9 l10 b11 l12 =>
    if t4 < t3 then
      if 0 ≤ t4 then
        Option.bind (t2[(Int.toNat t4)]?) fun x3 =>
        some (.inl (.h5 x3 false t0 t1 t2 t3 t4 ((l8.length : Nat) : Int) 0 b5 b6 b7 l8 l9 l10 b11 l12))
      else none
    else
      some (.inl (.h6 t0 (IntKind.wrap .i64 (t1 + 1)) b5 b6 b7 l8 l9 l10 l12))
  | .h5 t0 true t2 t3 t4 t5 t6 t7 t8 b9 b10 b11 l12 l13 l14 b15 l16 =>
    if t8 < t7 then
      if 0 ≤ t8 then
        Option.bind (l12[(Int.toNat t8)]?) fun x3 =>
        some (.inl (.h5 t0 true t2 t3 t4 t5 t6 t7 (IntKind.wrap .i64 (t8 + 1)) b9 b10 b11 l12 l13 l14 b15 l16))
      else none
    else
      some (.inl (.h4 t2 t3 t4 t5 (IntKind.wrap .i64 (t6 + 1)) b9 b10 b11 l12 l13 l14 b15 l16))
  | .h5 t0 false t2 t3 t4 t5 t6 t7 t8 b9 b10 b11 l12 l13 l14 b15 l16 =>
    if t8 < t7 then
      if 0 ≤ t8 then
        Option.bind (l12[(Int.toNat t8)]?) fun x3 =>
        if (x3.Unit : Int) = t0 then
          some (.inl (.h5 t0 ((x3.At : Int) == b15.At) t2 t3 t4 t5 t6 t7 (IntKind.wrap .i64 (t8 + 1)) b9 b10 b11 l12 l13 l14 b15 l16))
        else
          some (.inl (.h5 t0 false t2 t3 t4 t5 t6 t7 (IntKind.wrap .i64 (t8 + 1)) b9 b10 b11 l12 l13 l14 b15 l16))
      else none
    else
      some (.inr false)
  | .h6 t0 t1 b2 b3 b4 l5 l6 l7 l8 =>
    if t1 < t0 then
      if 0 ≤ t1 then
        Option.bind (l6[(Int.toNat t1)]?) fun x3 =>
        Option.bind (Di_IsBattle b2 (Gi_State.mk b3 b4 l8) x3) fun r4 =>
        if r4.1 = true then
          if r4.2 = true then
            if 0 ≤ t1 then
              Option.bind (l7[(Int.toNat t1)]?) fun x8 =>
              if (x3.At : Int) = x8.At then
                if 0 ≤ t1 then
                  Option.bind (l7[(Int.toNat t1)]?) fun x11 =>
                  Option.bind (Dw_qInts x3.Attackers x11.Attackers) fun r12 =>
                  if r12 = true then
                    if 0 ≤ t1 then
                      Option.bind (l7[(Int.toNat t1)]?) fun x15 =>
                      Option.bind (Dw_qInts x3.Defenders x15.Defenders) fun r16 =>
                      if r16 = true then
                        if t1 > 0 then
                          if 0 ≤ (IntKind.wrap .i64 (t1 - 1)) then
                            Option.bind (l6[(Int.toNat (IntKind.wrap .i64 (t1 - 1)))]?) fun x20 =>
                            if x20.At ≥ x3.At then
                              some (.inr false)
                            else
                              some (.inl (.h4 t0 t1 x3.Attackers ((x3.Attackers.length : Nat) : Int) 0 b2 b3 b4 l5 l6 l7 x3 l8))
                          else none
                        else
                          some (.inl (.h4 t0 t1 x3.Attackers ((x3.Attackers.length : Nat) : Int) 0 b2 b3 b4 l5 l6 l7 x3 l8))
                      else
                        some (.inr false)
                    else none
                  else
                    some (.inr false)
                else none
              else
                some (.inr false)
            else none
          else
            some (.inr false)
        else
          if r4.2 = true then
            some (.inr false)
          else
            some (.inr false)
      else none
    else
      some (.inr true)
noncomputable def Dw_FnBattles (a0 : (List Int)) (a1 : (List Int)) : Option (Bool) :=
  if (IntKind.wrap .i64 (((a0.length : Nat) : Int) + ((a1.length : Nat) : Int))) > 1048576 then
    some true
  else
    Option.bind (Ds_DrawBattlesOf a0) fun r2 =>
    Option.bind (Di_BattlesOf r2.1 r2.2.1 r2.2.2) fun r3 =>
    Option.bind (Ds_BattlesOf r2.1 r2.2.1 r2.2.2) fun r4 =>
    Option.bind (Ds_DrawAttackStrength a1) fun r5 =>
    Option.bind (Di_AttackStrength r5.1 r5.2.1 r5.2.2) fun r6 =>
    if r6.2 = true then
      Option.bind (Ds_AttackStrength r5.1 r5.2.1 r5.2.2) fun r8 =>
      if (!(r3.2 == r4.2)) = true then
        some false
      else
        if (((r3.1.length : Nat) : Int) : Int) = ((r4.1.length : Nat) : Int) then
          if (!(true == r8.2)) = true then
            some false
          else
            if (r6.1 : Int) = r8.1 then
              loop Bw_FnBattles (.h1 r6.1 0 ((r5.2.2.Attackers.length : Nat) : Int) 0 r2.1 r2.2.1.Turn r2.2.1.Weather r2.2.2 r3.1 r4.1 r5.1 r5.2.1.Turn r5.2.1.Weather r5.2.2.Attackers r2.2.1.Units r5.2.1.Units)
            else
              some false
        else
          some false
    else
      Option.bind (Ds_AttackStrength r5.1 r5.2.1 r5.2.2) fun r8 =>
      if (!(r3.2 == r4.2)) = true then
        some false
      else
        if (((r3.1.length : Nat) : Int) : Int) = ((r4.1.length : Nat) : Int) then
          if (!(false == r8.2)) = true then
            some false
          else
            if (r6.1 : Int) = r8.1 then
              loop Bw_FnBattles (.h2 r2.1 r2.2.1.Turn r2.2.1.Weather r2.2.2 r3.1 r4.1 r2.2.1.Units)
            else
              some false
        else
          some false
end Go.Proofs.YtakcjcjfcignjaaGreatDoor.Ab
