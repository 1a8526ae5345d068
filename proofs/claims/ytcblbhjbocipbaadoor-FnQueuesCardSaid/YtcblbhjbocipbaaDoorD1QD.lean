/- Part of the proof of FnQueuesCard: no condition of its own. -/
import Derived.Test.YtcblbhjbocipbaaDoorAb4
set_option linter.unusedVariables false
set_option linter.unusedSimpArgs false
open Go
namespace Go.Proofs.YtcblbhjbocipbaaDoor.Ab
structure Gi_Terrain where
  mk ::
  Name : ByteArray
  Cost : (List Int)
  Shift : Int
  Height : Int
  Blocks : Bool
def gi_Terrain (x : Gi_Terrain) : D := .agg [.str x.Name, sl 1 I x.Cost, I x.Shift, I x.Height, .bool x.Blocks]
def goi_Terrain (x : Gi_Terrain) : D := .agg [.str x.Name, ow 1 I x.Cost, I x.Shift, I x.Height, .bool x.Blocks]
structure Gi_Kind where
  mk ::
  Name : ByteArray
  Strength : Int
  Moves : Int
  Steps : Int
  Zone : Bool
  View : Int
def gi_Kind (x : Gi_Kind) : D := .agg [.str x.Name, I x.Strength, I x.Moves, I x.Steps, .bool x.Zone, I x.View]
structure Gi_Rules where
  mk ::
  Terrains : (List Gi_Terrain)
  Kinds : (List Gi_Kind)
  Stack : Int
  River : Int
  Road : Int
  Supply : Int
  Turns : Int
def gi_Rules (x : Gi_Rules) : D := .agg [sl 5 gi_Terrain x.Terrains, sl 6 gi_Kind x.Kinds, I x.Stack, I x.River, I x.Road, I x.Supply, I x.Turns]
structure Gi_Map where
  mk ::
  Width : Int
  Height : Int
  Terrain : (List Int)
  Rivers : (List Int)
  Roads : (List Int)
def gi_Map (x : Gi_Map) : D := .agg [I x.Width, I x.Height, sl 1 I x.Terrain, sl 1 I x.Rivers, sl 1 I x.Roads]
structure Gi_Board where
  mk ::
  Rules : Gi_Rules
  Map : Gi_Map
def gi_Board (x : Gi_Board) : D := .agg [sl 5 gi_Terrain x.Rules.Terrains, sl 6 gi_Kind x.Rules.Kinds, I x.Rules.Stack, I x.Rules.River, I x.Rules.Road, I x.Rules.Supply, I x.Rules.Turns, I x.Map.Width, I x.Map.Height, sl 1 I x.Map.Terrain, sl 1 I x.Map.Rivers, sl 1 I x.Map.Roads]
structure Gi_Works where
  mk ::
  Side : Int
  At : Int
  Points : Int
  Queue : (List Int)
def gi_Works (x : Gi_Works) : D := .agg [I x.Side, I x.At, I x.Points, sl 1 I x.Queue]
structure Gs_l1Cur where
  mk ::
  code : (List Int)
  at_ : Int
  seed : Int
def gs_l1Cur (x : Gs_l1Cur) : D := .agg [sl 1 (D.int .u8) x.code, I x.at_, .int .u64 x.seed]
structure Gi_Hex where
  mk ::
  Q : Int
  R : Int
def gi_Hex (x : Gi_Hex) : D := .agg [I x.Q, I x.R]
structure GA6i_Hex where
  mk ::
  c0 : Gi_Hex
  c1 : Gi_Hex
  c2 : Gi_Hex
  c3 : Gi_Hex
  c4 : Gi_Hex
  c5 : Gi_Hex
def gA6i_Hex (x : GA6i_Hex) : D := .agg [I x.c0.Q, I x.c0.R, I x.c1.Q, I x.c1.R, I x.c2.Q, I x.c2.R, I x.c3.Q, I x.c3.R, I x.c4.Q, I x.c4.R, I x.c5.Q, I x.c5.R]
def gv0 : List Gi_Hex := [⟨1, 0⟩, ⟨1, (-1)⟩, ⟨0, (-1)⟩, ⟨(-1), 0⟩, ⟨(-1), 1⟩, ⟨0, 1⟩]
def gc0 : List D := [.agg (gv0.flatMap fun y => (gi_Hex y).cells)]
/-!   loop example/g00886/spec l1Cur  next -/
noncomputable def Ds_l1Cur_next (a0 : Gs_l1Cur) : Option (Int × Gs_l1Cur) :=
  if a0.at_ < ((a0.code.length : Nat) : Int) then
    if 0 ≤ a0.at_ then
      Option.bind (a0.code[(Int.toNat a0.at_)]?) fun x3 =>
      if (IntKind.wrap .i64 (a0.at_ + 1)) ≤ ((a0.code.length : Nat) : Int) then
        some ((IntKind.wrap .i64 x3), (Gs_l1Cur.mk a0.code (IntKind.wrap .i64 (a0.at_ + 1)) (IntKind.wrap .u64 ((IntKind.wrap .u64 ((IntKind.wrap .u64 (a0.seed * 6364136223846793005)) + (IntKind.wrap .u64 (IntKind.wrap .i64 x3)))) + 1442695040888963407))))
      else
        some ((IntKind.wrap .i64 (IntKind.wrap .u64 ((BitVec.toNat (BitVec.ofInt (IntKind.bits .u64) (Int.fdiv (IntKind.wrap .u64 ((IntKind.wrap .u64 ((IntKind.wrap .u64 (a0.seed * 6364136223846793005)) + (IntKind.wrap .u64 (IntKind.wrap .i64 x3)))) + 1442695040888963407)) (2 ^ min (Int.toNat 40) (IntKind.bits .u64))) &&& BitVec.ofInt (IntKind.bits .u64) 255) : Nat) : Int))), (Gs_l1Cur.mk a0.code (IntKind.wrap .i64 (a0.at_ + 1)) (IntKind.wrap .u64 ((IntKind.wrap .u64 ((IntKind.wrap .u64 (a0.seed * 6364136223846793005)) + (IntKind.wrap .u64 (IntKind.wrap .i64 x3)))) + 1442695040888963407))))
    else none
  else
    if (IntKind.wrap .i64 (a0.at_ + 1)) ≤ ((a0.code.length : Nat) : Int) then
      some (0, (Gs_l1Cur.mk a0.code (IntKind.wrap .i64 (a0.at_ + 1)) (IntKind.wrap .u64 ((IntKind.wrap .u64 ((IntKind.wrap .u64 (a0.seed * 6364136223846793005)) + (IntKind.wrap .u64 0))) + 1442695040888963407))))
    else
      some ((IntKind.wrap .i64 (IntKind.wrap .u64 ((BitVec.toNat (BitVec.ofInt (IntKind.bits .u64) (Int.fdiv (IntKind.wrap .u64 ((IntKind.wrap .u64 ((IntKind.wrap .u64 (a0.seed * 6364136223846793005)) + (IntKind.wrap .u64 0))) + 1442695040888963407)) (2 ^ min (Int.toNat 40) (IntKind.bits .u64))) &&& BitVec.ofInt (IntKind.bits .u64) 255) : Nat) : Int))), (Gs_l1Cur.mk a0.code (IntKind.wrap .i64 (a0.at_ + 1)) (IntKind.wrap .u64 ((IntKind.wrap .u64 ((IntKind.wrap .u64 (a0.seed * 6364136223846793005)) + (IntKind.wrap .u64 0))) + 1442695040888963407))))
/-!   loop example/g00886/spec l1Cur  pick -/
noncomputable def Ds_l1Cur_pick (a0 : Gs_l1Cur) (a1 : Int) : Option (Int × Gs_l1Cur) :=
  if a1 ≤ 1 then
    some (0, a0)
  else
    Option.bind (Ds_l1Cur_next a0) fun r2 =>
    if a1 > 200 then
      Option.bind (Ds_l1Cur_next r2.2) fun r4 =>
      if ¬ a1 = 0 then
        some ((Int.tmod (IntKind.wrap .i64 ((IntKind.wrap .i64 (r2.1 * 256)) + r4.1)) a1), r4.2)
      else none
    else
      if ¬ a1 = 0 then
        some ((Int.tmod r2.1 a1), r2.2)
      else none
/-!   loop example/g00886/spec l1Cur  one -/
noncomputable def Ds_l1Cur_one (a0 : Gs_l1Cur) (a1 : Int) : Option (Bool × Gs_l1Cur) :=
  Option.bind (Ds_l1Cur_pick a0 a1) fun r1 =>
  some (((r1.1 : Int) == 0), r1.2)
/-!   loop example/g00886/spec l1Cur  rules -/
inductive Ss_l1Cur_rules where
  | h1 (i0 : Int) (b1 : Gs_l1Cur) (b2 : Int) (b3 : Int) (b4 : Int) (b5 : Int) (b6 : Int) (b7 : Int) (b8 : Int) (b9 : Int) (b10 : Int) (b11 : Int) (l12 : (List ByteArray)) (l13 : (List Gi_Kind))
  | h2 (i0 : Int) (t1 : Int) (t2 : Int) (b3 : Gs_l1Cur) (b4 : Int) (b5 : Int) (b6 : Int) (b7 : Int) (b8 : Int) (b9 : Int) (b10 : Int) (b11 : Int) (b12 : Int) (b13 : Int) (l14 : (List ByteArray)) (b15 : ByteArray) (b16 : Int) (b17 : Int) (b18 : Bool) (l19 : (List Gi_Kind))
  | h3 (i0 : Int) (t1 : Int) (t2 : Int) (b3 : Gs_l1Cur) (b4 : Int) (b5 : Int) (b6 : Int) (b7 : Int) (b8 : Int) (b9 : Int) (b10 : Int) (b11 : Int) (b12 : Int) (b13 : Int) (l14 : (List ByteArray)) (b15 : ByteArray) (b16 : Int) (b17 : Int) (b18 : Bool) (l19 : (List Gi_Kind)) (l20 : (List Int))
  | h4 (i0 : Int) (b1 : Gs_l1Cur) (b2 : Int) (b3 : Int) (b4 : Int) (b5 : Int) (b6 : Int) (b7 : Int) (b8 : Int) (b9 : Int) (b10 : Int) (b11 : Int) (l12 : (List ByteArray)) (l13 : (List Gi_Terrain)) (l14 : (List Gi_Kind))
  | h5 (i0 : Int) (t1 : Int) (t2 : Int) (b3 : Gs_l1Cur) (b4 : Int) (b5 : Int) (b6 : Int) (b7 : Int) (b8 : Int) (b9 : Int) (b10 : Int) (b11 : Int) (b12 : Int) (b13 : Int) (l14 : (List ByteArray)) (b15 : ByteArray) (b16 : Int) (b17 : Int) (b18 : Bool) (l19 : (List Gi_Terrain)) (l20 : (List Gi_Kind))
  | h6 (i0 : Int) (t1 : Int) (t2 : Int) (b3 : Gs_l1Cur) (b4 : Int) (b5 : Int) (b6 : Int) (b7 : Int) (b8 : Int) (b9 : Int) (b10 : Int) (b11 : Int) (b12 : Int) (b13 : Int) (l14 : (List ByteArray)) (b15 : ByteArray) (b16 : Int) (b17 : Int) (b18 : Bool) (l19 : (List Gi_Terrain)) (l20 : (List Gi_Kind)) (l21 : (List Int))
noncomputable def Bs_l1Cur_rules : Ss_l1Cur_rules → Option (Ss_l1Cur_rules ⊕ (Gi_Rules × Gs_l1Cur))
  | .h1 i0 b1 b2 b3 b4 b5 b6 b7 b8 b9 b10 b11 l12 l13 =>
    Option.bind (Ds_l1Cur_pick b1 4) fun r1 =>
    if i0 < (IntKind.wrap .i64 (2 + r1.1)) then
      if (i0 : Int) = ((l12.length : Nat) : Int) then
        some (.inr ((Gi_Rules.mk [] l13 b7 b8 b9 b10 b11), r1.2))
      else
        if 0 ≤ i0 then
          Option.bind (l12[(Int.toNat i0)]?) fun x5 =>
          Option.bind (Ds_l1Cur_pick r1.2 3) fun r6 =>
          Option.bind (Ds_l1Cur_pick r6.2 2) fun r7 =>
          Option.bind (Ds_l1Cur_pick r7.2 3) fun r8 =>
          if i0 > 0 then
            Option.bind (Ds_l1Cur_one r8.2 3) fun r10 =>
            some (.inl (.h2 i0 ((l13.length : Nat) : Int) 0 r10.2 b2 b3 b4 b5 b6 b7 b8 b9 b10 b11 l12 x5 (IntKind.wrap .i64 (r6.1 - 1)) (IntKind.wrap .i64 (r7.1 * r8.1)) r10.1 l13))
          else
            some (.inl (.h2 i0 ((l13.length : Nat) : Int) 0 r8.2 b2 b3 b4 b5 b6 b7 b8 b9 b10 b11 l12 x5 (IntKind.wrap .i64 (r6.1 - 1)) (IntKind.wrap .i64 (r7.1 * r8.1)) false l13))
        else none
    else
      some (.inr ((Gi_Rules.mk [] l13 b7 b8 b9 b10 b11), r1.2))
  | .h2 i0 t1 t2 b3 b4 b5 b6 b7 b8 b9 b10 b11 b12 b13 l14 b15 b16 b17 b18 l19 =>
    if t2 < t1 then
      if i0 > 0 then
        Option.bind (Ds_l1Cur_pick b3 4) fun r3 =>
        if [r3.1].length * 8 ≤ 70368744177664 then
          some (.inl (.h3 i0 t1 (IntKind.wrap .i64 (t2 + 1)) r3.2 b4 b5 b6 b7 b8 b9 b10 b11 b12 b13 l14 b15 b16 b17 b18 l19 [r3.1]))
        else none
      else
        if [1].length * 8 ≤ 70368744177664 then
          some (.inl (.h3 i0 t1 (IntKind.wrap .i64 (t2 + 1)) b3 b4 b5 b6 b7 b8 b9 b10 b11 b12 b13 l14 b15 b16 b17 b18 l19 [1]))
        else none
    else
      if [(Gi_Terrain.mk b15 ([] : List Int) b16 b17 b18)].length * 64 ≤ 70368744177664 then
        some (.inl (.h4 (IntKind.wrap .i64 (i0 + 1)) b3 b4 b5 b6 b7 b8 b9 b10 b11 b12 b13 l14 [(Gi_Terrain.mk b15 ([] : List Int) b16 b17 b18)] l19))
      else none
  | .h3 i0 t1 t2 b3 b4 b5 b6 b7 b8 b9 b10 b11 b12 b13 l14 b15 b16 b17 b18 l19 l20 =>
    if t2 < t1 then
      if i0 > 0 then
        Option.bind (Ds_l1Cur_pick b3 4) fun r3 =>
        if (l20 ++ [r3.1]).length * 8 ≤ 70368744177664 then
          some (.inl (.h3 i0 t1 (IntKind.wrap .i64 (t2 + 1)) r3.2 b4 b5 b6 b7 b8 b9 b10 b11 b12 b13 l14 b15 b16 b17 b18 l19 (l20 ++ [r3.1])))
        else none
      else
        if (l20 ++ [1]).length * 8 ≤ 70368744177664 then
          some (.inl (.h3 i0 t1 (IntKind.wrap .i64 (t2 + 1)) b3 b4 b5 b6 b7 b8 b9 b10 b11 b12 b13 l14 b15 b16 b17 b18 l19 (l20 ++ [1])))
        else none
    else
      if [(Gi_Terrain.mk b15 l20 b16 b17 b18)].length * 64 ≤ 70368744177664 then
        some (.inl (.h4 (IntKind.wrap .i64 (i0 + 1)) b3 b4 b5 b6 b7 b8 b9 b10 b11 b12 b13 l14 [(Gi_Terrain.mk b15 l20 b16 b17 b18)] l19))
      else none
  | .h4 i0 b1 b2 b3 b4 b5 b6 b7 b8 b9 b10 b11 l12 l13 l14 =>
    Option.bind (Ds_l1Cur_pick b1 4) fun r1 =>
    if i0 < (IntKind.wrap .i64 (2 + r1.1)) then
      if (i0 : Int) = ((l12.length : Nat) : Int) then
        some (.inr ((Gi_Rules.mk l13 l14 b7 b8 b9 b10 b11), r1.2))
      else
        if 0 ≤ i0 then
          Option.bind (l12[(Int.toNat i0)]?) fun x5 =>
          Option.bind (Ds_l1Cur_pick r1.2 3) fun r6 =>
          Option.bind (Ds_l1Cur_pick r6.2 2) fun r7 =>
          Option.bind (Ds_l1Cur_pick r7.2 3) fun r8 =>
          if i0 > 0 then
            Option.bind (Ds_l1Cur_one r8.2 3) fun r10 =>
            some (.inl (.h5 i0 ((l14.length : Nat) : Int) 0 r10.2 b2 b3 b4 b5 b6 b7 b8 b9 b10 b11 l12 x5 (IntKind.wrap .i64 (r6.1 - 1)) (IntKind.wrap .i64 (r7.1 * r8.1)) r10.1 l13 l14))
          else
            some (.inl (.h5 i0 ((l14.length : Nat) : Int) 0 r8.2 b2 b3 b4 b5 b6 b7 b8 b9 b10 b11 l12 x5 (IntKind.wrap .i64 (r6.1 - 1)) (IntKind.wrap .i64 (r7.1 * r8.1)) false l13 l14))
        else none
    else
      some (.inr ((Gi_Rules.mk l13 l14 b7 b8 b9 b10 b11), r1.2))
  | .h5 i0 t1 t2 b3 b4 b5 b6 b7 b8 b9 b10 b11 b12 b13 l14 b15 b16 b17 b18 l19 l20 =>
    if t2 < t1 then
      if i0 > 0 then
        Option.bind (Ds_l1Cur_pick b3 4) fun r3 =>
        if [r3.1].length * 8 ≤ 70368744177664 then
          some (.inl (.h6 i0 t1 (IntKind.wrap .i64 (t2 + 1)) r3.2 b4 b5 b6 b7 b8 b9 b10 b11 b12 b13 l14 b15 b16 b17 b18 l19 l20 [r3.1]))
        else none
      else
        if [1].length * 8 ≤ 70368744177664 then
          some (.inl (.h6 i0 t1 (IntKind.wrap .i64 (t2 + 1)) b3 b4 b5 b6 b7 b8 b9 b10 b11 b12 b13 l14 b15 b16 b17 b18 l19 l20 [1]))
        else none
    else
      if (l19 ++ [(Gi_Terrain.mk b15 ([] : List Int) b16 b17 b18)]).length * 64 ≤ 70368744177664 then
        some (.inl (.h4 (IntKind.wrap .i64 (i0 + 1)) b3 b4 b5 b6 b7 b8 b9 b10 b11 b12 b13 l14 (l19 ++ [(Gi_Terrain.mk b15 ([] : List Int) b16 b17 b18)]) l20))
      else none
  | .h6 i0 t1 t2 b3 b4 b5 b6 b7 b8 b9 b10 b11 b12 b13 l14 b15 b16 b17 b18 l19 l20 l21 =>
    if t2 < t1 then
      if i0 > 0 then
        Option.bind (Ds_l1Cur_pick b3 4) fun r3 =>
        if (l21 ++ [r3.1]).length * 8 ≤ 70368744177664 then
          some (.inl (.h6 i0 t1 (IntKind.wrap .i64 (t2 + 1)) r3.2 b4 b5 b6 b7 b8 b9 b10 b11 b12 b13 l14 b15 b16 b17 b18 l19 l20 (l21 ++ [r3.1])))
        else none
      else
        if (l21 ++ [1]).length * 8 ≤ 70368744177664 then
          some (.inl (.h6 i0 t1 (IntKind.wrap .i64 (t2 + 1)) b3 b4 b5 b6 b7 b8 b9 b10 b11 b12 b13 l14 b15 b16 b17 b18 l19 l20 (l21 ++ [1])))
        else none
    else
      if (l19 ++ [(Gi_Terrain.mk b15 l21 b16 b17 b18)]).length * 64 ≤ 70368744177664 then
        some (.inl (.h4 (IntKind.wrap .i64 (i0 + 1)) b3 b4 b5 b6 b7 b8 b9 b10 b11 b12 b13 l14 (l19 ++ [(Gi_Terrain.mk b15 l21 b16 b17 b18)]) l20))
      else none
noncomputable def Ds_l1Cur_rules (a0 : Gs_l1Cur) : Option (Gi_Rules × Gs_l1Cur) :=
  Option.bind (Ds_l1Cur_pick a0 3) fun r1 =>
  Option.bind (Ds_l1Cur_pick r1.2 4) fun r2 =>
  Option.bind (Ds_l1Cur_pick r2.2 3) fun r3 =>
  Option.bind (Ds_l1Cur_pick r3.2 2) fun r4 =>
  Option.bind (Ds_l1Cur_pick r4.2 4) fun r5 =>
  Option.bind (Ds_l1Cur_pick r5.2 6) fun r6 =>
  Option.bind (Ds_l1Cur_pick r6.2 2) fun r7 =>
  Option.bind (Ds_l1Cur_one r7.2 2) fun r8 =>
  Option.bind (Ds_l1Cur_pick r8.2 6) fun r9 =>
  Option.bind (Ds_l1Cur_pick r9.2 3) fun r10 =>
  Option.bind (Ds_l1Cur_pick r10.2 3) fun r11 =>
  Option.bind (Ds_l1Cur_pick r11.2 3) fun r12 =>
  if (0 : Int) ≤ (IntKind.wrap .i64 (1 + r12.1)) then
    if ((IntKind.wrap .i64 (1 + r12.1)) : Int) ≤ (([(Gi_Kind.mk ⟨#[102, 111, 111, 116]⟩ (IntKind.wrap .i64 (2 + r1.1)) (IntKind.wrap .i64 (2 + r2.1)) (IntKind.wrap .i64 (1 + r3.1)) true (IntKind.wrap .i64 (1 + r4.1))), (Gi_Kind.mk ⟨#[104, 111, 114, 115, 101]⟩ (IntKind.wrap .i64 (1 + r5.1)) (IntKind.wrap .i64 (3 + r6.1)) (IntKind.wrap .i64 (1 + r7.1)) r8.1 2), (Gi_Kind.mk ⟨#[103, 117, 110]⟩ (IntKind.wrap .i64 (3 + r9.1)) (IntKind.wrap .i64 (1 + r10.1)) 1 false r11.1)].length : Nat) : Int) then
      Option.bind (Ds_l1Cur_pick r12.2 3) fun r15 =>
      Option.bind (Ds_l1Cur_pick r15.2 3) fun r16 =>
      Option.bind (Ds_l1Cur_pick r16.2 8) fun r17 =>
      Option.bind (Ds_l1Cur_pick r17.2 8) fun r18 =>
      loop Bs_l1Cur_rules (.h1 0 r18.2 0 0 0 0 0 (IntKind.wrap .i64 (1 + r15.1)) r16.1 1 (IntKind.wrap .i64 (2 + r17.1)) (IntKind.wrap .i64 (2 + r18.1)) [⟨#[112, 108, 97, 105, 110]⟩, ⟨#[119, 111, 111, 100]⟩, ⟨#[104, 105, 108, 108]⟩, ⟨#[115, 101, 97]⟩, ⟨#[116, 111, 119, 110]⟩] (List.take ((Int.toNat (IntKind.wrap .i64 (1 + r12.1))) - 0) (List.drop 0 [(Gi_Kind.mk ⟨#[102, 111, 111, 116]⟩ (IntKind.wrap .i64 (2 + r1.1)) (IntKind.wrap .i64 (2 + r2.1)) (IntKind.wrap .i64 (1 + r3.1)) true (IntKind.wrap .i64 (1 + r4.1))), (Gi_Kind.mk ⟨#[104, 111, 114, 115, 101]⟩ (IntKind.wrap .i64 (1 + r5.1)) (IntKind.wrap .i64 (3 + r6.1)) (IntKind.wrap .i64 (1 + r7.1)) r8.1 2), (Gi_Kind.mk ⟨#[103, 117, 110]⟩ (IntKind.wrap .i64 (3 + r9.1)) (IntKind.wrap .i64 (1 + r10.1)) 1 false r11.1)])))
    else none
  else none
/-! loop example/g00886/spec mSize -/
noncomputable def Ds_mSize (a0 : Gi_Map) : Option (Int) :=
  some (IntKind.wrap .i64 (a0.Width * a0.Height))
/-! loop example/g00886/spec mHex -/
noncomputable def Ds_mHex (a0 : Gi_Map) (a1 : Int) : Option (Gi_Hex) :=
  if ¬ a0.Width = 0 then
    if ¬ a0.Width = 0 then
      some (Gi_Hex.mk (Int.tmod a1 a0.Width) (IntKind.wrap .i64 (Int.tdiv a1 a0.Width)))
    else none
  else none
/-! loop example/g00886/spec hStep -/
noncomputable def Ds_hStep (a0 : Gi_Hex) (a1 : Int) : Option (Gi_Hex) :=
  if 0 ≤ a1 then
    Option.bind ([1, 1, 0, (-1), (-1), 0][(Int.toNat a1)]?) fun x2 =>
    if 0 ≤ a1 then
      Option.bind ([0, (-1), (-1), 0, 1, 1][(Int.toNat a1)]?) fun x4 =>
      some (Gi_Hex.mk (IntKind.wrap .i64 (a0.Q + x2)) (IntKind.wrap .i64 (a0.R + x4)))
    else none
  else none
/-! loop example/g00886/spec l1In -/
noncomputable def Ds_l1In (a0 : Int) (a1 : Int) (a2 : Int) : Option (Bool) :=
  if a0 ≥ a1 then
    some (decide (a0 ≤ a2))
  else
    some false
/-! loop example/g00886/spec mIndex -/
noncomputable def Ds_mIndex (a0 : Gi_Map) (a1 : Gi_Hex) : Option (Int) :=
  Option.bind (Ds_l1In a1.Q 0 (IntKind.wrap .i64 (a0.Width - 1))) fun r1 =>
  if r1 = true then
    Option.bind (Ds_l1In a1.R 0 (IntKind.wrap .i64 (a0.Height - 1))) fun r3 =>
    if r3 = true then
      some (IntKind.wrap .i64 ((IntKind.wrap .i64 (a1.R * a0.Width)) + a1.Q))
    else
      some (-1)
  else
    some (-1)
/-! loop example/g00886/spec mNext -/
noncomputable def Ds_mNext (a0 : Gi_Map) (a1 : Int) (a2 : Int) : Option (Int) :=
  Option.bind (Ds_mHex a0 a1) fun r1 =>
  Option.bind (Ds_hStep r1 a2) fun r2 =>
  Option.bind (Ds_mIndex a0 r2) fun r3 =>
  some r3
/-! loop example/g00886/spec mEdge -/
noncomputable def Ds_mEdge (a0 : Gi_Map) (a1 : Int) (a2 : Int) : Option (Int) :=
  if a2 < 3 then
    some (IntKind.wrap .i64 ((IntKind.wrap .i64 (3 * a1)) + a2))
  else
    Option.bind (Ds_mNext a0 a1 a2) fun r2 =>
    some (IntKind.wrap .i64 ((IntKind.wrap .i64 ((IntKind.wrap .i64 (3 * r2)) + a2)) - 3))
/-! loop example/g00886/spec l1Put -/
inductive Ss_l1Put_c0 where
  | h1 (n0 : Int) (k1 : Int) (l2 : (List Int))
noncomputable def Bs_l1Put_c0 : Ss_l1Put_c0 → Option (Ss_l1Put_c0 ⊕ ((List Int)))
  | .h1 n0 k1 l2 =>
    if k1 < ((l2.length : Nat) : Int) then
      if 0 ≤ k1 then
        Option.bind (l2[(Int.toNat k1)]?) fun x3 =>
        if x3 < n0 then
          some (.inl (.h1 n0 (IntKind.wrap .i64 (k1 + 1)) l2))
        else
          if k1 < ((l2.length : Nat) : Int) then
            if 0 ≤ k1 then
              Option.bind (l2[(Int.toNat k1)]?) fun x7 =>
              if (x7 : Int) = n0 then
                some (.inr l2)
              else
                if (0 : Int) ≤ k1 then
                  if (k1 : Int) ≤ ((l2.length : Nat) : Int) then
                    if (List.take ((Int.toNat k1) - 0) (List.drop 0 l2)).length * 8 ≤ 70368744177664 then
                      if ((List.take ((Int.toNat k1) - 0) (List.drop 0 l2)) ++ [n0]).length * 8 ≤ 70368744177664 then
                        if (0 : Int) ≤ k1 then
                          if (k1 : Int) ≤ ((l2.length : Nat) : Int) then
                            if (((List.take ((Int.toNat k1) - 0) (List.drop 0 l2)) ++ [n0]) ++ (List.take (l2.length - (Int.toNat k1)) (List.drop (Int.toNat k1) l2))).length * 8 ≤ 70368744177664 then
                              some (.inr (((List.take ((Int.toNat k1) - 0) (List.drop 0 l2)) ++ [n0]) ++ (List.take (l2.length - (Int.toNat k1)) (List.drop (Int.toNat k1) l2))))
                            else none
                          else none
                        else none
                      else none
                    else none
                  else none
                else none
            else none
          else
            if (0 : Int) ≤ k1 then
              if (k1 : Int) ≤ ((l2.length : Nat) : Int) then
                if (List.take ((Int.toNat k1) - 0) (List.drop 0 l2)).length * 8 ≤ 70368744177664 then
                  if ((List.take ((Int.toNat k1) - 0) (List.drop 0 l2)) ++ [n0]).length * 8 ≤ 70368744177664 then
                    if (0 : Int) ≤ k1 then
                      if (k1 : Int) ≤ ((l2.length : Nat) : Int) then
                        if (((List.take ((Int.toNat k1) - 0) (List.drop 0 l2)) ++ [n0]) ++ (List.take (l2.length - (Int.toNat k1)) (List.drop (Int.toNat k1) l2))).length * 8 ≤ 70368744177664 then
                          some (.inr (((List.take ((Int.toNat k1) - 0) (List.drop 0 l2)) ++ [n0]) ++ (List.take (l2.length - (Int.toNat k1)) (List.drop (Int.toNat k1) l2))))
                        else none
                      else none
                    else none
                  else none
                else none
              else none
            else none
      else none
    else
      if k1 < ((l2.length : Nat) : Int) then
        if 0 ≤ k1 then
          Option.bind (l2[(Int.toNat k1)]?) fun x4 =>
          if (x4 : Int) = n0 then
            some (.inr l2)
          else
            if (0 : Int) ≤ k1 then
              if (k1 : Int) ≤ ((l2.length : Nat) : Int) then
                if (List.take ((Int.toNat k1) - 0) (List.drop 0 l2)).length * 8 ≤ 70368744177664 then
                  if ((List.take ((Int.toNat k1) - 0) (List.drop 0 l2)) ++ [n0]).length * 8 ≤ 70368744177664 then
                    if (0 : Int) ≤ k1 then
                      if (k1 : Int) ≤ ((l2.length : Nat) : Int) then
                        if (((List.take ((Int.toNat k1) - 0) (List.drop 0 l2)) ++ [n0]) ++ (List.take (l2.length - (Int.toNat k1)) (List.drop (Int.toNat k1) l2))).length * 8 ≤ 70368744177664 then
                          some (.inr (((List.take ((Int.toNat k1) - 0) (List.drop 0 l2)) ++ [n0]) ++ (List.take (l2.length - (Int.toNat k1)) (List.drop (Int.toNat k1) l2))))
                        else none
                      else none
                    else none
                  else none
                else none
              else none
            else none
        else none
      else
        if (0 : Int) ≤ k1 then
          if (k1 : Int) ≤ ((l2.length : Nat) : Int) then
            if (List.take ((Int.toNat k1) - 0) (List.drop 0 l2)).length * 8 ≤ 70368744177664 then
              if ((List.take ((Int.toNat k1) - 0) (List.drop 0 l2)) ++ [n0]).length * 8 ≤ 70368744177664 then
                if (0 : Int) ≤ k1 then
                  if (k1 : Int) ≤ ((l2.length : Nat) : Int) then
                    if (((List.take ((Int.toNat k1) - 0) (List.drop 0 l2)) ++ [n0]) ++ (List.take (l2.length - (Int.toNat k1)) (List.drop (Int.toNat k1) l2))).length * 8 ≤ 70368744177664 then
                      some (.inr (((List.take ((Int.toNat k1) - 0) (List.drop 0 l2)) ++ [n0]) ++ (List.take (l2.length - (Int.toNat k1)) (List.drop (Int.toNat k1) l2))))
                    else none
                  else none
                else none
              else none
            else none
          else none
        else none
noncomputable def Ds_l1Put_c0 (a0 : (List Int)) (a1 : Int) : Option ((List Int)) :=
  loop Bs_l1Put_c0 (.h1 a1 0 a0)
/-!   loop example/g00886/spec l1Cur  edges -/
inductive Ss_l1Cur_edges where
  | h1 (k0 : Int) (b1 : Gs_l1Cur) (b2 : Gi_Map) (l3 : (List Int))
noncomputable def Bs_l1Cur_edges : Ss_l1Cur_edges → Option (Ss_l1Cur_edges ⊕ ((List Int) × Gs_l1Cur))
  | .h1 k0 b1 b2 l3 =>
    if k0 > 0 then
      Option.bind (Ds_mSize b2) fun r2 =>
      Option.bind (Ds_l1Cur_pick b1 r2) fun r3 =>
      Option.bind (Ds_l1Cur_pick r3.2 6) fun r4 =>
      Option.bind (Ds_mNext b2 r3.1 r4.1) fun r5 =>
      if r5 ≥ 0 then
        Option.bind (Ds_mEdge b2 r3.1 r4.1) fun r7 =>
        Option.bind (Ds_l1Put_c0 l3 r7) fun r8 =>
        some (.inl (.h1 (IntKind.wrap .i64 (k0 - 1)) r4.2 b2 r8))
      else
        some (.inl (.h1 (IntKind.wrap .i64 (k0 - 1)) r4.2 b2 l3))
    else
      some (.inr (l3, b1))
noncomputable def Ds_l1Cur_edges (a0 : Gs_l1Cur) (a1 : Gi_Map) : Option ((List Int) × Gs_l1Cur) :=
  Option.bind (Ds_l1Cur_pick a0 8) fun r1 =>
  loop Bs_l1Cur_edges (.h1 r1.1 r1.2 a1 ([] : List Int))






/-!   loop example/g00886/spec l1Cur  mapOf -/
inductive Ss_l1Cur_mapOf where
  | h1 (terrains0 : Int) (i1 : Int) (b2 : Gs_l1Cur) (b3 : Int) (b4 : Int) (b5 : Int) (b6 : Int)
  | h2 (terrains0 : Int) (i1 : Int) (b2 : Gs_l1Cur) (b3 : Int) (b4 : Int) (b5 : Int) (b6 : Int) (l7 : (List Int))
noncomputable def Bs_l1Cur_mapOf : Ss_l1Cur_mapOf → Option (Ss_l1Cur_mapOf ⊕ (Gi_Map × Gs_l1Cur))
  | .h1 terrains0 i1 b2 b3 b4 b5 b6 =>
    Option.bind (Ds_mSize (Gi_Map.mk b5 b6 [] [] [])) fun r1 =>
    if i1 < r1 then
      Option.bind (Ds_l1Cur_one b2 3) fun r3 =>
      if r3.1 = true then
        Option.bind (Ds_l1Cur_pick r3.2 terrains0) fun r5 =>
        if [r5.1].length * 8 ≤ 70368744177664 then
          some (.inl (.h2 terrains0 (IntKind.wrap .i64 (i1 + 1)) r5.2 b3 b4 b5 b6 [r5.1]))
        else none
      else
        if [0].length * 8 ≤ 70368744177664 then
          some (.inl (.h2 terrains0 (IntKind.wrap .i64 (i1 + 1)) r3.2 b3 b4 b5 b6 [0]))
        else none
    else
      Option.bind (Ds_l1Cur_edges b2 (Gi_Map.mk b5 b6 [] [] [])) fun r3 =>
      Option.bind (Ds_l1Cur_edges r3.2 (Gi_Map.mk b5 b6 [] r3.1 [])) fun r4 =>
      some (.inr ((Gi_Map.mk b5 b6 [] r3.1 r4.1), r4.2))
  | .h2 terrains0 i1 b2 b3 b4 b5 b6 l7 =>
    Option.bind (Ds_mSize (Gi_Map.mk b5 b6 l7 [] [])) fun r1 =>
    if i1 < r1 then
      Option.bind (Ds_l1Cur_one b2 3) fun r3 =>
      if r3.1 = true then
        Option.bind (Ds_l1Cur_pick r3.2 terrains0) fun r5 =>
        if (l7 ++ [r5.1]).length * 8 ≤ 70368744177664 then
          some (.inl (.h2 terrains0 (IntKind.wrap .i64 (i1 + 1)) r5.2 b3 b4 b5 b6 (l7 ++ [r5.1])))
        else none
      else
        if (l7 ++ [0]).length * 8 ≤ 70368744177664 then
          some (.inl (.h2 terrains0 (IntKind.wrap .i64 (i1 + 1)) r3.2 b3 b4 b5 b6 (l7 ++ [0])))
        else none
    else
      Option.bind (Ds_l1Cur_edges b2 (Gi_Map.mk b5 b6 l7 [] [])) fun r3 =>
      Option.bind (Ds_l1Cur_edges r3.2 (Gi_Map.mk b5 b6 l7 r3.1 [])) fun r4 =>
      some (.inr ((Gi_Map.mk b5 b6 l7 r3.1 r4.1), r4.2))
noncomputable def Ds_l1Cur_mapOf (a0 : Gs_l1Cur) (a1 : Int) : Option (Gi_Map × Gs_l1Cur) :=
  Option.bind (Ds_l1Cur_pick a0 6) fun r1 =>
  Option.bind (Ds_l1Cur_pick r1.2 6) fun r2 =>
  loop Bs_l1Cur_mapOf (.h1 a1 0 r2.2 0 0 (IntKind.wrap .i64 (1 + r1.1)) (IntKind.wrap .i64 (1 + r2.1)))
/-!   loop example/g00886/spec l1Cur  board -/
noncomputable def Ds_l1Cur_board (a0 : Gs_l1Cur) : Option (Gi_Board × Gs_l1Cur) :=
  Option.bind (Ds_l1Cur_rules a0) fun r1 =>
  Option.bind (Ds_l1Cur_mapOf r1.2 ((r1.1.Terrains.length : Nat) : Int)) fun r2 =>
  some ((Gi_Board.mk r1.1 r2.1), r2.2)
/-!   loop example/g00886/spec l1Cur  among -/
noncomputable def Ds_l1Cur_among (a0 : Gs_l1Cur) (a1 : (List Int)) : Option (Int × Gs_l1Cur) :=
  Option.bind (Ds_l1Cur_pick a0 ((a1.length : Nat) : Int)) fun r1 =>
  if 0 ≤ r1.1 then
    Option.bind (a1[(Int.toNat r1.1)]?) fun x3 =>
    some (x3, r1.2)
  else none
/-!   loop example/g00886/spec l1Cur  of -/
noncomputable def Ds_l1Cur_of (a0 : Gs_l1Cur) (a1 : (List ByteArray)) : Option (ByteArray × Gs_l1Cur) :=
  Option.bind (Ds_l1Cur_pick a0 ((a1.length : Nat) : Int)) fun r1 =>
  if 0 ≤ r1.1 then
    Option.bind (a1[(Int.toNat r1.1)]?) fun x3 =>
    some (x3, r1.2)
  else none
/-!   loop example/g00886/spec l1Cur  anyRules -/
noncomputable def Ds_l1Cur_anyRules (a0 : Gs_l1Cur) : Option (Gi_Rules × Gs_l1Cur) :=
  Option.bind (Ds_l1Cur_rules a0) fun r1 =>
  Option.bind (Ds_l1Cur_pick r1.2 30) fun r2 =>
  if (r2.1 : Int) = 0 then
    Option.bind (r1.1.Terrains[(Int.toNat 0)]?) fun x4 =>
    Option.bind (Ds_l1Cur_among r2.2 [(-1), 9, 10, 0]) fun r5 =>
    Option.bind (x4.Cost[(Int.toNat 0)]?) fun x6 =>
    some ((Gi_Rules.mk (List.set r1.1.Terrains (Int.toNat 0) (Gi_Terrain.mk x4.Name (List.set x4.Cost (Int.toNat 0) r5.1) x4.Shift x4.Height x4.Blocks)) r1.1.Kinds r1.1.Stack r1.1.River r1.1.Road r1.1.Supply r1.1.Turns), r5.2)
  else
    if (r2.1 : Int) = 1 then
      Option.bind (Ds_l1Cur_of r2.2 [⟨#[]⟩, ⟨#[80, 108, 97, 105, 110]⟩, ⟨#[119, 111, 111, 100]⟩, ⟨#[97, 98, 99, 100, 101, 102, 103, 104]⟩, ⟨#[97, 98, 99, 100, 101, 102, 103, 104, 105]⟩]) fun r5 =>
      Option.bind (r1.1.Terrains[(Int.toNat 0)]?) fun x6 =>
      some ((Gi_Rules.mk (List.set r1.1.Terrains (Int.toNat 0) (Gi_Terrain.mk r5.1 x6.Cost x6.Shift x6.Height x6.Blocks)) r1.1.Kinds r1.1.Stack r1.1.River r1.1.Road r1.1.Supply r1.1.Turns), r5.2)
    else
      if (r2.1 : Int) = 2 then
        Option.bind (Ds_l1Cur_among r2.2 [(-1), 0, 9, 10]) fun r6 =>
        Option.bind (r1.1.Kinds[(Int.toNat 0)]?) fun x7 =>
        some ((Gi_Rules.mk r1.1.Terrains (List.set r1.1.Kinds (Int.toNat 0) (Gi_Kind.mk x7.Name x7.Strength r6.1 x7.Steps x7.Zone x7.View)) r1.1.Stack r1.1.River r1.1.Road r1.1.Supply r1.1.Turns), r6.2)
      else
        if (r2.1 : Int) = 3 then
          Option.bind (r1.1.Kinds[(Int.toNat 0)]?) fun x7 =>
          if (r1.1.Kinds ++ [x7]).length * 56 ≤ 70368744177664 then
            some ((Gi_Rules.mk r1.1.Terrains (r1.1.Kinds ++ [x7]) r1.1.Stack r1.1.River r1.1.Road r1.1.Supply r1.1.Turns), r2.2)
          else none
        else
          if (r2.1 : Int) = 4 then
            Option.bind (Ds_l1Cur_among r2.2 [0, 4, 5]) fun r8 =>
            some ((Gi_Rules.mk r1.1.Terrains r1.1.Kinds r8.1 r1.1.River r1.1.Road r1.1.Supply r1.1.Turns), r8.2)
          else
            if (r2.1 : Int) = 5 then
              Option.bind (Ds_l1Cur_among r2.2 [0, 30, 31]) fun r9 =>
              some ((Gi_Rules.mk r1.1.Terrains r1.1.Kinds r1.1.Stack r1.1.River r1.1.Road r1.1.Supply r9.1), r9.2)
            else
              if (r2.1 : Int) = 6 then
                Option.bind (Ds_l1Cur_among r2.2 [(-4), (-3), 4]) fun r10 =>
                Option.bind (r1.1.Terrains[(Int.toNat 0)]?) fun x11 =>
                some ((Gi_Rules.mk (List.set r1.1.Terrains (Int.toNat 0) (Gi_Terrain.mk x11.Name x11.Cost r10.1 x11.Height x11.Blocks)) r1.1.Kinds r1.1.Stack r1.1.River r1.1.Road r1.1.Supply r1.1.Turns), r10.2)
              else
                some (r1.1, r2.2)
/-!   loop example/g00886/spec l1Cur  anyMap -/
noncomputable def Ds_l1Cur_anyMap (a0 : Gs_l1Cur) : Option (Gi_Map × Gs_l1Cur) :=
  Option.bind (Ds_l1Cur_mapOf a0 6) fun r1 =>
  Option.bind (Ds_l1Cur_pick r1.2 30) fun r2 =>
  if (r2.1 : Int) = 0 then
    Option.bind (Ds_l1Cur_among r2.2 [0, 10, 11, (IntKind.wrap .i64 (r1.1.Width + 1))]) fun r4 =>
    some ((Gi_Map.mk r4.1 r1.1.Height r1.1.Terrain r1.1.Rivers r1.1.Roads), r4.2)
  else
    if (r2.1 : Int) = 1 then
      Option.bind (Ds_l1Cur_among r2.2 [(-1), 6]) fun r5 =>
      Option.bind (r1.1.Terrain[(Int.toNat 0)]?) fun x6 =>
      some ((Gi_Map.mk r1.1.Width r1.1.Height (List.set r1.1.Terrain (Int.toNat 0) r5.1) r1.1.Rivers r1.1.Roads), r5.2)
    else
      if (r2.1 : Int) = 2 then
        Option.bind (Ds_mSize r1.1) fun r6 =>
        Option.bind (Ds_mSize r1.1) fun r7 =>
        Option.bind (Ds_l1Cur_among r2.2 [0, (IntKind.wrap .i64 (3 * r6)), (IntKind.wrap .i64 ((IntKind.wrap .i64 (3 * r7)) - 1)), (-1)]) fun r8 =>
        if (r1.1.Rivers ++ [r8.1]).length * 8 ≤ 70368744177664 then
          some ((Gi_Map.mk r1.1.Width r1.1.Height r1.1.Terrain (r1.1.Rivers ++ [r8.1]) r1.1.Roads), r8.2)
        else none
      else
        if (r2.1 : Int) = 3 then
          if ([2] ++ r1.1.Roads).length * 8 ≤ 70368744177664 then
            some ((Gi_Map.mk r1.1.Width r1.1.Height r1.1.Terrain r1.1.Rivers ([2] ++ r1.1.Roads)), r2.2)
          else none
        else
          some (r1.1, r2.2)
/-!   loop example/g00886/spec l1Cur  anyBoard -/
noncomputable def Ds_l1Cur_anyBoard (a0 : Gs_l1Cur) : Option (Gi_Board × Gs_l1Cur) :=
  Option.bind (Ds_l1Cur_board a0) fun r1 =>
  Option.bind (Ds_l1Cur_pick r1.2 24) fun r2 =>
  if (r2.1 : Int) = 0 then
    Option.bind (Ds_l1Cur_anyRules r2.2) fun r4 =>
    some ((Gi_Board.mk r4.1 r1.1.Map), r4.2)
  else
    if (r2.1 : Int) = 1 then
      Option.bind (Ds_l1Cur_anyMap r2.2) fun r5 =>
      some ((Gi_Board.mk r1.1.Rules r5.1), r5.2)
    else
      some (r1.1, r2.2)
/-! loop example/g00886/spec rName -/
inductive Ss_rName where
  | h1 (s0 : ByteArray) (i1 : Int)
noncomputable def Bs_rName : Ss_rName → Option (Ss_rName ⊕ (Bool))
  | .h1 s0 i1 =>
    if i1 < ((ByteArray.size s0 : Nat) : Int) then
      if 0 ≤ i1 then
        if i1 < (ByteArray.size s0 : Int) then
          if ((byteAt s0 (Int.toNat i1) : Nat) : Int) < 97 then
            some (.inr false)
          else
            if 0 ≤ i1 then
              if i1 < (ByteArray.size s0 : Int) then
                if ((byteAt s0 (Int.toNat i1) : Nat) : Int) > 122 then
                  some (.inr false)
                else
                  some (.inl (.h1 s0 (IntKind.wrap .i64 (i1 + 1))))
              else none
            else none
        else none
      else none
    else
      Option.bind (Ds_l1In ((ByteArray.size s0 : Nat) : Int) 1 8) fun r2 =>
      some (.inr r2)
noncomputable def Ds_rName (a0 : ByteArray) : Option (Bool) :=
  loop Bs_rName (.h1 a0 0)
/-! loop example/g00886/spec rTerrain -/
inductive Ss_rTerrain where
  | h1 (name0 : ByteArray) (t1 : (List Gi_Terrain)) (t2 : Int) (t3 : Int)
noncomputable def Bs_rTerrain : Ss_rTerrain → Option (Ss_rTerrain ⊕ (Int))
  | .h1 name0 t1 t2 t3 =>
    if t3 < t2 then
      if 0 ≤ t3 then
        Option.bind (t1[(Int.toNat t3)]?) fun x3 =>
        if x3.Name = name0 then
          some (.inr t3)
        else
          some (.inl (.h1 name0 t1 t2 (IntKind.wrap .i64 (t3 + 1))))
      else none
    else
      some (.inr (-1))
noncomputable def Ds_rTerrain (a0 : (List Gi_Terrain)) (a1 : ByteArray) : Option (Int) :=
  loop Bs_rTerrain (.h1 a1 a0 ((a0.length : Nat) : Int) 0)
/-! loop example/g00886/spec l1All -/
inductive Ss_l1All where
  | h1 (lo0 : Int) (vhi1 : Int) (t2 : (List Int)) (t3 : Int) (t4 : Int)
noncomputable def Bs_l1All : Ss_l1All → Option (Ss_l1All ⊕ (Bool))
  | .h1 lo0 vhi1 t2 t3 t4 =>
    if t4 < t3 then
      if 0 ≤ t4 then
        Option.bind (t2[(Int.toNat t4)]?) fun x3 =>
        Option.bind (Ds_l1In x3 lo0 vhi1) fun r4 =>
        if r4 = true then
          some (.inl (.h1 lo0 vhi1 t2 t3 (IntKind.wrap .i64 (t4 + 1))))
        else
          some (.inr false)
      else none
    else
      some (.inr true)
noncomputable def Ds_l1All (a0 : (List Int)) (a1 : Int) (a2 : Int) : Option (Bool) :=
  loop Bs_l1All (.h1 a1 a2 a0 ((a0.length : Nat) : Int) 0)
/-! loop example/g00886/spec rKind -/
inductive Ss_rKind where
  | h1 (name0 : ByteArray) (t1 : (List Gi_Kind)) (t2 : Int) (t3 : Int)
noncomputable def Bs_rKind : Ss_rKind → Option (Ss_rKind ⊕ (Int))
  | .h1 name0 t1 t2 t3 =>
    if t3 < t2 then
      if 0 ≤ t3 then
        Option.bind (t1[(Int.toNat t3)]?) fun x3 =>
        if x3.Name = name0 then
          some (.inr t3)
        else
          some (.inl (.h1 name0 t1 t2 (IntKind.wrap .i64 (t3 + 1))))
      else none
    else
      some (.inr (-1))
noncomputable def Ds_rKind (a0 : (List Gi_Kind)) (a1 : ByteArray) : Option (Int) :=
  loop Bs_rKind (.h1 a1 a0 ((a0.length : Nat) : Int) 0)
/-! loop example/g00886/spec rGood -/
inductive Ss_rGood where
  | h1 (t0 : (List Gi_Terrain)) (t1 : Int) (t2 : Int) (b3 : Gi_Rules)
  | h2 (t0 : (List Gi_Kind)) (t1 : Int) (t2 : Int) (b3 : Gi_Rules)
noncomputable def Bs_rGood : Ss_rGood → Option (Ss_rGood ⊕ (Bool))
  | .h1 t0 t1 t2 b3 =>
    if t2 < t1 then
      if 0 ≤ t2 then
        Option.bind (t0[(Int.toNat t2)]?) fun x3 =>
        Option.bind (Ds_rName x3.Name) fun r4 =>
        if r4 = true then
          Option.bind (Ds_rTerrain b3.Terrains x3.Name) fun r6 =>
          if (r6 : Int) = t2 then
            if (((x3.Cost.length : Nat) : Int) : Int) = ((b3.Kinds.length : Nat) : Int) then
              Option.bind (Ds_l1All x3.Cost 0 9) fun r9 =>
              if r9 = true then
                Option.bind (Ds_l1In x3.Shift (-3) 3) fun r11 =>
                if r11 = true then
                  Option.bind (Ds_l1In x3.Height 0 3) fun r13 =>
                  if r13 = true then
                    some (.inl (.h1 t0 t1 (IntKind.wrap .i64 (t2 + 1)) b3))
                  else
                    some (.inr false)
                else
                  some (.inr false)
              else
                some (.inr false)
            else
              some (.inr false)
          else
            some (.inr false)
        else
          some (.inr false)
      else none
    else
      some (.inl (.h2 b3.Kinds ((b3.Kinds.length : Nat) : Int) 0 b3))
  | .h2 t0 t1 t2 b3 =>
    if t2 < t1 then
      if 0 ≤ t2 then
        Option.bind (t0[(Int.toNat t2)]?) fun x3 =>
        Option.bind (Ds_rName x3.Name) fun r4 =>
        if r4 = true then
          Option.bind (Ds_rKind b3.Kinds x3.Name) fun r6 =>
          if (r6 : Int) = t2 then
            Option.bind (Ds_l1In x3.Strength 1 9) fun r8 =>
            if r8 = true then
              Option.bind (Ds_l1In x3.Moves 0 9) fun r10 =>
              if r10 = true then
                Option.bind (Ds_l1In x3.Steps 1 4) fun r12 =>
                if r12 = true then
                  Option.bind (Ds_l1In x3.View 0 4) fun r14 =>
                  if r14 = true then
                    some (.inl (.h2 t0 t1 (IntKind.wrap .i64 (t2 + 1)) b3))
                  else
                    some (.inr false)
                else
                  some (.inr false)
              else
                some (.inr false)
            else
              some (.inr false)
          else
            some (.inr false)
        else
          some (.inr false)
      else none
    else
      Option.bind (Ds_l1In b3.Stack 1 4) fun r2 =>
      if r2 = true then
        Option.bind (Ds_l1In b3.River 0 9) fun r4 =>
        if r4 = true then
          Option.bind (Ds_l1In b3.Road 1 9) fun r6 =>
          if r6 = true then
            Option.bind (Ds_l1In b3.Supply 0 20) fun r8 =>
            if r8 = true then
              Option.bind (Ds_l1In b3.Turns 1 30) fun r10 =>
              some (.inr r10)
            else
              some (.inr false)
          else
            some (.inr false)
        else
          some (.inr false)
      else
        some (.inr false)
noncomputable def Ds_rGood (a0 : Gi_Rules) : Option (Bool) :=
  Option.bind (Ds_l1In ((a0.Terrains.length : Nat) : Int) 1 6) fun r1 =>
  if r1 = true then
    Option.bind (Ds_l1In ((a0.Kinds.length : Nat) : Int) 1 4) fun r3 =>
    if r3 = true then
      loop Bs_rGood (.h1 a0.Terrains ((a0.Terrains.length : Nat) : Int) 0 a0)
    else
      some false
  else
    some false
/-! loop example/g00886/spec l1Rising -/
inductive Ss_l1Rising where
  | h1 (l0 : (List Int)) (lo1 : Int) (vhi2 : Int) (t3 : (List Int)) (t4 : Int) (t5 : Int)
noncomputable def Bs_l1Rising : Ss_l1Rising → Option (Ss_l1Rising ⊕ (Bool))
  | .h1 l0 lo1 vhi2 t3 t4 t5 =>
    if t5 < t4 then
      if 0 ≤ t5 then
        Option.bind (t3[(Int.toNat t5)]?) fun x3 =>
        Option.bind (Ds_l1In x3 lo1 vhi2) fun r4 =>
        if r4 = true then
          if t5 > 0 then
            if 0 ≤ (IntKind.wrap .i64 (t5 - 1)) then
              Option.bind (l0[(Int.toNat (IntKind.wrap .i64 (t5 - 1)))]?) fun x8 =>
              if x8 ≥ x3 then
                some (.inr false)
              else
                some (.inl (.h1 l0 lo1 vhi2 t3 t4 (IntKind.wrap .i64 (t5 + 1))))
            else none
          else
            some (.inl (.h1 l0 lo1 vhi2 t3 t4 (IntKind.wrap .i64 (t5 + 1))))
        else
          some (.inr false)
      else none
    else
      some (.inr true)
noncomputable def Ds_l1Rising (a0 : (List Int)) (a1 : Int) (a2 : Int) : Option (Bool) :=
  loop Bs_l1Rising (.h1 a0 a1 a2 a0 ((a0.length : Nat) : Int) 0)
/-! loop example/g00886/spec mEdges -/
inductive Ss_mEdges where
  | h1 (l0 : (List Int)) (t1 : (List Int)) (t2 : Int) (t3 : Int) (b4 : Gi_Map)
noncomputable def Bs_mEdges : Ss_mEdges → Option (Ss_mEdges ⊕ (Bool))
  | .h1 l0 t1 t2 t3 b4 =>
    if t3 < t2 then
      if 0 ≤ t3 then
        Option.bind (t1[(Int.toNat t3)]?) fun x3 =>
        Option.bind (Ds_mSize b4) fun r4 =>
        Option.bind (Ds_l1In x3 0 (IntKind.wrap .i64 ((IntKind.wrap .i64 (3 * r4)) - 1))) fun r5 =>
        if r5 = true then
          Option.bind (Ds_mNext b4 (IntKind.wrap .i64 (Int.tdiv x3 3)) (Int.tmod x3 3)) fun r7 =>
          if r7 < 0 then
            some (.inr false)
          else
            some (.inl (.h1 l0 t1 t2 (IntKind.wrap .i64 (t3 + 1)) b4))
        else
          some (.inr false)
      else none
    else
      Option.bind (Ds_mSize b4) fun r2 =>
      Option.bind (Ds_l1Rising l0 0 (IntKind.wrap .i64 ((IntKind.wrap .i64 (3 * r2)) - 1))) fun r3 =>
      some (.inr r3)
noncomputable def Ds_mEdges (a0 : Gi_Map) (a1 : (List Int)) : Option (Bool) :=
  loop Bs_mEdges (.h1 a1 a1 ((a1.length : Nat) : Int) 0 a0)
/-! loop example/g00886/spec mGood -/
noncomputable def Ds_mGood (a0 : Gi_Map) : Option (Bool) :=
  Option.bind (Ds_l1In a0.Width 1 10) fun r1 =>
  if r1 = true then
    Option.bind (Ds_l1In a0.Height 1 10) fun r3 =>
    if r3 = true then
      Option.bind (Ds_mSize a0) fun r5 =>
      if (((a0.Terrain.length : Nat) : Int) : Int) = r5 then
        Option.bind (Ds_l1All a0.Terrain 0 5) fun r7 =>
        if r7 = true then
          Option.bind (Ds_mEdges a0 a0.Rivers) fun r9 =>
          if r9 = true then
            Option.bind (Ds_mEdges a0 a0.Roads) fun r11 =>
            some r11
          else
            some false
        else
          some false
      else
        some false
    else
      some false
  else
    some false
/-! loop example/g00886/spec bGood -/
noncomputable def Ds_bGood (a0 : Gi_Board) : Option (Bool) :=
  Option.bind (Ds_rGood a0.Rules) fun r1 =>
  if r1 = true then
    Option.bind (Ds_mGood a0.Map) fun r3 =>
    if r3 = true then
      Option.bind (Ds_l1All a0.Map.Terrain 0 (IntKind.wrap .i64 (((a0.Rules.Terrains.length : Nat) : Int) - 1))) fun r5 =>
      some r5
    else
      some false
  else
    some false
/-! loop example/g00886/spec l1Most -/
noncomputable def Ds_l1Most (a0 : Int) (a1 : Int) : Option (Int) :=
  if a0 > a1 then
    some a0
  else
    some a1
/-!   loop example/g00886/spec l1Cur  place -/
noncomputable def Ds_l1Cur_place (a0 : Gs_l1Cur) (a1 : Gi_Map) : Option (Int × Gs_l1Cur) :=
  Option.bind (Ds_l1Cur_one a0 20) fun r1 =>
  if r1.1 = true then
    Option.bind (Ds_mSize a1) fun r3 =>
    Option.bind (Ds_l1Cur_among r1.2 [(-1), r3]) fun r4 =>
    some (r4.1, r4.2)
  else
    Option.bind (Ds_mSize a1) fun r3 =>
    Option.bind (Ds_l1Most r3 1) fun r4 =>
    Option.bind (Ds_l1Cur_pick r1.2 r4) fun r5 =>
    some (r5.1, r5.2)
/-!   loop example/g00886/spec l1Cur  works -/
inductive Ss_l1Cur_works where
  | h1 (k0 : Int) (b1 : Gs_l1Cur) (b2 : Gi_Board) (b3 : Int) (b4 : Int) (b5 : Int) (b6 : Int) (b7 : Int) (b8 : Int)
  | h2 (k0 : Int) (b1 : Gs_l1Cur) (b2 : Gi_Board) (b3 : Int) (b4 : Int) (b5 : Int) (b6 : Int) (b7 : Int) (b8 : Int) (l9 : (List Int))
  | h3 (b0 : Gs_l1Cur) (b1 : Int) (b2 : Int) (b3 : Int) (b4 : Int) (b5 : Int) (b6 : Int)
  | h4 (b0 : Gs_l1Cur) (b1 : Int) (b2 : Int) (b3 : Int) (b4 : Int) (b5 : Int) (b6 : Int) (l7 : (List Int))
noncomputable def Bs_l1Cur_works : Ss_l1Cur_works → Option (Ss_l1Cur_works ⊕ (Gi_Works × Gs_l1Cur))
  | .h1 k0 b1 b2 b3 b4 b5 b6 b7 b8 =>
    if k0 > 0 then
      Option.bind (Ds_l1Cur_pick b1 ((b2.Rules.Kinds.length : Nat) : Int)) fun r2 =>
      if [r2.1].length * 8 ≤ 70368744177664 then
        some (.inl (.h2 (IntKind.wrap .i64 (k0 - 1)) r2.2 b2 b3 b4 b5 b6 b7 b8 [r2.1]))
      else none
    else
      Option.bind (Ds_l1Cur_pick b1 24) fun r2 =>
      if (r2.1 : Int) = 0 then
        Option.bind (Ds_l1Cur_among r2.2 [(-1), 0, 100]) fun r4 =>
        some (.inr ((Gi_Works.mk b6 r4.1 b8 []), r4.2))
      else
        if (r2.1 : Int) = 1 then
          Option.bind (Ds_l1Cur_among r2.2 [(-1), 200, 201]) fun r5 =>
          some (.inr ((Gi_Works.mk b6 b7 r5.1 []), r5.2))
        else
          if (r2.1 : Int) = 2 then
            Option.bind (Ds_l1Cur_among r2.2 [(-1), 0, 4]) fun r6 =>
            if [r6.1].length * 8 ≤ 70368744177664 then
              some (.inr ((Gi_Works.mk b6 b7 b8 [r6.1]), r6.2))
            else none
          else
            if (r2.1 : Int) = 3 then
              some (.inl (.h3 r2.2 b3 b4 b5 b6 b7 b8))
            else
              some (.inr ((Gi_Works.mk b6 b7 b8 []), r2.2))
  | .h2 k0 b1 b2 b3 b4 b5 b6 b7 b8 l9 =>
    if k0 > 0 then
      Option.bind (Ds_l1Cur_pick b1 ((b2.Rules.Kinds.length : Nat) : Int)) fun r2 =>
      if (l9 ++ [r2.1]).length * 8 ≤ 70368744177664 then
        some (.inl (.h2 (IntKind.wrap .i64 (k0 - 1)) r2.2 b2 b3 b4 b5 b6 b7 b8 (l9 ++ [r2.1])))
      else none
    else
      Option.bind (Ds_l1Cur_pick b1 24) fun r2 =>
      if (r2.1 : Int) = 0 then
        Option.bind (Ds_l1Cur_among r2.2 [(-1), 0, 100]) fun r4 =>
        some (.inr ((Gi_Works.mk b6 r4.1 b8 l9), r4.2))
      else
        if (r2.1 : Int) = 1 then
          Option.bind (Ds_l1Cur_among r2.2 [(-1), 200, 201]) fun r5 =>
          some (.inr ((Gi_Works.mk b6 b7 r5.1 l9), r5.2))
        else
          if (r2.1 : Int) = 2 then
            Option.bind (Ds_l1Cur_among r2.2 [(-1), 0, 4]) fun r6 =>
            if (l9 ++ [r6.1]).length * 8 ≤ 70368744177664 then
              some (.inr ((Gi_Works.mk b6 b7 b8 (l9 ++ [r6.1])), r6.2))
            else none
          else
            if (r2.1 : Int) = 3 then
              some (.inl (.h4 r2.2 b3 b4 b5 b6 b7 b8 l9))
            else
              some (.inr ((Gi_Works.mk b6 b7 b8 l9), r2.2))
  | .h3 b0 b1 b2 b3 b4 b5 b6 =>
    Option.bind (Ds_l1Cur_pick b0 2) fun r1 =>
    if 0 < (IntKind.wrap .i64 (8 + r1.1)) then
      if [0].length * 8 ≤ 70368744177664 then
        some (.inl (.h4 r1.2 b1 b2 b3 b4 b5 b6 [0]))
      else none
    else
      some (.inr ((Gi_Works.mk b4 b5 b6 []), r1.2))
  | .h4 b0 b1 b2 b3 b4 b5 b6 l7 =>
    Option.bind (Ds_l1Cur_pick b0 2) fun r1 =>
    if ((l7.length : Nat) : Int) < (IntKind.wrap .i64 (8 + r1.1)) then
      if (l7 ++ [0]).length * 8 ≤ 70368744177664 then
        some (.inl (.h4 r1.2 b1 b2 b3 b4 b5 b6 (l7 ++ [0])))
      else none
    else
      some (.inr ((Gi_Works.mk b4 b5 b6 l7), r1.2))
noncomputable def Ds_l1Cur_works (a0 : Gs_l1Cur) (a1 : Gi_Board) : Option (Gi_Works × Gs_l1Cur) :=
  Option.bind (Ds_l1Cur_pick a0 2) fun r1 =>
  Option.bind (Ds_l1Cur_among r1.2 [0, 2, 5, 12, 30, 200]) fun r2 =>
  Option.bind (Ds_bGood a1) fun r3 =>
  if r3 = true then
    Option.bind (Ds_l1Cur_place r2.2 a1.Map) fun r5 =>
    Option.bind (Ds_l1Cur_pick r5.2 4) fun r6 =>
    loop Bs_l1Cur_works (.h1 r6.1 r6.2 a1 0 0 0 r1.1 r5.1 r2.1)
  else
    some ((Gi_Works.mk r1.1 0 r2.1 []), r2.2)
/-!   loop example/g00886/spec l1Cur  kindOn -/
noncomputable def Ds_l1Cur_kindOn (a0 : Gs_l1Cur) (a1 : Gi_Board) : Option (Int × Gs_l1Cur) :=
  Option.bind (Ds_l1Most ((a1.Rules.Kinds.length : Nat) : Int) 1) fun r1 =>
  Option.bind (Ds_l1Cur_pick a0 r1) fun r2 =>
  Option.bind (Ds_l1Cur_pick r2.2 24) fun r3 =>
  some ((IntKind.wrap .i64 (r2.1 + (IntKind.wrap .i64 (Int.tdiv r3.1 23)))), r3.2)
/-! loop example/g00886/spec DrawAppendKind -/
noncomputable def Ds_DrawAppendKind (a0 : (List Int)) : Option (Gi_Board × Gi_Works × Int) :=
  Option.bind (Ds_l1Cur_anyBoard (Gs_l1Cur.mk a0 0 0)) fun r1 =>
  Option.bind (Ds_l1Cur_works r1.2 r1.1) fun r2 =>
  Option.bind (Ds_l1Cur_kindOn r2.2 r1.1) fun r3 =>
  some (r1.1, r2.1, r3.1)
/-! loop example/g00886/impl inRange -/
noncomputable def Di_inRange (a0 : Int) (a1 : Int) (a2 : Int) : Option (Bool) :=
  if a1 ≤ a0 then
    some (decide (a0 ≤ a2))
  else
    some false
/-! loop example/g00886/impl isName -/
inductive Si_isName where
  | h1 (s0 : ByteArray) (i1 : Int)
noncomputable def Bi_isName : Si_isName → Option (Si_isName ⊕ (Bool))
  | .h1 s0 i1 =>
    if i1 < ((ByteArray.size s0 : Nat) : Int) then
      if 0 ≤ i1 then
        if i1 < (ByteArray.size s0 : Int) then
          if ((byteAt s0 (Int.toNat i1) : Nat) : Int) < 97 then
            some (.inr false)
          else
            if 0 ≤ i1 then
              if i1 < (ByteArray.size s0 : Int) then
                if ((byteAt s0 (Int.toNat i1) : Nat) : Int) > 122 then
                  some (.inr false)
                else
                  some (.inl (.h1 s0 (IntKind.wrap .i64 (i1 + 1))))
              else none
            else none
        else none
      else none
    else
      Option.bind (Di_inRange ((ByteArray.size s0 : Nat) : Int) 1 8) fun r2 =>
      some (.inr r2)
noncomputable def Di_isName (a0 : ByteArray) : Option (Bool) :=
  loop Bi_isName (.h1 a0 0)
/-! loop example/g00886/impl goodTerrain 1 -/
noncomputable def Di_goodTerrain_1 (a0 : Int) : Option (Bool) :=
  Option.bind (Di_inRange a0 0 9) fun r1 =>
  some (!r1)
/-! slices IndexFunc   int int  -/
inductive Sslices_IndexFunc_int_i_goodTerrain_1 where
  | h1 (s0 : (List Int)) (t1 : Int) (t2 : Int)
noncomputable def Bslices_IndexFunc_int_i_goodTerrain_1 : Sslices_IndexFunc_int_i_goodTerrain_1 → Option (Sslices_IndexFunc_int_i_goodTerrain_1 ⊕ (Int))
  | .h1 s0 t1 t2 =>
    if t2 < t1 then
      if 0 ≤ t2 then
        Option.bind (s0[(Int.toNat t2)]?) fun x3 =>
        Option.bind (Di_goodTerrain_1 x3) fun r4 =>
        if r4 = true then
          some (.inr t2)
        else
          some (.inl (.h1 s0 t1 (IntKind.wrap .i64 (t2 + 1))))
      else none
    else
      some (.inr (-1))
noncomputable def Dslices_IndexFunc_int_i_goodTerrain_1 (a0 : (List Int)) : Option (Int) :=
  loop Bslices_IndexFunc_int_i_goodTerrain_1 (.h1 a0 ((a0.length : Nat) : Int) 0)
/-! slices ContainsFunc   int int  -/
noncomputable def Dslices_ContainsFunc_int_i_goodTerrain_1 (a0 : (List Int)) : Option (Bool) :=
  Option.bind (Dslices_IndexFunc_int_i_goodTerrain_1 a0) fun r1 =>
  some (decide (r1 ≥ 0))
/-! loop example/g00886/impl goodTerrain -/
noncomputable def Di_goodTerrain (a0 : Gi_Terrain) (a1 : Int) : Option (Bool) :=
  Option.bind (Di_isName a0.Name) fun r1 =>
  if r1 = true then
    if (((a0.Cost.length : Nat) : Int) : Int) = a1 then
      Option.bind (Di_inRange a0.Shift (-3) 3) fun r4 =>
      if r4 = true then
        Option.bind (Di_inRange a0.Height 0 3) fun r6 =>
        if r6 = true then
          Option.bind (Dslices_ContainsFunc_int_i_goodTerrain_1 a0.Cost) fun r8 =>
          some (!r8)
        else
          some false
      else
        some false
    else
      some false
  else
    some false
/-! loop example/g00886/impl terrainIndex 1 -/
noncomputable def Di_terrainIndex_1 (a0 : Gi_Terrain) (a1 : ByteArray) : Option (Bool) :=
  some (a0.Name == a1)
/-! slices IndexFunc   loop example/g00886/impl Terrain loop example/g00886/impl Terrain  -/
inductive Sslices_IndexFunc_i_Terrain_i_terrainIndex_1 where
  | h1 (s0 : (List Gi_Terrain)) (f1 : ByteArray) (t2 : Int) (t3 : Int)
noncomputable def Bslices_IndexFunc_i_Terrain_i_terrainIndex_1 : Sslices_IndexFunc_i_Terrain_i_terrainIndex_1 → Option (Sslices_IndexFunc_i_Terrain_i_terrainIndex_1 ⊕ (Int))
  | .h1 s0 f1 t2 t3 =>
    if t3 < t2 then
      if 0 ≤ t3 then
        Option.bind (s0[(Int.toNat t3)]?) fun x3 =>
        Option.bind (Di_terrainIndex_1 x3 f1) fun r4 =>
        if r4 = true then
          some (.inr t3)
        else
          some (.inl (.h1 s0 f1 t2 (IntKind.wrap .i64 (t3 + 1))))
      else none
    else
      some (.inr (-1))
noncomputable def Dslices_IndexFunc_i_Terrain_i_terrainIndex_1 (a0 : (List Gi_Terrain)) (a100 : ByteArray) : Option (Int) :=
  loop Bslices_IndexFunc_i_Terrain_i_terrainIndex_1 (.h1 a0 a100 ((a0.length : Nat) : Int) 0)
/-! loop example/g00886/impl terrainIndex -/
noncomputable def Di_terrainIndex (a0 : (List Gi_Terrain)) (a1 : ByteArray) : Option (Int) :=
  Option.bind (Dslices_IndexFunc_i_Terrain_i_terrainIndex_1 a0 a1) fun r1 =>
  some r1
/-! loop example/g00886/impl goodKind -/
noncomputable def Di_goodKind (a0 : Gi_Kind) : Option (Bool) :=
  Option.bind (Di_isName a0.Name) fun r1 =>
  if r1 = true then
    Option.bind (Di_inRange a0.Strength 1 9) fun r3 =>
    if r3 = true then
      Option.bind (Di_inRange a0.Moves 0 9) fun r5 =>
      if r5 = true then
        Option.bind (Di_inRange a0.Steps 1 4) fun r7 =>
        if r7 = true then
          Option.bind (Di_inRange a0.View 0 4) fun r9 =>
          some r9
        else
          some false
      else
        some false
    else
      some false
  else
    some false
/-! loop example/g00886/impl kindIndex 1 -/
noncomputable def Di_kindIndex_1 (a0 : Gi_Kind) (a1 : ByteArray) : Option (Bool) :=
  some (a0.Name == a1)
/-! slices IndexFunc   loop example/g00886/impl Kind loop example/g00886/impl Kind  -/
inductive Sslices_IndexFunc_i_Kind_i_kindIndex_1 where
  | h1 (s0 : (List Gi_Kind)) (f1 : ByteArray) (t2 : Int) (t3 : Int)
noncomputable def Bslices_IndexFunc_i_Kind_i_kindIndex_1 : Sslices_IndexFunc_i_Kind_i_kindIndex_1 → Option (Sslices_IndexFunc_i_Kind_i_kindIndex_1 ⊕ (Int))
  | .h1 s0 f1 t2 t3 =>
    if t3 < t2 then
      if 0 ≤ t3 then
        Option.bind (s0[(Int.toNat t3)]?) fun x3 =>
        Option.bind (Di_kindIndex_1 x3 f1) fun r4 =>
        if r4 = true then
          some (.inr t3)
        else
          some (.inl (.h1 s0 f1 t2 (IntKind.wrap .i64 (t3 + 1))))
      else none
    else
      some (.inr (-1))
noncomputable def Dslices_IndexFunc_i_Kind_i_kindIndex_1 (a0 : (List Gi_Kind)) (a100 : ByteArray) : Option (Int) :=
  loop Bslices_IndexFunc_i_Kind_i_kindIndex_1 (.h1 a0 a100 ((a0.length : Nat) : Int) 0)
/-! loop example/g00886/impl kindIndex -/
noncomputable def Di_kindIndex (a0 : (List Gi_Kind)) (a1 : ByteArray) : Option (Int) :=
  Option.bind (Dslices_IndexFunc_i_Kind_i_kindIndex_1 a0 a1) fun r1 =>
  some r1
/-! loop example/g00886/impl IsRules -/
inductive Si_IsRules where
  | h1 (t0 : (List Gi_Terrain)) (t1 : Int) (t2 : Int) (b3 : Gi_Rules)
  | h2 (t0 : (List Gi_Kind)) (t1 : Int) (t2 : Int) (b3 : Gi_Rules)
noncomputable def Bi_IsRules : Si_IsRules → Option (Si_IsRules ⊕ (Bool))
  | .h1 t0 t1 t2 b3 =>
    if t2 < t1 then
      if 0 ≤ t2 then
        Option.bind (t0[(Int.toNat t2)]?) fun x3 =>
        Option.bind (Di_goodTerrain x3 ((b3.Kinds.length : Nat) : Int)) fun r4 =>
        if r4 = true then
          Option.bind (Di_terrainIndex b3.Terrains x3.Name) fun r6 =>
          if (r6 : Int) = t2 then
            some (.inl (.h1 t0 t1 (IntKind.wrap .i64 (t2 + 1)) b3))
          else
            some (.inr false)
        else
          some (.inr false)
      else none
    else
      some (.inl (.h2 b3.Kinds ((b3.Kinds.length : Nat) : Int) 0 b3))
  | .h2 t0 t1 t2 b3 =>
    if t2 < t1 then
      if 0 ≤ t2 then
        Option.bind (t0[(Int.toNat t2)]?) fun x3 =>
        Option.bind (Di_goodKind x3) fun r4 =>
        if r4 = true then
          Option.bind (Di_kindIndex b3.Kinds x3.Name) fun r6 =>
          if (r6 : Int) = t2 then
            some (.inl (.h2 t0 t1 (IntKind.wrap .i64 (t2 + 1)) b3))
          else
            some (.inr false)
        else
          some (.inr false)
      else none
    else
      Option.bind (Di_inRange b3.Stack 1 4) fun r2 =>
      if r2 = true then
        Option.bind (Di_inRange b3.River 0 9) fun r4 =>
        if r4 = true then
          Option.bind (Di_inRange b3.Road 1 9) fun r6 =>
          if r6 = true then
            Option.bind (Di_inRange b3.Supply 0 20) fun r8 =>
            if r8 = true then
              Option.bind (Di_inRange b3.Turns 1 30) fun r10 =>
              some (.inr r10)
            else
              some (.inr false)
          else
            some (.inr false)
        else
          some (.inr false)
      else
        some (.inr false)
noncomputable def Di_IsRules (a0 : Gi_Rules) : Option (Bool) :=
  Option.bind (Di_inRange ((a0.Terrains.length : Nat) : Int) 1 6) fun r1 =>
  if r1 = true then
    Option.bind (Di_inRange ((a0.Kinds.length : Nat) : Int) 1 4) fun r3 =>
    if r3 = true then
      loop Bi_IsRules (.h1 a0.Terrains ((a0.Terrains.length : Nat) : Int) 0 a0)
    else
      some false
  else
    some false
/-! loop example/g00886/impl isIndex -/
noncomputable def Di_isIndex (a0 : Int) (a1 : Int) : Option (Bool) :=
  Option.bind (Di_inRange a0 0 (IntKind.wrap .i64 (a1 - 1))) fun r1 =>
  some r1
/-! loop example/g00886/impl increasing -/
inductive Si_increasing where
  | h1 (list0 : (List Int)) (i1 : Int)
noncomputable def Bi_increasing : Si_increasing → Option (Si_increasing ⊕ (Bool))
  | .h1 list0 i1 =>
    if i1 < ((list0.length : Nat) : Int) then
      if 0 ≤ (IntKind.wrap .i64 (i1 - 1)) then
        Option.bind (list0[(Int.toNat (IntKind.wrap .i64 (i1 - 1)))]?) fun x3 =>
        if 0 ≤ i1 then
          Option.bind (list0[(Int.toNat i1)]?) fun x5 =>
          if x3 ≥ x5 then
            some (.inr false)
          else
            some (.inl (.h1 list0 (IntKind.wrap .i64 (i1 + 1))))
        else none
      else none
    else
      some (.inr true)
noncomputable def Di_increasing (a0 : (List Int)) : Option (Bool) :=
  loop Bi_increasing (.h1 a0 1)
/-! loop example/g00886/impl hexOf -/
noncomputable def Di_hexOf (a0 : Gi_Map) (a1 : Int) : Option (Gi_Hex) :=
  if ¬ a0.Width = 0 then
    if ¬ a0.Width = 0 then
      some (Gi_Hex.mk (Int.tmod a1 a0.Width) (IntKind.wrap .i64 (Int.tdiv a1 a0.Width)))
    else none
  else none
/-! loop example/g00886/impl stepBy -/
noncomputable def Di_stepBy (a0 : Gi_Hex) (a1 : Int) (a2 : Int) : Option (Gi_Hex) :=
  if 0 ≤ a1 then
    Option.bind (gv0[Int.toNat a1]?) fun x2 =>
    if 0 ≤ a1 then
      Option.bind (gv0[Int.toNat a1]?) fun x4 =>
      some (Gi_Hex.mk (IntKind.wrap .i64 (a0.Q + (IntKind.wrap .i64 (a2 * x2.Q)))) (IntKind.wrap .i64 (a0.R + (IntKind.wrap .i64 (a2 * x4.R)))))
    else none
  else none
/-! loop example/g00886/impl indexOf -/
noncomputable def Di_indexOf (a0 : Gi_Map) (a1 : Gi_Hex) : Option (Int) :=
  Option.bind (Di_isIndex a1.Q a0.Width) fun r1 =>
  if r1 = true then
    Option.bind (Di_isIndex a1.R a0.Height) fun r3 =>
    if r3 = true then
      some (IntKind.wrap .i64 ((IntKind.wrap .i64 (a1.R * a0.Width)) + a1.Q))
    else
      some (-1)
  else
    some (-1)
/-! loop example/g00886/impl nextTo -/
noncomputable def Di_nextTo (a0 : Gi_Map) (a1 : Int) (a2 : Int) : Option (Int) :=
  Option.bind (Di_hexOf a0 a1) fun r1 =>
  Option.bind (Di_stepBy r1 a2 1) fun r2 =>
  Option.bind (Di_indexOf a0 r2) fun r3 =>
  some r3
/-! loop example/g00886/impl isEdge -/
noncomputable def Di_isEdge (a0 : Gi_Map) (a1 : Int) : Option (Bool) :=
  Option.bind (Di_inRange a1 0 (IntKind.wrap .i64 ((IntKind.wrap .i64 ((IntKind.wrap .i64 (3 * a0.Width)) * a0.Height)) - 1))) fun r1 =>
  if r1 = true then
    Option.bind (Di_nextTo a0 (IntKind.wrap .i64 (Int.tdiv a1 3)) (Int.tmod a1 3)) fun r3 =>
    some (decide (r3 ≥ 0))
  else
    some false
/-! loop example/g00886/impl IsMap -/
inductive Si_IsMap where
  | h1 (t0 : (List Int)) (t1 : Int) (t2 : Int) (b3 : Gi_Map)
  | h2 (t0 : Int) (t1 : Int) (b2 : Gi_Map) (l3 : (List (List Int)))
  | h3 (t0 : Int) (t1 : Int) (t2 : (List Int)) (t3 : Int) (t4 : Int) (b5 : Gi_Map) (l6 : (List (List Int)))
noncomputable def Bi_IsMap : Si_IsMap → Option (Si_IsMap ⊕ (Bool))
  | .h1 t0 t1 t2 b3 =>
    if t2 < t1 then
      if 0 ≤ t2 then
        Option.bind (t0[(Int.toNat t2)]?) fun x3 =>
        Option.bind (Di_isIndex x3 6) fun r4 =>
        if r4 = true then
          some (.inl (.h1 t0 t1 (IntKind.wrap .i64 (t2 + 1)) b3))
        else
          some (.inr false)
      else none
    else
      some (.inl (.h2 (([b3.Rivers, b3.Roads].length : Nat) : Int) 0 b3 [b3.Rivers, b3.Roads]))
  | .h2 t0 t1 b2 l3 =>
    if t1 < t0 then
      if 0 ≤ t1 then
        Option.bind (l3[(Int.toNat t1)]?) fun x3 =>
        Option.bind (Di_increasing x3) fun r4 =>
        if r4 = true then
          some (.inl (.h3 t0 t1 x3 ((x3.length : Nat) : Int) 0 b2 l3))
        else
          some (.inr false)
      else none
    else
      some (.inr true)
  | .h3 t0 t1 t2 t3 t4 b5 l6 =>
    if t4 < t3 then
      if 0 ≤ t4 then
        Option.bind (t2[(Int.toNat t4)]?) fun x3 =>
        Option.bind (Di_isEdge b5 x3) fun r4 =>
        if r4 = true then
          some (.inl (.h3 t0 t1 t2 t3 (IntKind.wrap .i64 (t4 + 1)) b5 l6))
        else
          some (.inr false)
      else none
    else
      some (.inl (.h2 t0 (IntKind.wrap .i64 (t1 + 1)) b5 l6))
noncomputable def Di_IsMap (a0 : Gi_Map) : Option (Bool) :=
  Option.bind (Di_inRange a0.Width 1 10) fun r1 =>
  if r1 = true then
    Option.bind (Di_inRange a0.Height 1 10) fun r3 =>
    if r3 = true then
      if (((a0.Terrain.length : Nat) : Int) : Int) = (IntKind.wrap .i64 (a0.Width * a0.Height)) then
        loop Bi_IsMap (.h1 a0.Terrain ((a0.Terrain.length : Nat) : Int) 0 a0)
      else
        some false
    else
      some false
  else
    some false
/-! loop example/g00886/impl IsBoard 1 -/
noncomputable def Di_IsBoard_1 (a0 : Int) (a1 : Gi_Board) : Option (Bool) :=
  some (decide (a0 ≥ ((a1.Rules.Terrains.length : Nat) : Int)))
/-! slices IndexFunc   int int  -/
inductive Sslices_IndexFunc_int_i_IsBoard_1 where
  | h1 (s0 : (List Int)) (f1 : Gi_Board) (t2 : Int) (t3 : Int)
noncomputable def Bslices_IndexFunc_int_i_IsBoard_1 : Sslices_IndexFunc_int_i_IsBoard_1 → Option (Sslices_IndexFunc_int_i_IsBoard_1 ⊕ (Int))
  | .h1 s0 f1 t2 t3 =>
    if t3 < t2 then
      if 0 ≤ t3 then
        Option.bind (s0[(Int.toNat t3)]?) fun x3 =>
        Option.bind (Di_IsBoard_1 x3 f1) fun r4 =>
        if r4 = true then
          some (.inr t3)
        else
          some (.inl (.h1 s0 f1 t2 (IntKind.wrap .i64 (t3 + 1))))
      else none
    else
      some (.inr (-1))
noncomputable def Dslices_IndexFunc_int_i_IsBoard_1 (a0 : (List Int)) (a100 : Gi_Board) : Option (Int) :=
  loop Bslices_IndexFunc_int_i_IsBoard_1 (.h1 a0 a100 ((a0.length : Nat) : Int) 0)
/-! slices ContainsFunc   int int  -/
noncomputable def Dslices_ContainsFunc_int_i_IsBoard_1 (a0 : (List Int)) (a100 : Gi_Board) : Option (Bool) :=
  Option.bind (Dslices_IndexFunc_int_i_IsBoard_1 a0 a100) fun r1 =>
  some (decide (r1 ≥ 0))
/-! loop example/g00886/impl IsBoard -/
noncomputable def Di_IsBoard (a0 : Gi_Board) : Option (Bool) :=
  Option.bind (Di_IsRules a0.Rules) fun r1 =>
  if r1 = true then
    Option.bind (Di_IsMap a0.Map) fun r3 =>
    if r3 = true then
      Option.bind (Dslices_ContainsFunc_int_i_IsBoard_1 a0.Map.Terrain a0) fun r5 =>
      some (!r5)
    else
      some false
  else
    some false
/-! loop example/g00886/impl isSide -/
noncomputable def Di_isSide (a0 : Int) : Option (Bool) :=
  Option.bind (Di_inRange a0 0 1) fun r1 =>
  some r1
/-! loop example/g00886/impl sizeOf -/
noncomputable def Di_sizeOf (a0 : Gi_Board) : Option (Int) :=
  some ((a0.Map.Terrain.length : Nat) : Int)
/-! loop example/g00886/impl goodWorks 1 -/
noncomputable def Di_goodWorks_1 (a0 : Int) (a1 : Gi_Board) : Option (Bool) :=
  Option.bind (Di_isIndex a0 ((a1.Rules.Kinds.length : Nat) : Int)) fun r1 =>
  some (!r1)
/-! slices IndexFunc   int int  -/
inductive Sslices_IndexFunc_int_i_goodWorks_1 where
  | h1 (s0 : (List Int)) (f1 : Gi_Board) (t2 : Int) (t3 : Int)
noncomputable def Bslices_IndexFunc_int_i_goodWorks_1 : Sslices_IndexFunc_int_i_goodWorks_1 → Option (Sslices_IndexFunc_int_i_goodWorks_1 ⊕ (Int))
  | .h1 s0 f1 t2 t3 =>
    if t3 < t2 then
      if 0 ≤ t3 then
        Option.bind (s0[(Int.toNat t3)]?) fun x3 =>
        Option.bind (Di_goodWorks_1 x3 f1) fun r4 =>
        if r4 = true then
          some (.inr t3)
        else
          some (.inl (.h1 s0 f1 t2 (IntKind.wrap .i64 (t3 + 1))))
      else none
    else
      some (.inr (-1))
noncomputable def Dslices_IndexFunc_int_i_goodWorks_1 (a0 : (List Int)) (a100 : Gi_Board) : Option (Int) :=
  loop Bslices_IndexFunc_int_i_goodWorks_1 (.h1 a0 a100 ((a0.length : Nat) : Int) 0)
/-! slices ContainsFunc   int int  -/
noncomputable def Dslices_ContainsFunc_int_i_goodWorks_1 (a0 : (List Int)) (a100 : Gi_Board) : Option (Bool) :=
  Option.bind (Dslices_IndexFunc_int_i_goodWorks_1 a0 a100) fun r1 =>
  some (decide (r1 ≥ 0))
/-! loop example/g00886/impl goodWorks -/
noncomputable def Di_goodWorks (a0 : Gi_Board) (a1 : Gi_Works) : Option (Bool) :=
  Option.bind (Di_isSide a1.Side) fun r1 =>
  if r1 = true then
    Option.bind (Di_sizeOf a0) fun r3 =>
    Option.bind (Di_isIndex a1.At r3) fun r4 =>
    if r4 = true then
      Option.bind (Di_inRange a1.Points 0 200) fun r6 =>
      if r6 = true then
        if ((a1.Queue.length : Nat) : Int) > 8 then
          some false
        else
          Option.bind (Dslices_ContainsFunc_int_i_goodWorks_1 a1.Queue a0) fun r9 =>
          some (!r9)
      else
        some false
    else
      some false
  else
    some false
/-! loop example/g00886/impl hasWorks -/
noncomputable def Di_hasWorks (a0 : Gi_Board) (a1 : Gi_Works) : Option (Bool) :=
  Option.bind (Di_IsBoard a0) fun r1 =>
  if r1 = true then
    Option.bind (Di_goodWorks a0 a1) fun r3 =>
    some r3
  else
    some false
/-! slices Clone -/
noncomputable def Dslices_Clone_int (a0 : (List Int)) : Option (List Int) := if List.length a0 * 8 ≤ 70368744177664 then some a0 else none
/-! loop example/g00886/impl cloneWorks -/
noncomputable def Di_cloneWorks (a0 : Gi_Works) : Option (Gi_Works) :=
  Option.bind (Dslices_Clone_int a0.Queue) fun r1 =>
  some (Gi_Works.mk a0.Side a0.At a0.Points r1)
/-! loop example/g00886/impl AppendKind -/
noncomputable def Di_AppendKind (a0 : Gi_Board) (a1 : Gi_Works) (a2 : Int) : Option (Gi_Works × Bool) :=
  Option.bind (Di_hasWorks a0 a1) fun r1 =>
  if r1 = true then
    Option.bind (Di_isIndex a2 ((a0.Rules.Kinds.length : Nat) : Int)) fun r3 =>
    if r3 = true then
      if (((a1.Queue.length : Nat) : Int) : Int) = 8 then
        some ((Gi_Works.mk 0 0 0 []), false)
      else
        Option.bind (Di_cloneWorks a1) fun r6 =>
        if (r6.Queue ++ [a2]).length * 8 ≤ 70368744177664 then
          some ((Gi_Works.mk r6.Side r6.At r6.Points (r6.Queue ++ [a2])), true)
        else none
    else
      some ((Gi_Works.mk 0 0 0 []), false)
  else
    some ((Gi_Works.mk 0 0 0 []), false)
/-! loop example/g00886/spec pdGood -/
noncomputable def Ds_pdGood (a0 : Gi_Board) (a1 : Gi_Works) : Option (Bool) :=
  Option.bind (Ds_bGood a0) fun r1 =>
  if r1 = true then
    Option.bind (Ds_l1In a1.Side 0 1) fun r3 =>
    if r3 = true then
      Option.bind (Ds_mSize a0.Map) fun r5 =>
      Option.bind (Ds_l1In a1.At 0 (IntKind.wrap .i64 (r5 - 1))) fun r6 =>
      if r6 = true then
        Option.bind (Ds_l1In a1.Points 0 200) fun r8 =>
        if r8 = true then
          if ((a1.Queue.length : Nat) : Int) ≤ 8 then
            Option.bind (Ds_l1All a1.Queue 0 (IntKind.wrap .i64 (((a0.Rules.Kinds.length : Nat) : Int) - 1))) fun r11 =>
            some r11
          else
            some false
        else
          some false
      else
        some false
    else
      some false
  else
    some false
/-! loop example/g00886/spec bAt -/
noncomputable def Ds_bAt (a0 : Gi_Board) (a1 : Int) (a2 : Int) : Option (Bool) :=
  Option.bind (Ds_bGood a0) fun r1 =>
  if r1 = true then
    Option.bind (Ds_l1In a1 0 (IntKind.wrap .i64 (((a0.Rules.Kinds.length : Nat) : Int) - 1))) fun r3 =>
    if r3 = true then
      Option.bind (Ds_mSize a0.Map) fun r5 =>
      Option.bind (Ds_l1In a2 0 (IntKind.wrap .i64 (r5 - 1))) fun r6 =>
      some r6
    else
      some false
  else
    some false
/-! loop example/g00886/spec l1Own -/
noncomputable def Ds_l1Own (a0 : (List Int)) : Option ((List Int)) :=
  if a0.length * 8 ≤ 70368744177664 then
    some a0
  else none
/-! loop example/g00886/spec pdOwn -/
noncomputable def Ds_pdOwn (a0 : Gi_Works) : Option (Gi_Works) :=
  Option.bind (Ds_l1Own a0.Queue) fun r1 =>
  some (Gi_Works.mk a0.Side a0.At a0.Points r1)
/-! loop example/g00886/spec AppendKind -/
noncomputable def Ds_AppendKind (a0 : Gi_Board) (a1 : Gi_Works) (a2 : Int) : Option (Gi_Works × Bool) :=
  Option.bind (Ds_pdGood a0 a1) fun r1 =>
  if r1 = true then
    Option.bind (Ds_bAt a0 a2 0) fun r3 =>
    if r3 = true then
      if (((a1.Queue.length : Nat) : Int) : Int) = 8 then
        some ((Gi_Works.mk 0 0 0 []), false)
      else
        Option.bind (Ds_pdOwn a1) fun r6 =>
        if (r6.Queue ++ [a2]).length * 8 ≤ 70368744177664 then
          some ((Gi_Works.mk r6.Side r6.At r6.Points (r6.Queue ++ [a2])), true)
        else none
    else
      some ((Gi_Works.mk 0 0 0 []), false)
  else
    some ((Gi_Works.mk 0 0 0 []), false)
/-!   loop example/g00886/spec l1Cur  income -/
noncomputable def Ds_l1Cur_income (a0 : Gs_l1Cur) : Option (Int × Gs_l1Cur) :=
  Option.bind (Ds_l1Cur_among a0 [0, 1, 3, 5, 10, 50, 51, (-1)]) fun r1 =>
  some (r1.1, r1.2)
/-! loop example/g00886/spec DrawTurnsUntil -/
noncomputable def Ds_DrawTurnsUntil (a0 : (List Int)) : Option (Gi_Board × Gi_Works × Int × Int) :=
  Option.bind (Ds_l1Cur_anyBoard (Gs_l1Cur.mk a0 0 0)) fun r1 =>
  Option.bind (Ds_l1Cur_works r1.2 r1.1) fun r2 =>
  Option.bind (Ds_l1Cur_pick r2.2 4) fun r3 =>
  Option.bind (Ds_l1Cur_pick r3.2 8) fun r4 =>
  Option.bind (Ds_l1Cur_income r4.2) fun r5 =>
  some (r1.1, r2.1, (IntKind.wrap .i64 (r3.1 - (IntKind.wrap .i64 (Int.tdiv r4.1 7)))), r5.1)
/-! loop example/g00886/impl isIncome -/
noncomputable def Di_isIncome (a0 : Int) : Option (Bool) :=
  Option.bind (Di_inRange a0 0 50) fun r1 =>
  some r1
/-! loop example/g00886/impl kindPrice -/
noncomputable def Di_kindPrice (a0 : Gi_Board) (a1 : Int) : Option (Int) :=
  if 0 ≤ a1 then
    Option.bind (a0.Rules.Kinds[(Int.toNat a1)]?) fun x2 =>
    if 0 ≤ a1 then
      Option.bind (a0.Rules.Kinds[(Int.toNat a1)]?) fun x4 =>
      some (IntKind.wrap .i64 (x2.Strength * x4.Steps))
    else none
  else none
/-! loop example/g00886/impl pricesOf -/
inductive Si_pricesOf where
  | h1 (sum0 : Int) (t1 : (List Int)) (t2 : Int) (t3 : Int) (b4 : Gi_Board)
noncomputable def Bi_pricesOf : Si_pricesOf → Option (Si_pricesOf ⊕ (Int))
  | .h1 sum0 t1 t2 t3 b4 =>
    if t3 < t2 then
      if 0 ≤ t3 then
        Option.bind (t1[(Int.toNat t3)]?) fun x3 =>
        Option.bind (Di_kindPrice b4 x3) fun r4 =>
        some (.inl (.h1 (IntKind.wrap .i64 (sum0 + r4)) t1 t2 (IntKind.wrap .i64 (t3 + 1)) b4))
      else none
    else
      some (.inr sum0)
noncomputable def Di_pricesOf (a0 : Gi_Board) (a1 : (List Int)) : Option (Int) :=
  loop Bi_pricesOf (.h1 0 a1 ((a1.length : Nat) : Int) 0 a0)
/-! loop example/g00886/impl TurnsUntil -/
noncomputable def Di_TurnsUntil (a0 : Gi_Board) (a1 : Gi_Works) (a2 : Int) (a3 : Int) : Option (Int × Bool) :=
  Option.bind (Di_hasWorks a0 a1) fun r1 =>
  if r1 = true then
    Option.bind (Di_isIndex a2 ((a1.Queue.length : Nat) : Int)) fun r3 =>
    if r3 = true then
      Option.bind (Di_isIncome a3) fun r5 =>
      if r5 = true then
        if (0 : Int) ≤ (IntKind.wrap .i64 (a2 + 1)) then
          if ((IntKind.wrap .i64 (a2 + 1)) : Int) ≤ ((a1.Queue.length : Nat) : Int) then
            Option.bind (Di_pricesOf a0 (List.take ((Int.toNat (IntKind.wrap .i64 (a2 + 1))) - 0) (List.drop 0 a1.Queue))) fun r9 =>
            if ((if 0 < (IntKind.wrap .i64 (r9 - a1.Points)) then (IntKind.wrap .i64 (r9 - a1.Points)) else 0) : Int) = 0 then
              some (0, true)
            else
              if (a3 : Int) = 0 then
                some (0, false)
              else
                if ¬ a3 = 0 then
                  some ((IntKind.wrap .i64 (Int.tdiv (IntKind.wrap .i64 ((IntKind.wrap .i64 ((if 0 < (IntKind.wrap .i64 (r9 - a1.Points)) then (IntKind.wrap .i64 (r9 - a1.Points)) else 0) + a3)) - 1)) a3)), true)
                else none
          else none
        else none
      else
        some (0, false)
    else
      some (0, false)
  else
    some (0, false)
/-! loop example/g00886/spec pdPrice -/
noncomputable def Ds_pdPrice (a0 : Gi_Board) (a1 : Int) : Option (Int) :=
  if 0 ≤ a1 then
    Option.bind (a0.Rules.Kinds[(Int.toNat a1)]?) fun x2 =>
    if 0 ≤ a1 then
      Option.bind (a0.Rules.Kinds[(Int.toNat a1)]?) fun x4 =>
      some (IntKind.wrap .i64 (x2.Strength * x4.Steps))
    else none
  else none
/-! loop example/g00886/spec pdSum -/
inductive Ss_pdSum where
  | h1 (sum0 : Int) (t1 : (List Int)) (t2 : Int) (t3 : Int) (b4 : Gi_Board)
noncomputable def Bs_pdSum : Ss_pdSum → Option (Ss_pdSum ⊕ (Int))
  | .h1 sum0 t1 t2 t3 b4 =>
    if t3 < t2 then
      if 0 ≤ t3 then
        Option.bind (t1[(Int.toNat t3)]?) fun x3 =>
        Option.bind (Ds_pdPrice b4 x3) fun r4 =>
        some (.inl (.h1 (IntKind.wrap .i64 (sum0 + r4)) t1 t2 (IntKind.wrap .i64 (t3 + 1)) b4))
      else none
    else
      some (.inr sum0)
noncomputable def Ds_pdSum (a0 : Gi_Board) (a1 : (List Int)) : Option (Int) :=
  loop Bs_pdSum (.h1 0 a1 ((a1.length : Nat) : Int) 0 a0)
/-! loop example/g00886/spec TurnsUntil -/
noncomputable def Ds_TurnsUntil (a0 : Gi_Board) (a1 : Gi_Works) (a2 : Int) (a3 : Int) : Option (Int × Bool) :=
  Option.bind (Ds_pdGood a0 a1) fun r1 =>
  if r1 = true then
    Option.bind (Ds_l1In a2 0 (IntKind.wrap .i64 (((a1.Queue.length : Nat) : Int) - 1))) fun r3 =>
    if r3 = true then
      Option.bind (Ds_l1In a3 0 50) fun r5 =>
      if r5 = true then
        if (0 : Int) ≤ (IntKind.wrap .i64 (a2 + 1)) then
          if ((IntKind.wrap .i64 (a2 + 1)) : Int) ≤ ((a1.Queue.length : Nat) : Int) then
            Option.bind (Ds_pdSum a0 (List.take ((Int.toNat (IntKind.wrap .i64 (a2 + 1))) - 0) (List.drop 0 a1.Queue))) fun r9 =>
            if (IntKind.wrap .i64 (r9 - a1.Points)) ≤ 0 then
              some (0, true)
            else
              if (a3 : Int) = 0 then
                some (0, false)
              else
                if ¬ a3 = 0 then
                  some ((IntKind.wrap .i64 (Int.tdiv (IntKind.wrap .i64 ((IntKind.wrap .i64 ((IntKind.wrap .i64 (r9 - a1.Points)) + a3)) - 1)) a3)), true)
                else none
          else none
        else none
      else
        some (0, false)
    else
      some (0, false)
  else
    some (0, false)
/-! loop example/g00886/spec DrawRemoveKind -/
noncomputable def Ds_DrawRemoveKind (a0 : (List Int)) : Option (Gi_Board × Gi_Works × Int) :=
  Option.bind (Ds_l1Cur_anyBoard (Gs_l1Cur.mk a0 0 0)) fun r1 =>
  Option.bind (Ds_l1Cur_works r1.2 r1.1) fun r2 =>
  Option.bind (Ds_l1Cur_pick r2.2 4) fun r3 =>
  Option.bind (Ds_l1Cur_pick r3.2 8) fun r4 =>
  some (r1.1, r2.1, (IntKind.wrap .i64 (r3.1 - (IntKind.wrap .i64 (Int.tdiv r4.1 7)))))
/-! slices Delete -/
noncomputable def Dslices_Delete_int (a0 : (List Int)) (a1 : Int) (a2 : Int) : Option (List Int) := if (0 : Int) ≤ a1 ∧ a1 < a2 ∧ a2 ≤ (List.length a0 : Int) ∧ (List.length a0 : Int) ≤ 1000000000000 then some (List.take (Int.toNat a1) a0 ++ List.drop (Int.toNat a2) a0) else none
/-! loop example/g00886/impl RemoveKind -/
noncomputable def Di_RemoveKind (a0 : Gi_Board) (a1 : Gi_Works) (a2 : Int) : Option (Gi_Works × Bool) :=
  Option.bind (Di_hasWorks a0 a1) fun r1 =>
  if r1 = true then
    Option.bind (Di_isIndex a2 ((a1.Queue.length : Nat) : Int)) fun r3 =>
    if r3 = true then
      Option.bind (Di_cloneWorks a1) fun r5 =>
      Option.bind (Dslices_Delete_int r5.Queue a2 (IntKind.wrap .i64 (a2 + 1))) fun r6 =>
      some ((Gi_Works.mk r5.Side r5.At r5.Points r6), true)
    else
      some ((Gi_Works.mk 0 0 0 []), false)
  else
    some ((Gi_Works.mk 0 0 0 []), false)
/-! loop example/g00886/spec pdWithout -/
inductive Ss_pdWithout where
  | h1 (k0 : Int) (t1 : (List Int)) (t2 : Int) (t3 : Int) (b4 : Int) (b5 : Int) (b6 : Int) (b7 : Int) (b8 : Int) (b9 : Int)
  | h2 (k0 : Int) (t1 : (List Int)) (t2 : Int) (t3 : Int) (b4 : Int) (b5 : Int) (b6 : Int) (b7 : Int) (b8 : Int) (b9 : Int) (l10 : (List Int))
noncomputable def Bs_pdWithout : Ss_pdWithout → Option (Ss_pdWithout ⊕ (Gi_Works))
  | .h1 k0 t1 t2 t3 b4 b5 b6 b7 b8 b9 =>
    if t3 < t2 then
      if 0 ≤ t3 then
        Option.bind (t1[(Int.toNat t3)]?) fun x3 =>
        if (t3 : Int) = k0 then
          some (.inl (.h1 k0 t1 t2 (IntKind.wrap .i64 (t3 + 1)) b4 b5 b6 b7 b8 b9))
        else
          if [x3].length * 8 ≤ 70368744177664 then
            some (.inl (.h2 k0 t1 t2 (IntKind.wrap .i64 (t3 + 1)) b4 b5 b6 b7 b8 b9 [x3]))
          else none
      else none
    else
      some (.inr (Gi_Works.mk b7 b8 b9 []))
  | .h2 k0 t1 t2 t3 b4 b5 b6 b7 b8 b9 l10 =>
    if t3 < t2 then
      if 0 ≤ t3 then
        Option.bind (t1[(Int.toNat t3)]?) fun x3 =>
        if (t3 : Int) = k0 then
          some (.inl (.h2 k0 t1 t2 (IntKind.wrap .i64 (t3 + 1)) b4 b5 b6 b7 b8 b9 l10))
        else
          if (l10 ++ [x3]).length * 8 ≤ 70368744177664 then
            some (.inl (.h2 k0 t1 t2 (IntKind.wrap .i64 (t3 + 1)) b4 b5 b6 b7 b8 b9 (l10 ++ [x3])))
          else none
      else none
    else
      some (.inr (Gi_Works.mk b7 b8 b9 l10))
noncomputable def Ds_pdWithout (a0 : Gi_Works) (a1 : Int) : Option (Gi_Works) :=
  loop Bs_pdWithout (.h1 a1 a0.Queue ((a0.Queue.length : Nat) : Int) 0 0 0 0 a0.Side a0.At a0.Points)
/-! loop example/g00886/spec RemoveKind -/
noncomputable def Ds_RemoveKind (a0 : Gi_Board) (a1 : Gi_Works) (a2 : Int) : Option (Gi_Works × Bool) :=
  Option.bind (Ds_pdGood a0 a1) fun r1 =>
  if r1 = true then
    Option.bind (Ds_l1In a2 0 (IntKind.wrap .i64 (((a1.Queue.length : Nat) : Int) - 1))) fun r3 =>
    if r3 = true then
      Option.bind (Ds_pdWithout a1 a2) fun r5 =>
      some (r5, true)
    else
      some ((Gi_Works.mk 0 0 0 []), false)
  else
    some ((Gi_Works.mk 0 0 0 []), false)
/-! loop example/g00886/laws qInts -/
inductive Sw_qInts where
  | h1 (va0 : (List Int)) (b1 : (List Int)) (t2 : Int) (t3 : Int)
noncomputable def Bw_qInts : Sw_qInts → Option (Sw_qInts ⊕ (Bool))
  | .h1 va0 b1 t2 t3 =>
    if t3 < t2 then
      if 0 ≤ t3 then
        Option.bind (va0[(Int.toNat t3)]?) fun x3 =>
        if 0 ≤ t3 then
          Option.bind (b1[(Int.toNat t3)]?) fun x5 =>
          if (x3 : Int) = x5 then
            some (.inl (.h1 va0 b1 t2 (IntKind.wrap .i64 (t3 + 1))))
          else
            some (.inr false)
        else none
      else none
    else
      some (.inr true)
noncomputable def Dw_qInts (a0 : (List Int)) (a1 : (List Int)) : Option (Bool) :=
  if (((a0.length : Nat) : Int) : Int) = ((a1.length : Nat) : Int) then
    loop Bw_qInts (.h1 a0 a1 ((a0.length : Nat) : Int) 0)
  else
    some false
/-! loop example/g00886/laws qWorks -/
noncomputable def Dw_qWorks (a0 : Gi_Works) (a1 : Gi_Works) : Option (Bool) :=
  if (a0.Side : Int) = a1.Side then
    if (a0.At : Int) = a1.At then
      if (a0.Points : Int) = a1.Points then
        Option.bind (Dw_qInts a0.Queue a1.Queue) fun r4 =>
        some r4
      else
        some false
    else
      some false
  else
    some false
/-! loop example/g00886/impl QueuePrice -/
noncomputable def Di_QueuePrice (a0 : Gi_Board) (a1 : Gi_Works) : Option (Int × Bool) :=
  Option.bind (Di_hasWorks a0 a1) fun r1 =>
  if r1 = true then
    Option.bind (Di_pricesOf a0 a1.Queue) fun r3 =>
    some (r3, true)
  else
    some (0, false)
/-! loop example/g00886/impl isKindOf -/
noncomputable def Di_isKindOf (a0 : Gi_Board) (a1 : Int) : Option (Bool) :=
  Option.bind (Di_IsBoard a0) fun r1 =>
  if r1 = true then
    Option.bind (Di_isIndex a1 ((a0.Rules.Kinds.length : Nat) : Int)) fun r3 =>
    some r3
  else
    some false
/-! loop example/g00886/impl KindPrice -/
noncomputable def Di_KindPrice (a0 : Gi_Board) (a1 : Int) : Option (Int × Bool) :=
  Option.bind (Di_isKindOf a0 a1) fun r1 =>
  if r1 = true then
    Option.bind (Di_kindPrice a0 a1) fun r3 =>
    some (r3, true)
  else
    some (0, false)
/-! loop example/g00886/laws FnQueues -/
inductive Sw_FnQueues where
  | h1 (kind0 : Int) (ok1 : Bool) (income2 : Int) (n3 : Int) (price4 : Int) (t5 : (List Int)) (t6 : Int) (t7 : Int) (b8 : Gi_Board) (b9 : Int) (b10 : Int) (b11 : Int) (b12 : Int) (b13 : Int) (b14 : Int) (b15 : Gi_Board) (b16 : Int) (b17 : Int) (b18 : Int) (l19 : (List Int)) (l20 : (List Int)) (l21 : (List Int))
  | h2 (kind0 : Int) (ok1 : Bool) (b2 : Gi_Board) (b3 : Int) (b4 : Int) (b5 : Int) (b6 : Int) (b7 : Int) (b8 : Int) (l9 : (List Int)) (l10 : (List Int))
noncomputable def Bw_FnQueues : Sw_FnQueues → Option (Sw_FnQueues ⊕ (Bool))
  | .h1 kind0 ok1 income2 n3 price4 t5 t6 t7 b8 b9 b10 b11 b12 b13 b14 b15 b16 b17 b18 l19 l20 l21 =>
    if t7 < t6 then
      if 0 ≤ t7 then
        Option.bind (t5[(Int.toNat t7)]?) fun x3 =>
        Option.bind (Di_KindPrice b15 x3) fun r4 =>
        if r4.2 = true then
          some (.inl (.h1 kind0 ok1 income2 n3 (IntKind.wrap .i64 (price4 + r4.1)) t5 t6 (IntKind.wrap .i64 (t7 + 1)) b8 b9 b10 b11 b12 b13 b14 b15 b16 b17 b18 l19 l20 l21))
        else
          some (.inr false)
      else none
    else
      if (IntKind.wrap .i64 (b18 + (IntKind.wrap .i64 (n3 * income2)))) < price4 then
        some (.inr false)
      else
        if n3 > 0 then
          if (IntKind.wrap .i64 (b18 + (IntKind.wrap .i64 ((IntKind.wrap .i64 (n3 - 1)) * income2)))) ≥ price4 then
            some (.inr false)
          else
            some (.inl (.h2 kind0 ok1 b8 b9 b10 b11 b12 b13 b14 l19 l20))
        else
          some (.inl (.h2 kind0 ok1 b8 b9 b10 b11 b12 b13 b14 l19 l20))
  | .h2 kind0 true b2 b3 b4 b5 b6 b7 b8 l9 l10 =>
    Option.bind (Di_RemoveKind b2 (Gi_Works.mk b6 b7 b8 l10) ((l9.length : Nat) : Int)) fun r1 =>
    if r1.2 = true then
      Option.bind (Di_QueuePrice b2 (Gi_Works.mk b3 b4 b5 l9)) fun r3 =>
      if r3.2 = true then
        Option.bind (Di_QueuePrice b2 (Gi_Works.mk b6 b7 b8 l10)) fun r5 =>
        if r5.2 = true then
          Option.bind (Di_KindPrice b2 kind0) fun r7 =>
          if r7.2 = true then
            Option.bind (Dw_qWorks r1.1 (Gi_Works.mk b3 b4 b5 l9)) fun r9 =>
            if r9 = true then
              some (.inr ((r5.1 : Int) == (IntKind.wrap .i64 (r3.1 + r7.1))))
            else
              some (.inr false)
          else
            Option.bind (Dw_qWorks r1.1 (Gi_Works.mk b3 b4 b5 l9)) fun r9 =>
            if r9 = true then
              some (.inr false)
            else
              some (.inr false)
        else
          Option.bind (Di_KindPrice b2 kind0) fun r7 =>
          if r7.2 = true then
            Option.bind (Dw_qWorks r1.1 (Gi_Works.mk b3 b4 b5 l9)) fun r9 =>
            if r9 = true then
              some (.inr false)
            else
              some (.inr false)
          else
            Option.bind (Dw_qWorks r1.1 (Gi_Works.mk b3 b4 b5 l9)) fun r9 =>
            if r9 = true then
              some (.inr false)
            else
              some (.inr false)
      else
        Option.bind (Di_QueuePrice b2 (Gi_Works.mk b6 b7 b8 l10)) fun r5 =>
        if r5.2 = true then
          Option.bind (Di_KindPrice b2 kind0) fun r7 =>
          if r7.2 = true then
            Option.bind (Dw_qWorks r1.1 (Gi_Works.mk b3 b4 b5 l9)) fun r9 =>
            if r9 = true then
              some (.inr false)
            else
              some (.inr false)
          else
            Option.bind (Dw_qWorks r1.1 (Gi_Works.mk b3 b4 b5 l9)) fun r9 =>
            if r9 = true then
              some (.inr false)
            else
              some (.inr false)
        else
          Option.bind (Di_KindPrice b2 kind0) fun r7 =>
          if r7.2 = true then
            Option.bind (Dw_qWorks r1.1 (Gi_Works.mk b3 b4 b5 l9)) fun r9 =>
            if r9 = true then
              some (.inr false)
            else
              some (.inr false)
          else
            Option.bind (Dw_qWorks r1.1 (Gi_Works.mk b3 b4 b5 l9)) fun r9 =>
            if r9 = true then
              some (.inr false)
            else
              some (.inr false)
    else
      Option.bind (Di_QueuePrice b2 (Gi_Works.mk b3 b4 b5 l9)) fun r3 =>
      if r3.2 = true then
        Option.bind (Di_QueuePrice b2 (Gi_Works.mk b6 b7 b8 l10)) fun r5 =>
        if r5.2 = true then
          Option.bind (Di_KindPrice b2 kind0) fun r7 =>
          if r7.2 = true then
            some (.inr false)
          else
            some (.inr false)
        else
          Option.bind (Di_KindPrice b2 kind0) fun r7 =>
          if r7.2 = true then
            some (.inr false)
          else
            some (.inr false)
      else
        Option.bind (Di_QueuePrice b2 (Gi_Works.mk b6 b7 b8 l10)) fun r5 =>
        if r5.2 = true then
          Option.bind (Di_KindPrice b2 kind0) fun r7 =>
          if r7.2 = true then
            some (.inr false)
          else
            some (.inr false)
        else
          Option.bind (Di_KindPrice b2 kind0) fun r7 =>
          if r7.2 = true then
            some (.inr false)
          else
            some (.inr false)
  | .h2 kind0 false b2 b3 b4 b5 b6 b7 b8 l9 l10 =>
    some (.inr true)
noncomputable def Dw_FnQueues (a0 : (List Int)) (a1 : (List Int)) : Option (Bool) :=
  if (IntKind.wrap .i64 (((a0.length : Nat) : Int) + ((a1.length : Nat) : Int))) > 1048576 then
    some true
  else
    Option.bind (Ds_DrawAppendKind a0) fun r2 =>
    Option.bind (Di_AppendKind r2.1 r2.2.1 r2.2.2) fun r3 =>
    Option.bind (Ds_AppendKind r2.1 r2.2.1 r2.2.2) fun r4 =>
    Option.bind (Ds_DrawTurnsUntil a1) fun r5 =>
    Option.bind (Di_TurnsUntil r5.1 r5.2.1 r5.2.2.1 r5.2.2.2) fun r6 =>
    if r6.2 = true then
      Option.bind (Ds_TurnsUntil r5.1 r5.2.1 r5.2.2.1 r5.2.2.2) fun r8 =>
      Option.bind (Ds_DrawRemoveKind a1) fun r9 =>
      Option.bind (Di_RemoveKind r9.1 r9.2.1 r9.2.2) fun r10 =>
      Option.bind (Ds_RemoveKind r9.1 r9.2.1 r9.2.2) fun r11 =>
      if (!(r3.2 == r4.2)) = true then
        some false
      else
        Option.bind (Dw_qWorks r3.1 r4.1) fun r13 =>
        if r13 = true then
          if (!(true == r8.2)) = true then
            some false
          else
            if (r6.1 : Int) = r8.1 then
              if (!(r10.2 == r11.2)) = true then
                some false
              else
                Option.bind (Dw_qWorks r10.1 r11.1) fun r18 =>
                if r18 = true then
                  if (0 : Int) ≤ (IntKind.wrap .i64 (r5.2.2.1 + 1)) then
                    if ((IntKind.wrap .i64 (r5.2.2.1 + 1)) : Int) ≤ ((r5.2.1.Queue.length : Nat) : Int) then
                      loop Bw_FnQueues (.h1 r2.2.2 r3.2 r5.2.2.2 r6.1 0 (List.take ((Int.toNat (IntKind.wrap .i64 (r5.2.2.1 + 1))) - 0) (List.drop 0 r5.2.1.Queue)) ((((Int.toNat (IntKind.wrap .i64 (r5.2.2.1 + 1))) - 0) : Nat) : Int) 0 r2.1 r2.2.1.Side r2.2.1.At r2.2.1.Points r3.1.Side r3.1.At r3.1.Points r5.1 r5.2.1.Side r5.2.1.At r5.2.1.Points r2.2.1.Queue r3.1.Queue r5.2.1.Queue)
                    else none
                  else none
                else
                  some false
            else
              some false
        else
          some false
    else
      Option.bind (Ds_TurnsUntil r5.1 r5.2.1 r5.2.2.1 r5.2.2.2) fun r8 =>
      Option.bind (Ds_DrawRemoveKind a1) fun r9 =>
      Option.bind (Di_RemoveKind r9.1 r9.2.1 r9.2.2) fun r10 =>
      Option.bind (Ds_RemoveKind r9.1 r9.2.1 r9.2.2) fun r11 =>
      if (!(r3.2 == r4.2)) = true then
        some false
      else
        Option.bind (Dw_qWorks r3.1 r4.1) fun r13 =>
        if r13 = true then
          if (!(false == r8.2)) = true then
            some false
          else
            if (r6.1 : Int) = r8.1 then
              if (!(r10.2 == r11.2)) = true then
                some false
              else
                Option.bind (Dw_qWorks r10.1 r11.1) fun r18 =>
                if r18 = true then
                  loop Bw_FnQueues (.h2 r2.2.2 r3.2 r2.1 r2.2.1.Side r2.2.1.At r2.2.1.Points r3.1.Side r3.1.At r3.1.Points r2.2.1.Queue r3.1.Queue)
                else
                  some false
            else
              some false
        else
          some false
end Go.Proofs.YtcblbhjbocipbaaDoor.Ab
