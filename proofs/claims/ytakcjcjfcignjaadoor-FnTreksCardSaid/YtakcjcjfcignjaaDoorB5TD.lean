/- Part of the proof of FnTreksCard: no condition of its own. -/
import Derived.Test.YtakcjcjfcignjaaDoorAb4
set_option linter.unusedVariables false
set_option linter.unusedSimpArgs false
open Go
namespace Go.Proofs.YtakcjcjfcignjaaDoor.Ab
structure Gi_Terrain where
  mk ::
  Name : ByteArray
  Cost : (List Int)
  Shift : Int
  Height : Int
  Blocks : Bool
def gi_Terrain (x : Gi_Terrain) : D := .agg [.str x.Name, sl 1 I x.Cost, I x.Shift, I x.Height, .bool x.Blocks]
def goi_Terrain (x : Gi_Terrain) : D := .agg [.str x.Name, ow 1 I x.Cost, I x.Shift, I x.Height, .bool x.Blocks]
structure Gi_Kind where
  mk ::
  Name : ByteArray
  Strength : Int
  Moves : Int
  Steps : Int
  Zone : Bool
  View : Int
def gi_Kind (x : Gi_Kind) : D := .agg [.str x.Name, I x.Strength, I x.Moves, I x.Steps, .bool x.Zone, I x.View]
structure Gi_Rules where
  mk ::
  Terrains : (List Gi_Terrain)
  Kinds : (List Gi_Kind)
  Stack : Int
  River : Int
  Road : Int
  Supply : Int
  Turns : Int
def gi_Rules (x : Gi_Rules) : D := .agg [sl 5 gi_Terrain x.Terrains, sl 6 gi_Kind x.Kinds, I x.Stack, I x.River, I x.Road, I x.Supply, I x.Turns]
structure Gi_Map where
  mk ::
  Width : Int
  Height : Int
  Terrain : (List Int)
  Rivers : (List Int)
  Roads : (List Int)
def gi_Map (x : Gi_Map) : D := .agg [I x.Width, I x.Height, sl 1 I x.Terrain, sl 1 I x.Rivers, sl 1 I x.Roads]
structure Gi_Board where
  mk ::
  Rules : Gi_Rules
  Map : Gi_Map
def gi_Board (x : Gi_Board) : D := .agg [sl 5 gi_Terrain x.Rules.Terrains, sl 6 gi_Kind x.Rules.Kinds, I x.Rules.Stack, I x.Rules.River, I x.Rules.Road, I x.Rules.Supply, I x.Rules.Turns, I x.Map.Width, I x.Map.Height, sl 1 I x.Map.Terrain, sl 1 I x.Map.Rivers, sl 1 I x.Map.Roads]
structure Gs_l1Cur where
  mk ::
  code : (List Int)
  at_ : Int
  seed : Int
def gs_l1Cur (x : Gs_l1Cur) : D := .agg [sl 1 (D.int .u8) x.code, I x.at_, .int .u64 x.seed]
structure Gi_Hex where
  mk ::
  Q : Int
  R : Int
def gi_Hex (x : Gi_Hex) : D := .agg [I x.Q, I x.R]
structure GA6i_Hex where
  mk ::
  c0 : Gi_Hex
  c1 : Gi_Hex
  c2 : Gi_Hex
  c3 : Gi_Hex
  c4 : Gi_Hex
  c5 : Gi_Hex
def gA6i_Hex (x : GA6i_Hex) : D := .agg [I x.c0.Q, I x.c0.R, I x.c1.Q, I x.c1.R, I x.c2.Q, I x.c2.R, I x.c3.Q, I x.c3.R, I x.c4.Q, I x.c4.R, I x.c5.Q, I x.c5.R]
def gv0 : List Gi_Hex := [⟨1, 0⟩, ⟨1, (-1)⟩, ⟨0, (-1)⟩, ⟨(-1), 0⟩, ⟨(-1), 1⟩, ⟨0, 1⟩]
def gc0 : List D := [.agg (gv0.flatMap fun y => (gi_Hex y).cells)]
/-! loop example/g00886/laws big -/
noncomputable def Dw_big (a0 : (List Int)) (a1 : (List Int)) : Option (Bool) :=
  if ((a0.length : Nat) : Int) > 1048576 then
    some true
  else
    some (decide (((a1.length : Nat) : Int) > (IntKind.wrap .i64 (1048576 - ((a0.length : Nat) : Int)))))
/-!   loop example/g00886/spec l1Cur  next -/
noncomputable def Ds_l1Cur_next (a0 : Gs_l1Cur) : Option (Int × Gs_l1Cur) :=
  if a0.at_ < ((a0.code.length : Nat) : Int) then
    if 0 ≤ a0.at_ then
      Option.bind (a0.code[(Int.toNat a0.at_)]?) fun x3 =>
      if (IntKind.wrap .i64 (a0.at_ + 1)) ≤ ((a0.code.length : Nat) : Int) then
        some ((IntKind.wrap .i64 x3), (Gs_l1Cur.mk a0.code (IntKind.wrap .i64 (a0.at_ + 1)) (IntKind.wrap .u64 ((IntKind.wrap .u64 ((IntKind.wrap .u64 (a0.seed * 6364136223846793005)) + (IntKind.wrap .u64 (IntKind.wrap .i64 x3)))) + 1442695040888963407))))
      else
        some ((IntKind.wrap .i64 (IntKind.wrap .u64 ((BitVec.toNat (BitVec.ofInt (IntKind.bits .u64) (Int.fdiv (IntKind.wrap .u64 ((IntKind.wrap .u64 ((IntKind.wrap .u64 (a0.seed * 6364136223846793005)) + (IntKind.wrap .u64 (IntKind.wrap .i64 x3)))) + 1442695040888963407)) (2 ^ min (Int.toNat 40) (IntKind.bits .u64))) &&& BitVec.ofInt (IntKind.bits .u64) 255) : Nat) : Int))), (Gs_l1Cur.mk a0.code (IntKind.wrap .i64 (a0.at_ + 1)) (IntKind.wrap .u64 ((IntKind.wrap .u64 ((IntKind.wrap .u64 (a0.seed * 6364136223846793005)) + (IntKind.wrap .u64 (IntKind.wrap .i64 x3)))) + 1442695040888963407))))
    else none
  else
    if (IntKind.wrap .i64 (a0.at_ + 1)) ≤ ((a0.code.length : Nat) : Int) then
      some (0, (Gs_l1Cur.mk a0.code (IntKind.wrap .i64 (a0.at_ + 1)) (IntKind.wrap .u64 ((IntKind.wrap .u64 ((IntKind.wrap .u64 (a0.seed * 6364136223846793005)) + (IntKind.wrap .u64 0))) + 1442695040888963407))))
    else
      some ((IntKind.wrap .i64 (IntKind.wrap .u64 ((BitVec.toNat (BitVec.ofInt (IntKind.bits .u64) (Int.fdiv (IntKind.wrap .u64 ((IntKind.wrap .u64 ((IntKind.wrap .u64 (a0.seed * 6364136223846793005)) + (IntKind.wrap .u64 0))) + 1442695040888963407)) (2 ^ min (Int.toNat 40) (IntKind.bits .u64))) &&& BitVec.ofInt (IntKind.bits .u64) 255) : Nat) : Int))), (Gs_l1Cur.mk a0.code (IntKind.wrap .i64 (a0.at_ + 1)) (IntKind.wrap .u64 ((IntKind.wrap .u64 ((IntKind.wrap .u64 (a0.seed * 6364136223846793005)) + (IntKind.wrap .u64 0))) + 1442695040888963407))))
/-!   loop example/g00886/spec l1Cur  pick -/
noncomputable def Ds_l1Cur_pick (a0 : Gs_l1Cur) (a1 : Int) : Option (Int × Gs_l1Cur) :=
  if a1 ≤ 1 then
    some (0, a0)
  else
    Option.bind (Ds_l1Cur_next a0) fun r2 =>
    if a1 > 200 then
      Option.bind (Ds_l1Cur_next r2.2) fun r4 =>
      if ¬ a1 = 0 then
        some ((Int.tmod (IntKind.wrap .i64 ((IntKind.wrap .i64 (r2.1 * 256)) + r4.1)) a1), r4.2)
      else none
    else
      if ¬ a1 = 0 then
        some ((Int.tmod r2.1 a1), r2.2)
      else none
/-!   loop example/g00886/spec l1Cur  one -/
noncomputable def Ds_l1Cur_one (a0 : Gs_l1Cur) (a1 : Int) : Option (Bool × Gs_l1Cur) :=
  Option.bind (Ds_l1Cur_pick a0 a1) fun r1 =>
  some (((r1.1 : Int) == 0), r1.2)
/-!   loop example/g00886/spec l1Cur  rules -/
inductive Ss_l1Cur_rules where
  | h1 (i0 : Int) (b1 : Gs_l1Cur) (b2 : Int) (b3 : Int) (b4 : Int) (b5 : Int) (b6 : Int) (b7 : Int) (b8 : Int) (b9 : Int) (b10 : Int) (b11 : Int) (l12 : (List ByteArray)) (l13 : (List Gi_Kind))
  | h2 (i0 : Int) (t1 : Int) (t2 : Int) (b3 : Gs_l1Cur) (b4 : Int) (b5 : Int) (b6 : Int) (b7 : Int) (b8 : Int) (b9 : Int) (b10 : Int) (b11 : Int) (b12 : Int) (b13 : Int) (l14 : (List ByteArray)) (b15 : ByteArray) (b16 : Int) (b17 : Int) (b18 : Bool) (l19 : (List Gi_Kind))
  | h3 (i0 : Int) (t1 : Int) (t2 : Int) (b3 : Gs_l1Cur) (b4 : Int) (b5 : Int) (b6 : Int) (b7 : Int) (b8 : Int) (b9 : Int) (b10 : Int) (b11 : Int) (b12 : Int) (b13 : Int) (l14 : (List ByteArray)) (b15 : ByteArray) (b16 : Int) (b17 : Int) (b18 : Bool) (l19 : (List Gi_Kind)) (l20 : (List Int))
  | h4 (i0 : Int) (b1 : Gs_l1Cur) (b2 : Int) (b3 : Int) (b4 : Int) (b5 : Int) (b6 : Int) (b7 : Int) (b8 : Int) (b9 : Int) (b10 : Int) (b11 : Int) (l12 : (List ByteArray)) (l13 : (List Gi_Terrain)) (l14 : (List Gi_Kind))
  | h5 (i0 : Int) (t1 : Int) (t2 : Int) (b3 : Gs_l1Cur) (b4 : Int) (b5 : Int) (b6 : Int) (b7 : Int) (b8 : Int) (b9 : Int) (b10 : Int) (b11 : Int) (b12 : Int) (b13 : Int) (l14 : (List ByteArray)) (b15 : ByteArray) (b16 : Int) (b17 : Int) (b18 : Bool) (l19 : (List Gi_Terrain)) (l20 : (List Gi_Kind))
  | h6 (i0 : Int) (t1 : Int) (t2 : Int) (b3 : Gs_l1Cur) (b4 : Int) (b5 : Int) (b6 : Int) (b7 : Int) (b8 : Int) (b9 : Int) (b10 : Int) (b11 : Int) (b12 : Int) (b13 : Int) (l14 : (List ByteArray)) (b15 : ByteArray) (b16 : Int) (b17 : Int) (b18 : Bool) (l19 : (List Gi_Terrain)) (l20 : (List Gi_Kind)) (l21 : (List Int))
noncomputable def Bs_l1Cur_rules : Ss_l1Cur_rules → Option (Ss_l1Cur_rules ⊕ (Gi_Rules × Gs_l1Cur))
  | .h1 i0 b1 b2 b3 b4 b5 b6 b7 b8 b9 b10 b11 l12 l13 =>
    Option.bind (Ds_l1Cur_pick b1 4) fun r1 =>
    if i0 < (IntKind.wrap .i64 (2 + r1.1)) then
      if (i0 : Int) = ((l12.length : Nat) : Int) then
        some (.inr ((Gi_Rules.mk [] l13 b7 b8 b9 b10 b11), r1.2))
      else
        if 0 ≤ i0 then
          Option.bind (l12[(Int.toNat i0)]?) fun x5 =>
          Option.bind (Ds_l1Cur_pick r1.2 3) fun r6 =>
          Option.bind (Ds_l1Cur_pick r6.2 2) fun r7 =>
          Option.bind (Ds_l1Cur_pick r7.2 3) fun r8 =>
          if i0 > 0 then
            Option.bind (Ds_l1Cur_one r8.2 3) fun r10 =>
            some (.inl (.h2 i0 ((l13.length : Nat) : Int) 0 r10.2 b2 b3 b4 b5 b6 b7 b8 b9 b10 b11 l12 x5 (IntKind.wrap .i64 (r6.1 - 1)) (IntKind.wrap .i64 (r7.1 * r8.1)) r10.1 l13))
          else
            some (.inl (.h2 i0 ((l13.length : Nat) : Int) 0 r8.2 b2 b3 b4 b5 b6 b7 b8 b9 b10 b11 l12 x5 (IntKind.wrap .i64 (r6.1 - 1)) (IntKind.wrap .i64 (r7.1 * r8.1)) false l13))
        else none
    else
      some (.inr ((Gi_Rules.mk [] l13 b7 b8 b9 b10 b11), r1.2))
  | .h2 i0 t1 t2 b3 b4 b5 b6 b7 b8 b9 b10 b11 b12 b13 l14 b15 b16 b17 b18 l19 =>
    if t2 < t1 then
      if i0 > 0 then
        Option.bind (Ds_l1Cur_pick b3 4) fun r3 =>
        if [r3.1].length * 8 ≤ 70368744177664 then
          some (.inl (.h3 i0 t1 (IntKind.wrap .i64 (t2 + 1)) r3.2 b4 b5 b6 b7 b8 b9 b10 b11 b12 b13 l14 b15 b16 b17 b18 l19 [r3.1]))
        else none
      else
        if [1].length * 8 ≤ 70368744177664 then
          some (.inl (.h3 i0 t1 (IntKind.wrap .i64 (t2 + 1)) b3 b4 b5 b6 b7 b8 b9 b10 b11 b12 b13 l14 b15 b16 b17 b18 l19 [1]))
        else none
    else
      if [(Gi_Terrain.mk b15 ([] : List Int) b16 b17 b18)].length * 64 ≤ 70368744177664 then
        some (.inl (.h4 (IntKind.wrap .i64 (i0 + 1)) b3 b4 b5 b6 b7 b8 b9 b10 b11 b12 b13 l14 [(Gi_Terrain.mk b15 ([] : List Int) b16 b17 b18)] l19))
      else none
  | .h3 i0 t1 t2 b3 b4 b5 b6 b7 b8 b9 b10 b11 b12 b13 l14 b15 b16 b17 b18 l19 l20 =>
    if t2 < t1 then
      if i0 > 0 then
        Option.bind (Ds_l1Cur_pick b3 4) fun r3 =>
        if (l20 ++ [r3.1]).length * 8 ≤ 70368744177664 then
          some (.inl (.h3 i0 t1 (IntKind.wrap .i64 (t2 + 1)) r3.2 b4 b5 b6 b7 b8 b9 b10 b11 b12 b13 l14 b15 b16 b17 b18 l19 (l20 ++ [r3.1])))
        else none
      else
        if (l20 ++ [1]).length * 8 ≤ 70368744177664 then
          some (.inl (.h3 i0 t1 (IntKind.wrap .i64 (t2 + 1)) b3 b4 b5 b6 b7 b8 b9 b10 b11 b12 b13 l14 b15 b16 b17 b18 l19 (l20 ++ [1])))
        else none
    else
      if [(Gi_Terrain.mk b15 l20 b16 b17 b18)].length * 64 ≤ 70368744177664 then
        some (.inl (.h4 (IntKind.wrap .i64 (i0 + 1)) b3 b4 b5 b6 b7 b8 b9 b10 b11 b12 b13 l14 [(Gi_Terrain.mk b15 l20 b16 b17 b18)] l19))
      else none
  | .h4 i0 b1 b2 b3 b4 b5 b6 b7 b8 b9 b10 b11 l12 l13 l14 =>
    Option.bind (Ds_l1Cur_pick b1 4) fun r1 =>
    if i0 < (IntKind.wrap .i64 (2 + r1.1)) then
      if (i0 : Int) = ((l12.length : Nat) : Int) then
        some (.inr ((Gi_Rules.mk l13 l14 b7 b8 b9 b10 b11), r1.2))
      else
        if 0 ≤ i0 then
          Option.bind (l12[(Int.toNat i0)]?) fun x5 =>
          Option.bind (Ds_l1Cur_pick r1.2 3) fun r6 =>
          Option.bind (Ds_l1Cur_pick r6.2 2) fun r7 =>
          Option.bind (Ds_l1Cur_pick r7.2 3) fun r8 =>
          if i0 > 0 then
            Option.bind (Ds_l1Cur_one r8.2 3) fun r10 =>
            some (.inl (.h5 i0 ((l14.length : Nat) : Int) 0 r10.2 b2 b3 b4 b5 b6 b7 b8 b9 b10 b11 l12 x5 (IntKind.wrap .i64 (r6.1 - 1)) (IntKind.wrap .i64 (r7.1 * r8.1)) r10.1 l13 l14))
          else
            some (.inl (.h5 i0 ((l14.length : Nat) : Int) 0 r8.2 b2 b3 b4 b5 b6 b7 b8 b9 b10 b11 l12 x5 (IntKind.wrap .i64 (r6.1 - 1)) (IntKind.wrap .i64 (r7.1 * r8.1)) false l13 l14))
        else none
    else
      some (.inr ((Gi_Rules.mk l13 l14 b7 b8 b9 b10 b11), r1.2))
  | .h5 i0 t1 t2 b3 b4 b5 b6 b7 b8 b9 b10 b11 b12 b13 l14 b15 b16 b17 b18 l19 l20 =>
    if t2 < t1 then
      if i0 > 0 then
        Option.bind (Ds_l1Cur_pick b3 4) fun r3 =>
        if [r3.1].length * 8 ≤ 70368744177664 then
          some (.inl (.h6 i0 t1 (IntKind.wrap .i64 (t2 + 1)) r3.2 b4 b5 b6 b7 b8 b9 b10 b11 b12 b13 l14 b15 b16 b17 b18 l19 l20 [r3.1]))
        else none
      else
        if [1].length * 8 ≤ 70368744177664 then
          some (.inl (.h6 i0 t1 (IntKind.wrap .i64 (t2 + 1)) b3 b4 b5 b6 b7 b8 b9 b10 b11 b12 b13 l14 b15 b16 b17 b18 l19 l20 [1]))
        else none
    else
      if (l19 ++ [(Gi_Terrain.mk b15 ([] : List Int) b16 b17 b18)]).length * 64 ≤ 70368744177664 then
        some (.inl (.h4 (IntKind.wrap .i64 (i0 + 1)) b3 b4 b5 b6 b7 b8 b9 b10 b11 b12 b13 l14 (l19 ++ [(Gi_Terrain.mk b15 ([] : List Int) b16 b17 b18)]) l20))
      else none
  | .h6 i0 t1 t2 b3 b4 b5 b6 b7 b8 b9 b10 b11 b12 b13 l14 b15 b16 b17 b18 l19 l20 l21 =>
    if t2 < t1 then
      if i0 > 0 then
        Option.bind (Ds_l1Cur_pick b3 4) fun r3 =>
        if (l21 ++ [r3.1]).length * 8 ≤ 70368744177664 then
          some (.inl (.h6 i0 t1 (IntKind.wrap .i64 (t2 + 1)) r3.2 b4 b5 b6 b7 b8 b9 b10 b11 b12 b13 l14 b15 b16 b17 b18 l19 l20 (l21 ++ [r3.1])))
        else none
      else
        if (l21 ++ [1]).length * 8 ≤ 70368744177664 then
          some (.inl (.h6 i0 t1 (IntKind.wrap .i64 (t2 + 1)) b3 b4 b5 b6 b7 b8 b9 b10 b11 b12 b13 l14 b15 b16 b17 b18 l19 l20 (l21 ++ [1])))
        else none
    else
      if (l19 ++ [(Gi_Terrain.mk b15 l21 b16 b17 b18)]).length * 64 ≤ 70368744177664 then
        some (.inl (.h4 (IntKind.wrap .i64 (i0 + 1)) b3 b4 b5 b6 b7 b8 b9 b10 b11 b12 b13 l14 (l19 ++ [(Gi_Terrain.mk b15 l21 b16 b17 b18)]) l20))
      else none
noncomputable def Ds_l1Cur_rules (a0 : Gs_l1Cur) : Option (Gi_Rules × Gs_l1Cur) :=
  Option.bind (Ds_l1Cur_pick a0 3) fun r1 =>
  Option.bind (Ds_l1Cur_pick r1.2 4) fun r2 =>
  Option.bind (Ds_l1Cur_pick r2.2 3) fun r3 =>
  Option.bind (Ds_l1Cur_pick r3.2 2) fun r4 =>
  Option.bind (Ds_l1Cur_pick r4.2 4) fun r5 =>
  Option.bind (Ds_l1Cur_pick r5.2 6) fun r6 =>
  Option.bind (Ds_l1Cur_pick r6.2 2) fun r7 =>
  Option.bind (Ds_l1Cur_one r7.2 2) fun r8 =>
  Option.bind (Ds_l1Cur_pick r8.2 6) fun r9 =>
  Option.bind (Ds_l1Cur_pick r9.2 3) fun r10 =>
  Option.bind (Ds_l1Cur_pick r10.2 3) fun r11 =>
  Option.bind (Ds_l1Cur_pick r11.2 3) fun r12 =>
  if (0 : Int) ≤ (IntKind.wrap .i64 (1 + r12.1)) then
    if ((IntKind.wrap .i64 (1 + r12.1)) : Int) ≤ (([(Gi_Kind.mk ⟨#[102, 111, 111, 116]⟩ (IntKind.wrap .i64 (2 + r1.1)) (IntKind.wrap .i64 (2 + r2.1)) (IntKind.wrap .i64 (1 + r3.1)) true (IntKind.wrap .i64 (1 + r4.1))), (Gi_Kind.mk ⟨#[104, 111, 114, 115, 101]⟩ (IntKind.wrap .i64 (1 + r5.1)) (IntKind.wrap .i64 (3 + r6.1)) (IntKind.wrap .i64 (1 + r7.1)) r8.1 2), (Gi_Kind.mk ⟨#[103, 117, 110]⟩ (IntKind.wrap .i64 (3 + r9.1)) (IntKind.wrap .i64 (1 + r10.1)) 1 false r11.1)].length : Nat) : Int) then
      Option.bind (Ds_l1Cur_pick r12.2 3) fun r15 =>
      Option.bind (Ds_l1Cur_pick r15.2 3) fun r16 =>
      Option.bind (Ds_l1Cur_pick r16.2 8) fun r17 =>
      Option.bind (Ds_l1Cur_pick r17.2 8) fun r18 =>
      loop Bs_l1Cur_rules (.h1 0 r18.2 0 0 0 0 0 (IntKind.wrap .i64 (1 + r15.1)) r16.1 1 (IntKind.wrap .i64 (2 + r17.1)) (IntKind.wrap .i64 (2 + r18.1)) [⟨#[112, 108, 97, 105, 110]⟩, ⟨#[119, 111, 111, 100]⟩, ⟨#[104, 105, 108, 108]⟩, ⟨#[115, 101, 97]⟩, ⟨#[116, 111, 119, 110]⟩] (List.take ((Int.toNat (IntKind.wrap .i64 (1 + r12.1))) - 0) (List.drop 0 [(Gi_Kind.mk ⟨#[102, 111, 111, 116]⟩ (IntKind.wrap .i64 (2 + r1.1)) (IntKind.wrap .i64 (2 + r2.1)) (IntKind.wrap .i64 (1 + r3.1)) true (IntKind.wrap .i64 (1 + r4.1))), (Gi_Kind.mk ⟨#[104, 111, 114, 115, 101]⟩ (IntKind.wrap .i64 (1 + r5.1)) (IntKind.wrap .i64 (3 + r6.1)) (IntKind.wrap .i64 (1 + r7.1)) r8.1 2), (Gi_Kind.mk ⟨#[103, 117, 110]⟩ (IntKind.wrap .i64 (3 + r9.1)) (IntKind.wrap .i64 (1 + r10.1)) 1 false r11.1)])))
    else none
  else none
/-! loop example/g00886/spec mSize -/
noncomputable def Ds_mSize (a0 : Gi_Map) : Option (Int) :=
  some (IntKind.wrap .i64 (a0.Width * a0.Height))
/-! loop example/g00886/spec mHex -/
noncomputable def Ds_mHex (a0 : Gi_Map) (a1 : Int) : Option (Gi_Hex) :=
  if ¬ a0.Width = 0 then
    if ¬ a0.Width = 0 then
      some (Gi_Hex.mk (Int.tmod a1 a0.Width) (IntKind.wrap .i64 (Int.tdiv a1 a0.Width)))
    else none
  else none
/-! loop example/g00886/spec hStep -/
noncomputable def Ds_hStep (a0 : Gi_Hex) (a1 : Int) : Option (Gi_Hex) :=
  if 0 ≤ a1 then
    Option.bind ([1, 1, 0, (-1), (-1), 0][(Int.toNat a1)]?) fun x2 =>
    if 0 ≤ a1 then
      Option.bind ([0, (-1), (-1), 0, 1, 1][(Int.toNat a1)]?) fun x4 =>
      some (Gi_Hex.mk (IntKind.wrap .i64 (a0.Q + x2)) (IntKind.wrap .i64 (a0.R + x4)))
    else none
  else none
/-! loop example/g00886/spec l1In -/
noncomputable def Ds_l1In (a0 : Int) (a1 : Int) (a2 : Int) : Option (Bool) :=
  if a0 ≥ a1 then
    some (decide (a0 ≤ a2))
  else
    some false
/-! loop example/g00886/spec mIndex -/
noncomputable def Ds_mIndex (a0 : Gi_Map) (a1 : Gi_Hex) : Option (Int) :=
  Option.bind (Ds_l1In a1.Q 0 (IntKind.wrap .i64 (a0.Width - 1))) fun r1 =>
  if r1 = true then
    Option.bind (Ds_l1In a1.R 0 (IntKind.wrap .i64 (a0.Height - 1))) fun r3 =>
    if r3 = true then
      some (IntKind.wrap .i64 ((IntKind.wrap .i64 (a1.R * a0.Width)) + a1.Q))
    else
      some (-1)
  else
    some (-1)
/-! loop example/g00886/spec mNext -/
noncomputable def Ds_mNext (a0 : Gi_Map) (a1 : Int) (a2 : Int) : Option (Int) :=
  Option.bind (Ds_mHex a0 a1) fun r1 =>
  Option.bind (Ds_hStep r1 a2) fun r2 =>
  Option.bind (Ds_mIndex a0 r2) fun r3 =>
  some r3
/-! loop example/g00886/spec mEdge -/
noncomputable def Ds_mEdge (a0 : Gi_Map) (a1 : Int) (a2 : Int) : Option (Int) :=
  if a2 < 3 then
    some (IntKind.wrap .i64 ((IntKind.wrap .i64 (3 * a1)) + a2))
  else
    Option.bind (Ds_mNext a0 a1 a2) fun r2 =>
    some (IntKind.wrap .i64 ((IntKind.wrap .i64 ((IntKind.wrap .i64 (3 * r2)) + a2)) - 3))
/-! loop example/g00886/spec l1Put -/
inductive Ss_l1Put_c0 where
  | h1 (n0 : Int) (k1 : Int) (l2 : (List Int))
noncomputable def Bs_l1Put_c0 : Ss_l1Put_c0 → Option (Ss_l1Put_c0 ⊕ ((List Int)))
  | .h1 n0 k1 l2 =>
    if k1 < ((l2.length : Nat) : Int) then
      if 0 ≤ k1 then
        Option.bind (l2[(Int.toNat k1)]?) fun x3 =>
        if x3 < n0 then
          some (.inl (.h1 n0 (IntKind.wrap .i64 (k1 + 1)) l2))
        else
          if k1 < ((l2.length : Nat) : Int) then
            if 0 ≤ k1 then
              Option.bind (l2[(Int.toNat k1)]?) fun x7 =>
              if (x7 : Int) = n0 then
                some (.inr l2)
              else
                if (0 : Int) ≤ k1 then
                  if (k1 : Int) ≤ ((l2.length : Nat) : Int) then
                    if (List.take ((Int.toNat k1) - 0) (List.drop 0 l2)).length * 8 ≤ 70368744177664 then
                      if ((List.take ((Int.toNat k1) - 0) (List.drop 0 l2)) ++ [n0]).length * 8 ≤ 70368744177664 then
                        if (0 : Int) ≤ k1 then
                          if (k1 : Int) ≤ ((l2.length : Nat) : Int) then
                            if (((List.take ((Int.toNat k1) - 0) (List.drop 0 l2)) ++ [n0]) ++ (List.take (l2.length - (Int.toNat k1)) (List.drop (Int.toNat k1) l2))).length * 8 ≤ 70368744177664 then
                              some (.inr (((List.take ((Int.toNat k1) - 0) (List.drop 0 l2)) ++ [n0]) ++ (List.take (l2.length - (Int.toNat k1)) (List.drop (Int.toNat k1) l2))))
                            else none
                          else none
                        else none
                      else none
                    else none
                  else none
                else none
            else none
          else
            if (0 : Int) ≤ k1 then
              if (k1 : Int) ≤ ((l2.length : Nat) : Int) then
                if (List.take ((Int.toNat k1) - 0) (List.drop 0 l2)).length * 8 ≤ 70368744177664 then
                  if ((List.take ((Int.toNat k1) - 0) (List.drop 0 l2)) ++ [n0]).length * 8 ≤ 70368744177664 then
                    if (0 : Int) ≤ k1 then
                      if (k1 : Int) ≤ ((l2.length : Nat) : Int) then
                        if (((List.take ((Int.toNat k1) - 0) (List.drop 0 l2)) ++ [n0]) ++ (List.take (l2.length - (Int.toNat k1)) (List.drop (Int.toNat k1) l2))).length * 8 ≤ 70368744177664 then
                          some (.inr (((List.take ((Int.toNat k1) - 0) (List.drop 0 l2)) ++ [n0]) ++ (List.take (l2.length - (Int.toNat k1)) (List.drop (Int.toNat k1) l2))))
                        else none
                      else none
                    else none
                  else none
                else none
              else none
            else none
      else none
    else
      if k1 < ((l2.length : Nat) : Int) then
        if 0 ≤ k1 then
          Option.bind (l2[(Int.toNat k1)]?) fun x4 =>
          if (x4 : Int) = n0 then
            some (.inr l2)
          else
            if (0 : Int) ≤ k1 then
              if (k1 : Int) ≤ ((l2.length : Nat) : Int) then
                if (List.take ((Int.toNat k1) - 0) (List.drop 0 l2)).length * 8 ≤ 70368744177664 then
                  if ((List.take ((Int.toNat k1) - 0) (List.drop 0 l2)) ++ [n0]).length * 8 ≤ 70368744177664 then
                    if (0 : Int) ≤ k1 then
                      if (k1 : Int) ≤ ((l2.length : Nat) : Int) then
                        if (((List.take ((Int.toNat k1) - 0) (List.drop 0 l2)) ++ [n0]) ++ (List.take (l2.length - (Int.toNat k1)) (List.drop (Int.toNat k1) l2))).length * 8 ≤ 70368744177664 then
                          some (.inr (((List.take ((Int.toNat k1) - 0) (List.drop 0 l2)) ++ [n0]) ++ (List.take (l2.length - (Int.toNat k1)) (List.drop (Int.toNat k1) l2))))
                        else none
                      else none
                    else none
                  else none
                else none
              else none
            else none
        else none
      else
        if (0 : Int) ≤ k1 then
          if (k1 : Int) ≤ ((l2.length : Nat) : Int) then
            if (List.take ((Int.toNat k1) - 0) (List.drop 0 l2)).length * 8 ≤ 70368744177664 then
              if ((List.take ((Int.toNat k1) - 0) (List.drop 0 l2)) ++ [n0]).length * 8 ≤ 70368744177664 then
                if (0 : Int) ≤ k1 then
                  if (k1 : Int) ≤ ((l2.length : Nat) : Int) then
                    if (((List.take ((Int.toNat k1) - 0) (List.drop 0 l2)) ++ [n0]) ++ (List.take (l2.length - (Int.toNat k1)) (List.drop (Int.toNat k1) l2))).length * 8 ≤ 70368744177664 then
                      some (.inr (((List.take ((Int.toNat k1) - 0) (List.drop 0 l2)) ++ [n0]) ++ (List.take (l2.length - (Int.toNat k1)) (List.drop (Int.toNat k1) l2))))
                    else none
                  else none
                else none
              else none
            else none
          else none
        else none
noncomputable def Ds_l1Put_c0 (a0 : (List Int)) (a1 : Int) : Option ((List Int)) :=
  loop Bs_l1Put_c0 (.h1 a1 0 a0)
/-!   loop example/g00886/spec l1Cur  edges -/
inductive Ss_l1Cur_edges where
  | h1 (k0 : Int) (b1 : Gs_l1Cur) (b2 : Gi_Map) (l3 : (List Int))
noncomputable def Bs_l1Cur_edges : Ss_l1Cur_edges → Option (Ss_l1Cur_edges ⊕ ((List Int) × Gs_l1Cur))
  | .h1 k0 b1 b2 l3 =>
    if k0 > 0 then
      Option.bind (Ds_mSize b2) fun r2 =>
      Option.bind (Ds_l1Cur_pick b1 r2) fun r3 =>
      Option.bind (Ds_l1Cur_pick r3.2 6) fun r4 =>
      Option.bind (Ds_mNext b2 r3.1 r4.1) fun r5 =>
      if r5 ≥ 0 then
        Option.bind (Ds_mEdge b2 r3.1 r4.1) fun r7 =>
        Option.bind (Ds_l1Put_c0 l3 r7) fun r8 =>
        some (.inl (.h1 (IntKind.wrap .i64 (k0 - 1)) r4.2 b2 r8))
      else
        some (.inl (.h1 (IntKind.wrap .i64 (k0 - 1)) r4.2 b2 l3))
    else
      some (.inr (l3, b1))
noncomputable def Ds_l1Cur_edges (a0 : Gs_l1Cur) (a1 : Gi_Map) : Option ((List Int) × Gs_l1Cur) :=
  Option.bind (Ds_l1Cur_pick a0 8) fun r1 =>
  loop Bs_l1Cur_edges (.h1 r1.1 r1.2 a1 ([] : List Int))






/-!   loop example/g00886/spec l1Cur  mapOf -/
inductive Ss_l1Cur_mapOf where
  | h1 (terrains0 : Int) (i1 : Int) (b2 : Gs_l1Cur) (b3 : Int) (b4 : Int) (b5 : Int) (b6 : Int)
  | h2 (terrains0 : Int) (i1 : Int) (b2 : Gs_l1Cur) (b3 : Int) (b4 : Int) (b5 : Int) (b6 : Int) (l7 : (List Int))
noncomputable def Bs_l1Cur_mapOf : Ss_l1Cur_mapOf → Option (Ss_l1Cur_mapOf ⊕ (Gi_Map × Gs_l1Cur))
  | .h1 terrains0 i1 b2 b3 b4 b5 b6 =>
    Option.bind (Ds_mSize (Gi_Map.mk b5 b6 [] [] [])) fun r1 =>
    if i1 < r1 then
      Option.bind (Ds_l1Cur_one b2 3) fun r3 =>
      if r3.1 = true then
        Option.bind (Ds_l1Cur_pick r3.2 terrains0) fun r5 =>
        if [r5.1].length * 8 ≤ 70368744177664 then
          some (.inl (.h2 terrains0 (IntKind.wrap .i64 (i1 + 1)) r5.2 b3 b4 b5 b6 [r5.1]))
        else none
      else
        if [0].length * 8 ≤ 70368744177664 then
          some (.inl (.h2 terrains0 (IntKind.wrap .i64 (i1 + 1)) r3.2 b3 b4 b5 b6 [0]))
        else none
    else
      Option.bind (Ds_l1Cur_edges b2 (Gi_Map.mk b5 b6 [] [] [])) fun r3 =>
      Option.bind (Ds_l1Cur_edges r3.2 (Gi_Map.mk b5 b6 [] r3.1 [])) fun r4 =>
      some (.inr ((Gi_Map.mk b5 b6 [] r3.1 r4.1), r4.2))
  | .h2 terrains0 i1 b2 b3 b4 b5 b6 l7 =>
    Option.bind (Ds_mSize (Gi_Map.mk b5 b6 l7 [] [])) fun r1 =>
    if i1 < r1 then
      Option.bind (Ds_l1Cur_one b2 3) fun r3 =>
      if r3.1 = true then
        Option.bind (Ds_l1Cur_pick r3.2 terrains0) fun r5 =>
        if (l7 ++ [r5.1]).length * 8 ≤ 70368744177664 then
          some (.inl (.h2 terrains0 (IntKind.wrap .i64 (i1 + 1)) r5.2 b3 b4 b5 b6 (l7 ++ [r5.1])))
        else none
      else
        if (l7 ++ [0]).length * 8 ≤ 70368744177664 then
          some (.inl (.h2 terrains0 (IntKind.wrap .i64 (i1 + 1)) r3.2 b3 b4 b5 b6 (l7 ++ [0])))
        else none
    else
      Option.bind (Ds_l1Cur_edges b2 (Gi_Map.mk b5 b6 l7 [] [])) fun r3 =>
      Option.bind (Ds_l1Cur_edges r3.2 (Gi_Map.mk b5 b6 l7 r3.1 [])) fun r4 =>
      some (.inr ((Gi_Map.mk b5 b6 l7 r3.1 r4.1), r4.2))
noncomputable def Ds_l1Cur_mapOf (a0 : Gs_l1Cur) (a1 : Int) : Option (Gi_Map × Gs_l1Cur) :=
  Option.bind (Ds_l1Cur_pick a0 6) fun r1 =>
  Option.bind (Ds_l1Cur_pick r1.2 6) fun r2 =>
  loop Bs_l1Cur_mapOf (.h1 a1 0 r2.2 0 0 (IntKind.wrap .i64 (1 + r1.1)) (IntKind.wrap .i64 (1 + r2.1)))
/-!   loop example/g00886/spec l1Cur  board -/
noncomputable def Ds_l1Cur_board (a0 : Gs_l1Cur) : Option (Gi_Board × Gs_l1Cur) :=
  Option.bind (Ds_l1Cur_rules a0) fun r1 =>
  Option.bind (Ds_l1Cur_mapOf r1.2 ((r1.1.Terrains.length : Nat) : Int)) fun r2 =>
  some ((Gi_Board.mk r1.1 r2.1), r2.2)
/-!   loop example/g00886/spec l1Cur  among -/
noncomputable def Ds_l1Cur_among (a0 : Gs_l1Cur) (a1 : (List Int)) : Option (Int × Gs_l1Cur) :=
  Option.bind (Ds_l1Cur_pick a0 ((a1.length : Nat) : Int)) fun r1 =>
  if 0 ≤ r1.1 then
    Option.bind (a1[(Int.toNat r1.1)]?) fun x3 =>
    some (x3, r1.2)
  else none
/-!   loop example/g00886/spec l1Cur  of -/
noncomputable def Ds_l1Cur_of (a0 : Gs_l1Cur) (a1 : (List ByteArray)) : Option (ByteArray × Gs_l1Cur) :=
  Option.bind (Ds_l1Cur_pick a0 ((a1.length : Nat) : Int)) fun r1 =>
  if 0 ≤ r1.1 then
    Option.bind (a1[(Int.toNat r1.1)]?) fun x3 =>
    some (x3, r1.2)
  else none
/-!   loop example/g00886/spec l1Cur  anyRules -/
noncomputable def Ds_l1Cur_anyRules (a0 : Gs_l1Cur) : Option (Gi_Rules × Gs_l1Cur) :=
  Option.bind (Ds_l1Cur_rules a0) fun r1 =>
  Option.bind (Ds_l1Cur_pick r1.2 30) fun r2 =>
  if (r2.1 : Int) = 0 then
    Option.bind (r1.1.Terrains[(Int.toNat 0)]?) fun x4 =>
    Option.bind (Ds_l1Cur_among r2.2 [(-1), 9, 10, 0]) fun r5 =>
    Option.bind (x4.Cost[(Int.toNat 0)]?) fun x6 =>
    some ((Gi_Rules.mk (List.set r1.1.Terrains (Int.toNat 0) (Gi_Terrain.mk x4.Name (List.set x4.Cost (Int.toNat 0) r5.1) x4.Shift x4.Height x4.Blocks)) r1.1.Kinds r1.1.Stack r1.1.River r1.1.Road r1.1.Supply r1.1.Turns), r5.2)
  else
    if (r2.1 : Int) = 1 then
      Option.bind (Ds_l1Cur_of r2.2 [⟨#[]⟩, ⟨#[80, 108, 97, 105, 110]⟩, ⟨#[119, 111, 111, 100]⟩, ⟨#[97, 98, 99, 100, 101, 102, 103, 104]⟩, ⟨#[97, 98, 99, 100, 101, 102, 103, 104, 105]⟩]) fun r5 =>
      Option.bind (r1.1.Terrains[(Int.toNat 0)]?) fun x6 =>
      some ((Gi_Rules.mk (List.set r1.1.Terrains (Int.toNat 0) (Gi_Terrain.mk r5.1 x6.Cost x6.Shift x6.Height x6.Blocks)) r1.1.Kinds r1.1.Stack r1.1.River r1.1.Road r1.1.Supply r1.1.Turns), r5.2)
    else
      if (r2.1 : Int) = 2 then
        Option.bind (Ds_l1Cur_among r2.2 [(-1), 0, 9, 10]) fun r6 =>
        Option.bind (r1.1.Kinds[(Int.toNat 0)]?) fun x7 =>
        some ((Gi_Rules.mk r1.1.Terrains (List.set r1.1.Kinds (Int.toNat 0) (Gi_Kind.mk x7.Name x7.Strength r6.1 x7.Steps x7.Zone x7.View)) r1.1.Stack r1.1.River r1.1.Road r1.1.Supply r1.1.Turns), r6.2)
      else
        if (r2.1 : Int) = 3 then
          Option.bind (r1.1.Kinds[(Int.toNat 0)]?) fun x7 =>
          if (r1.1.Kinds ++ [x7]).length * 56 ≤ 70368744177664 then
            some ((Gi_Rules.mk r1.1.Terrains (r1.1.Kinds ++ [x7]) r1.1.Stack r1.1.River r1.1.Road r1.1.Supply r1.1.Turns), r2.2)
          else none
        else
          if (r2.1 : Int) = 4 then
            Option.bind (Ds_l1Cur_among r2.2 [0, 4, 5]) fun r8 =>
            some ((Gi_Rules.mk r1.1.Terrains r1.1.Kinds r8.1 r1.1.River r1.1.Road r1.1.Supply r1.1.Turns), r8.2)
          else
            if (r2.1 : Int) = 5 then
              Option.bind (Ds_l1Cur_among r2.2 [0, 30, 31]) fun r9 =>
              some ((Gi_Rules.mk r1.1.Terrains r1.1.Kinds r1.1.Stack r1.1.River r1.1.Road r1.1.Supply r9.1), r9.2)
            else
              if (r2.1 : Int) = 6 then
                Option.bind (Ds_l1Cur_among r2.2 [(-4), (-3), 4]) fun r10 =>
                Option.bind (r1.1.Terrains[(Int.toNat 0)]?) fun x11 =>
                some ((Gi_Rules.mk (List.set r1.1.Terrains (Int.toNat 0) (Gi_Terrain.mk x11.Name x11.Cost r10.1 x11.Height x11.Blocks)) r1.1.Kinds r1.1.Stack r1.1.River r1.1.Road r1.1.Supply r1.1.Turns), r10.2)
              else
                some (r1.1, r2.2)
/-!   loop example/g00886/spec l1Cur  anyMap -/
noncomputable def Ds_l1Cur_anyMap (a0 : Gs_l1Cur) : Option (Gi_Map × Gs_l1Cur) :=
  Option.bind (Ds_l1Cur_mapOf a0 6) fun r1 =>
  Option.bind (Ds_l1Cur_pick r1.2 30) fun r2 =>
  if (r2.1 : Int) = 0 then
    Option.bind (Ds_l1Cur_among r2.2 [0, 10, 11, (IntKind.wrap .i64 (r1.1.Width + 1))]) fun r4 =>
    some ((Gi_Map.mk r4.1 r1.1.Height r1.1.Terrain r1.1.Rivers r1.1.Roads), r4.2)
  else
    if (r2.1 : Int) = 1 then
      Option.bind (Ds_l1Cur_among r2.2 [(-1), 6]) fun r5 =>
      Option.bind (r1.1.Terrain[(Int.toNat 0)]?) fun x6 =>
      some ((Gi_Map.mk r1.1.Width r1.1.Height (List.set r1.1.Terrain (Int.toNat 0) r5.1) r1.1.Rivers r1.1.Roads), r5.2)
    else
      if (r2.1 : Int) = 2 then
        Option.bind (Ds_mSize r1.1) fun r6 =>
        Option.bind (Ds_mSize r1.1) fun r7 =>
        Option.bind (Ds_l1Cur_among r2.2 [0, (IntKind.wrap .i64 (3 * r6)), (IntKind.wrap .i64 ((IntKind.wrap .i64 (3 * r7)) - 1)), (-1)]) fun r8 =>
        if (r1.1.Rivers ++ [r8.1]).length * 8 ≤ 70368744177664 then
          some ((Gi_Map.mk r1.1.Width r1.1.Height r1.1.Terrain (r1.1.Rivers ++ [r8.1]) r1.1.Roads), r8.2)
        else none
      else
        if (r2.1 : Int) = 3 then
          if ([2] ++ r1.1.Roads).length * 8 ≤ 70368744177664 then
            some ((Gi_Map.mk r1.1.Width r1.1.Height r1.1.Terrain r1.1.Rivers ([2] ++ r1.1.Roads)), r2.2)
          else none
        else
          some (r1.1, r2.2)
/-!   loop example/g00886/spec l1Cur  anyBoard -/
noncomputable def Ds_l1Cur_anyBoard (a0 : Gs_l1Cur) : Option (Gi_Board × Gs_l1Cur) :=
  Option.bind (Ds_l1Cur_board a0) fun r1 =>
  Option.bind (Ds_l1Cur_pick r1.2 24) fun r2 =>
  if (r2.1 : Int) = 0 then
    Option.bind (Ds_l1Cur_anyRules r2.2) fun r4 =>
    some ((Gi_Board.mk r4.1 r1.1.Map), r4.2)
  else
    if (r2.1 : Int) = 1 then
      Option.bind (Ds_l1Cur_anyMap r2.2) fun r5 =>
      some ((Gi_Board.mk r1.1.Rules r5.1), r5.2)
    else
      some (r1.1, r2.2)
/-!   loop example/g00886/spec l1Cur  kindOf -/
noncomputable def Ds_l1Cur_kindOf (a0 : Gs_l1Cur) (a1 : Gi_Board) : Option (Int × Gs_l1Cur) :=
  Option.bind (Ds_l1Cur_pick a0 16) fun r1 =>
  Option.bind (Ds_l1Cur_pick r1.2 (IntKind.wrap .i64 (((a1.Rules.Kinds.length : Nat) : Int) + (IntKind.wrap .i64 (Int.tdiv r1.1 15))))) fun r2 =>
  Option.bind (Ds_l1Cur_pick r2.2 20) fun r3 =>
  some ((IntKind.wrap .i64 (r2.1 - (IntKind.wrap .i64 (Int.tdiv r3.1 19)))), r3.2)
/-! loop example/g00886/spec l1Most -/
noncomputable def Ds_l1Most (a0 : Int) (a1 : Int) : Option (Int) :=
  if a0 > a1 then
    some a0
  else
    some a1
/-!   loop example/g00886/spec l1Cur  place -/
noncomputable def Ds_l1Cur_place (a0 : Gs_l1Cur) (a1 : Gi_Map) : Option (Int × Gs_l1Cur) :=
  Option.bind (Ds_l1Cur_one a0 20) fun r1 =>
  if r1.1 = true then
    Option.bind (Ds_mSize a1) fun r3 =>
    Option.bind (Ds_l1Cur_among r1.2 [(-1), r3]) fun r4 =>
    some (r4.1, r4.2)
  else
    Option.bind (Ds_mSize a1) fun r3 =>
    Option.bind (Ds_l1Most r3 1) fun r4 =>
    Option.bind (Ds_l1Cur_pick r1.2 r4) fun r5 =>
    some (r5.1, r5.2)
/-!   loop example/g00886/spec l1Cur  trek -/
noncomputable def Ds_l1Cur_trek (a0 : Gs_l1Cur) : Option (Gi_Board × Int × Int × Int × Int × Gs_l1Cur) :=
  Option.bind (Ds_l1Cur_anyBoard a0) fun r1 =>
  Option.bind (Ds_l1Cur_kindOf r1.2 r1.1) fun r2 =>
  Option.bind (Ds_l1Cur_pick r2.2 24) fun r3 =>
  Option.bind (Ds_l1Cur_pick r3.2 (IntKind.wrap .i64 (3 + (IntKind.wrap .i64 (Int.tdiv r3.1 23))))) fun r4 =>
  Option.bind (Ds_l1Cur_pick r4.2 30) fun r5 =>
  Option.bind (Ds_l1Cur_place r5.2 r1.1.Map) fun r6 =>
  Option.bind (Ds_l1Cur_place r6.2 r1.1.Map) fun r7 =>
  some (r1.1, r2.1, (IntKind.wrap .i64 (r4.1 - (IntKind.wrap .i64 (Int.tdiv r5.1 29)))), r6.1, r7.1, r7.2)
/-! loop example/g00886/spec DrawReachOf -/
noncomputable def Ds_DrawReachOf (a0 : (List Int)) : Option (Gi_Board × Int × Int × Int × Int) :=
  Option.bind (Ds_l1Cur_trek (Gs_l1Cur.mk a0 0 0)) fun r1 =>
  Option.bind (Ds_l1Cur_among r1.2.2.2.2.2 [0, 1, 2, 4, 9, 1000, 1001, (-1)]) fun r2 =>
  some (r1.1, r1.2.1, r1.2.2.1, r1.2.2.2.1, r2.1)
/-! loop example/g00886/impl inRange -/
noncomputable def Di_inRange (a0 : Int) (a1 : Int) (a2 : Int) : Option (Bool) :=
  if a1 ≤ a0 then
    some (decide (a0 ≤ a2))
  else
    some false
/-! loop example/g00886/impl isName -/
inductive Si_isName where
  | h1 (s0 : ByteArray) (i1 : Int)
noncomputable def Bi_isName : Si_isName → Option (Si_isName ⊕ (Bool))
  | .h1 s0 i1 =>
    if i1 < ((ByteArray.size s0 : Nat) : Int) then
      if 0 ≤ i1 then
        if i1 < (ByteArray.size s0 : Int) then
          if ((byteAt s0 (Int.toNat i1) : Nat) : Int) < 97 then
            some (.inr false)
          else
            if 0 ≤ i1 then
              if i1 < (ByteArray.size s0 : Int) then
                if ((byteAt s0 (Int.toNat i1) : Nat) : Int) > 122 then
                  some (.inr false)
                else
                  some (.inl (.h1 s0 (IntKind.wrap .i64 (i1 + 1))))
              else none
            else none
        else none
      else none
    else
      Option.bind (Di_inRange ((ByteArray.size s0 : Nat) : Int) 1 8) fun r2 =>
      some (.inr r2)
noncomputable def Di_isName (a0 : ByteArray) : Option (Bool) :=
  loop Bi_isName (.h1 a0 0)
/-! loop example/g00886/impl goodTerrain 1 -/
noncomputable def Di_goodTerrain_1 (a0 : Int) : Option (Bool) :=
  Option.bind (Di_inRange a0 0 9) fun r1 =>
  some (!r1)
/-! slices IndexFunc   int int  -/
inductive Sslices_IndexFunc_int_i_goodTerrain_1 where
  | h1 (s0 : (List Int)) (t1 : Int) (t2 : Int)
noncomputable def Bslices_IndexFunc_int_i_goodTerrain_1 : Sslices_IndexFunc_int_i_goodTerrain_1 → Option (Sslices_IndexFunc_int_i_goodTerrain_1 ⊕ (Int))
  | .h1 s0 t1 t2 =>
    if t2 < t1 then
      if 0 ≤ t2 then
        Option.bind (s0[(Int.toNat t2)]?) fun x3 =>
        Option.bind (Di_goodTerrain_1 x3) fun r4 =>
        if r4 = true then
          some (.inr t2)
        else
          some (.inl (.h1 s0 t1 (IntKind.wrap .i64 (t2 + 1))))
      else none
    else
      some (.inr (-1))
noncomputable def Dslices_IndexFunc_int_i_goodTerrain_1 (a0 : (List Int)) : Option (Int) :=
  loop Bslices_IndexFunc_int_i_goodTerrain_1 (.h1 a0 ((a0.length : Nat) : Int) 0)
/-! slices ContainsFunc   int int  -/
noncomputable def Dslices_ContainsFunc_int_i_goodTerrain_1 (a0 : (List Int)) : Option (Bool) :=
  Option.bind (Dslices_IndexFunc_int_i_goodTerrain_1 a0) fun r1 =>
  some (decide (r1 ≥ 0))
/-! loop example/g00886/impl goodTerrain -/
noncomputable def Di_goodTerrain (a0 : Gi_Terrain) (a1 : Int) : Option (Bool) :=
  Option.bind (Di_isName a0.Name) fun r1 =>
  if r1 = true then
    if (((a0.Cost.length : Nat) : Int) : Int) = a1 then
      Option.bind (Di_inRange a0.Shift (-3) 3) fun r4 =>
      if r4 = true then
        Option.bind (Di_inRange a0.Height 0 3) fun r6 =>
        if r6 = true then
          Option.bind (Dslices_ContainsFunc_int_i_goodTerrain_1 a0.Cost) fun r8 =>
          some (!r8)
        else
          some false
      else
        some false
    else
      some false
  else
    some false
/-! loop example/g00886/impl terrainIndex 1 -/
noncomputable def Di_terrainIndex_1 (a0 : Gi_Terrain) (a1 : ByteArray) : Option (Bool) :=
  some (a0.Name == a1)
/-! slices IndexFunc   loop example/g00886/impl Terrain loop example/g00886/impl Terrain  -/
inductive Sslices_IndexFunc_i_Terrain_i_terrainIndex_1 where
  | h1 (s0 : (List Gi_Terrain)) (f1 : ByteArray) (t2 : Int) (t3 : Int)
noncomputable def Bslices_IndexFunc_i_Terrain_i_terrainIndex_1 : Sslices_IndexFunc_i_Terrain_i_terrainIndex_1 → Option (Sslices_IndexFunc_i_Terrain_i_terrainIndex_1 ⊕ (Int))
  | .h1 s0 f1 t2 t3 =>
    if t3 < t2 then
      if 0 ≤ t3 then
        Option.bind (s0[(Int.toNat t3)]?) fun x3 =>
        Option.bind (Di_terrainIndex_1 x3 f1) fun r4 =>
        if r4 = true then
          some (.inr t3)
        else
          some (.inl (.h1 s0 f1 t2 (IntKind.wrap .i64 (t3 + 1))))
      else none
    else
      some (.inr (-1))
noncomputable def Dslices_IndexFunc_i_Terrain_i_terrainIndex_1 (a0 : (List Gi_Terrain)) (a100 : ByteArray) : Option (Int) :=
  loop Bslices_IndexFunc_i_Terrain_i_terrainIndex_1 (.h1 a0 a100 ((a0.length : Nat) : Int) 0)
/-! loop example/g00886/impl terrainIndex -/
noncomputable def Di_terrainIndex (a0 : (List Gi_Terrain)) (a1 : ByteArray) : Option (Int) :=
  Option.bind (Dslices_IndexFunc_i_Terrain_i_terrainIndex_1 a0 a1) fun r1 =>
  some r1
/-! loop example/g00886/impl goodKind -/
noncomputable def Di_goodKind (a0 : Gi_Kind) : Option (Bool) :=
  Option.bind (Di_isName a0.Name) fun r1 =>
  if r1 = true then
    Option.bind (Di_inRange a0.Strength 1 9) fun r3 =>
    if r3 = true then
      Option.bind (Di_inRange a0.Moves 0 9) fun r5 =>
      if r5 = true then
        Option.bind (Di_inRange a0.Steps 1 4) fun r7 =>
        if r7 = true then
          Option.bind (Di_inRange a0.View 0 4) fun r9 =>
          some r9
        else
          some false
      else
        some false
    else
      some false
  else
    some false
/-! loop example/g00886/impl kindIndex 1 -/
noncomputable def Di_kindIndex_1 (a0 : Gi_Kind) (a1 : ByteArray) : Option (Bool) :=
  some (a0.Name == a1)
/-! slices IndexFunc   loop example/g00886/impl Kind loop example/g00886/impl Kind  -/
inductive Sslices_IndexFunc_i_Kind_i_kindIndex_1 where
  | h1 (s0 : (List Gi_Kind)) (f1 : ByteArray) (t2 : Int) (t3 : Int)
noncomputable def Bslices_IndexFunc_i_Kind_i_kindIndex_1 : Sslices_IndexFunc_i_Kind_i_kindIndex_1 → Option (Sslices_IndexFunc_i_Kind_i_kindIndex_1 ⊕ (Int))
  | .h1 s0 f1 t2 t3 =>
    if t3 < t2 then
      if 0 ≤ t3 then
        Option.bind (s0[(Int.toNat t3)]?) fun x3 =>
        Option.bind (Di_kindIndex_1 x3 f1) fun r4 =>
        if r4 = true then
          some (.inr t3)
        else
          some (.inl (.h1 s0 f1 t2 (IntKind.wrap .i64 (t3 + 1))))
      else none
    else
      some (.inr (-1))
noncomputable def Dslices_IndexFunc_i_Kind_i_kindIndex_1 (a0 : (List Gi_Kind)) (a100 : ByteArray) : Option (Int) :=
  loop Bslices_IndexFunc_i_Kind_i_kindIndex_1 (.h1 a0 a100 ((a0.length : Nat) : Int) 0)
/-! loop example/g00886/impl kindIndex -/
noncomputable def Di_kindIndex (a0 : (List Gi_Kind)) (a1 : ByteArray) : Option (Int) :=
  Option.bind (Dslices_IndexFunc_i_Kind_i_kindIndex_1 a0 a1) fun r1 =>
  some r1
/-! loop example/g00886/impl IsRules -/
inductive Si_IsRules where
  | h1 (t0 : (List Gi_Terrain)) (t1 : Int) (t2 : Int) (b3 : Gi_Rules)
  | h2 (t0 : (List Gi_Kind)) (t1 : Int) (t2 : Int) (b3 : Gi_Rules)
noncomputable def Bi_IsRules : Si_IsRules → Option (Si_IsRules ⊕ (Bool))
  | .h1 t0 t1 t2 b3 =>
    if t2 < t1 then
      if 0 ≤ t2 then
        Option.bind (t0[(Int.toNat t2)]?) fun x3 =>
        Option.bind (Di_goodTerrain x3 ((b3.Kinds.length : Nat) : Int)) fun r4 =>
        if r4 = true then
          Option.bind (Di_terrainIndex b3.Terrains x3.Name) fun r6 =>
          if (r6 : Int) = t2 then
            some (.inl (.h1 t0 t1 (IntKind.wrap .i64 (t2 + 1)) b3))
          else
            some (.inr false)
        else
          some (.inr false)
      else none
    else
      some (.inl (.h2 b3.Kinds ((b3.Kinds.length : Nat) : Int) 0 b3))
  | .h2 t0 t1 t2 b3 =>
    if t2 < t1 then
      if 0 ≤ t2 then
        Option.bind (t0[(Int.toNat t2)]?) fun x3 =>
        Option.bind (Di_goodKind x3) fun r4 =>
        if r4 = true then
          Option.bind (Di_kindIndex b3.Kinds x3.Name) fun r6 =>
          if (r6 : Int) = t2 then
            some (.inl (.h2 t0 t1 (IntKind.wrap .i64 (t2 + 1)) b3))
          else
            some (.inr false)
        else
          some (.inr false)
      else none
    else
      Option.bind (Di_inRange b3.Stack 1 4) fun r2 =>
      if r2 = true then
        Option.bind (Di_inRange b3.River 0 9) fun r4 =>
        if r4 = true then
          Option.bind (Di_inRange b3.Road 1 9) fun r6 =>
          if r6 = true then
            Option.bind (Di_inRange b3.Supply 0 20) fun r8 =>
            if r8 = true then
              Option.bind (Di_inRange b3.Turns 1 30) fun r10 =>
              some (.inr r10)
            else
              some (.inr false)
          else
            some (.inr false)
        else
          some (.inr false)
      else
        some (.inr false)
noncomputable def Di_IsRules (a0 : Gi_Rules) : Option (Bool) :=
  Option.bind (Di_inRange ((a0.Terrains.length : Nat) : Int) 1 6) fun r1 =>
  if r1 = true then
    Option.bind (Di_inRange ((a0.Kinds.length : Nat) : Int) 1 4) fun r3 =>
    if r3 = true then
      loop Bi_IsRules (.h1 a0.Terrains ((a0.Terrains.length : Nat) : Int) 0 a0)
    else
      some false
  else
    some false
/-! loop example/g00886/impl isIndex -/
noncomputable def Di_isIndex (a0 : Int) (a1 : Int) : Option (Bool) :=
  Option.bind (Di_inRange a0 0 (IntKind.wrap .i64 (a1 - 1))) fun r1 =>
  some r1
/-! loop example/g00886/impl increasing -/
inductive Si_increasing where
  | h1 (list0 : (List Int)) (i1 : Int)
noncomputable def Bi_increasing : Si_increasing → Option (Si_increasing ⊕ (Bool))
  | .h1 list0 i1 =>
    if i1 < ((list0.length : Nat) : Int) then
      if 0 ≤ (IntKind.wrap .i64 (i1 - 1)) then
        Option.bind (list0[(Int.toNat (IntKind.wrap .i64 (i1 - 1)))]?) fun x3 =>
        if 0 ≤ i1 then
          Option.bind (list0[(Int.toNat i1)]?) fun x5 =>
          if x3 ≥ x5 then
            some (.inr false)
          else
            some (.inl (.h1 list0 (IntKind.wrap .i64 (i1 + 1))))
        else none
      else none
    else
      some (.inr true)
noncomputable def Di_increasing (a0 : (List Int)) : Option (Bool) :=
  loop Bi_increasing (.h1 a0 1)
/-! loop example/g00886/impl hexOf -/
noncomputable def Di_hexOf (a0 : Gi_Map) (a1 : Int) : Option (Gi_Hex) :=
  if ¬ a0.Width = 0 then
    if ¬ a0.Width = 0 then
      some (Gi_Hex.mk (Int.tmod a1 a0.Width) (IntKind.wrap .i64 (Int.tdiv a1 a0.Width)))
    else none
  else none
/-! loop example/g00886/impl stepBy -/
noncomputable def Di_stepBy (a0 : Gi_Hex) (a1 : Int) (a2 : Int) : Option (Gi_Hex) :=
  if 0 ≤ a1 then
    Option.bind (gv0[Int.toNat a1]?) fun x2 =>
    if 0 ≤ a1 then
      Option.bind (gv0[Int.toNat a1]?) fun x4 =>
      some (Gi_Hex.mk (IntKind.wrap .i64 (a0.Q + (IntKind.wrap .i64 (a2 * x2.Q)))) (IntKind.wrap .i64 (a0.R + (IntKind.wrap .i64 (a2 * x4.R)))))
    else none
  else none
/-! loop example/g00886/impl indexOf -/
noncomputable def Di_indexOf (a0 : Gi_Map) (a1 : Gi_Hex) : Option (Int) :=
  Option.bind (Di_isIndex a1.Q a0.Width) fun r1 =>
  if r1 = true then
    Option.bind (Di_isIndex a1.R a0.Height) fun r3 =>
    if r3 = true then
      some (IntKind.wrap .i64 ((IntKind.wrap .i64 (a1.R * a0.Width)) + a1.Q))
    else
      some (-1)
  else
    some (-1)
/-! loop example/g00886/impl nextTo -/
noncomputable def Di_nextTo (a0 : Gi_Map) (a1 : Int) (a2 : Int) : Option (Int) :=
  Option.bind (Di_hexOf a0 a1) fun r1 =>
  Option.bind (Di_stepBy r1 a2 1) fun r2 =>
  Option.bind (Di_indexOf a0 r2) fun r3 =>
  some r3
/-! loop example/g00886/impl isEdge -/
noncomputable def Di_isEdge (a0 : Gi_Map) (a1 : Int) : Option (Bool) :=
  Option.bind (Di_inRange a1 0 (IntKind.wrap .i64 ((IntKind.wrap .i64 ((IntKind.wrap .i64 (3 * a0.Width)) * a0.Height)) - 1))) fun r1 =>
  if r1 = true then
    Option.bind (Di_nextTo a0 (IntKind.wrap .i64 (Int.tdiv a1 3)) (Int.tmod a1 3)) fun r3 =>
    some (decide (r3 ≥ 0))
  else
    some false
/-! loop example/g00886/impl IsMap -/
inductive Si_IsMap where
  | h1 (t0 : (List Int)) (t1 : Int) (t2 : Int) (b3 : Gi_Map)
  | h2 (t0 : Int) (t1 : Int) (b2 : Gi_Map) (l3 : (List (List Int)))
  | h3 (t0 : Int) (t1 : Int) (t2 : (List Int)) (t3 : Int) (t4 : Int) (b5 : Gi_Map) (l6 : (List (List Int)))
noncomputable def Bi_IsMap : Si_IsMap → Option (Si_IsMap ⊕ (Bool))
  | .h1 t0 t1 t2 b3 =>
    if t2 < t1 then
      if 0 ≤ t2 then
        Option.bind (t0[(Int.toNat t2)]?) fun x3 =>
        Option.bind (Di_isIndex x3 6) fun r4 =>
        if r4 = true then
          some (.inl (.h1 t0 t1 (IntKind.wrap .i64 (t2 + 1)) b3))
        else
          some (.inr false)
      else none
    else
      some (.inl (.h2 (([b3.Rivers, b3.Roads].length : Nat) : Int) 0 b3 [b3.Rivers, b3.Roads]))
  | .h2 t0 t1 b2 l3 =>
    if t1 < t0 then
      if 0 ≤ t1 then
        Option.bind (l3[(Int.toNat t1)]?) fun x3 =>
        Option.bind (Di_increasing x3) fun r4 =>
        if r4 = true then
          some (.inl (.h3 t0 t1 x3 ((x3.length : Nat) : Int) 0 b2 l3))
        else
          some (.inr false)
      else none
    else
      some (.inr true)
  | .h3 t0 t1 t2 t3 t4 b5 l6 =>
    if t4 < t3 then
      if 0 ≤ t4 then
        Option.bind (t2[(Int.toNat t4)]?) fun x3 =>
        Option.bind (Di_isEdge b5 x3) fun r4 =>
        if r4 = true then
          some (.inl (.h3 t0 t1 t2 t3 (IntKind.wrap .i64 (t4 + 1)) b5 l6))
        else
          some (.inr false)
      else none
    else
      some (.inl (.h2 t0 (IntKind.wrap .i64 (t1 + 1)) b5 l6))
noncomputable def Di_IsMap (a0 : Gi_Map) : Option (Bool) :=
  Option.bind (Di_inRange a0.Width 1 10) fun r1 =>
  if r1 = true then
    Option.bind (Di_inRange a0.Height 1 10) fun r3 =>
    if r3 = true then
      if (((a0.Terrain.length : Nat) : Int) : Int) = (IntKind.wrap .i64 (a0.Width * a0.Height)) then
        loop Bi_IsMap (.h1 a0.Terrain ((a0.Terrain.length : Nat) : Int) 0 a0)
      else
        some false
    else
      some false
  else
    some false
/-! loop example/g00886/impl IsBoard 1 -/
noncomputable def Di_IsBoard_1 (a0 : Int) (a1 : Gi_Board) : Option (Bool) :=
  some (decide (a0 ≥ ((a1.Rules.Terrains.length : Nat) : Int)))
/-! slices IndexFunc   int int  -/
inductive Sslices_IndexFunc_int_i_IsBoard_1 where
  | h1 (s0 : (List Int)) (f1 : Gi_Board) (t2 : Int) (t3 : Int)
noncomputable def Bslices_IndexFunc_int_i_IsBoard_1 : Sslices_IndexFunc_int_i_IsBoard_1 → Option (Sslices_IndexFunc_int_i_IsBoard_1 ⊕ (Int))
  | .h1 s0 f1 t2 t3 =>
    if t3 < t2 then
      if 0 ≤ t3 then
        Option.bind (s0[(Int.toNat t3)]?) fun x3 =>
        Option.bind (Di_IsBoard_1 x3 f1) fun r4 =>
        if r4 = true then
          some (.inr t3)
        else
          some (.inl (.h1 s0 f1 t2 (IntKind.wrap .i64 (t3 + 1))))
      else none
    else
      some (.inr (-1))
noncomputable def Dslices_IndexFunc_int_i_IsBoard_1 (a0 : (List Int)) (a100 : Gi_Board) : Option (Int) :=
  loop Bslices_IndexFunc_int_i_IsBoard_1 (.h1 a0 a100 ((a0.length : Nat) : Int) 0)
/-! slices ContainsFunc   int int  -/
noncomputable def Dslices_ContainsFunc_int_i_IsBoard_1 (a0 : (List Int)) (a100 : Gi_Board) : Option (Bool) :=
  Option.bind (Dslices_IndexFunc_int_i_IsBoard_1 a0 a100) fun r1 =>
  some (decide (r1 ≥ 0))
/-! loop example/g00886/impl IsBoard -/
noncomputable def Di_IsBoard (a0 : Gi_Board) : Option (Bool) :=
  Option.bind (Di_IsRules a0.Rules) fun r1 =>
  if r1 = true then
    Option.bind (Di_IsMap a0.Map) fun r3 =>
    if r3 = true then
      Option.bind (Dslices_ContainsFunc_int_i_IsBoard_1 a0.Map.Terrain a0) fun r5 =>
      some (!r5)
    else
      some false
  else
    some false
/-! loop example/g00886/impl isKindOf -/
noncomputable def Di_isKindOf (a0 : Gi_Board) (a1 : Int) : Option (Bool) :=
  Option.bind (Di_IsBoard a0) fun r1 =>
  if r1 = true then
    Option.bind (Di_isIndex a1 ((a0.Rules.Kinds.length : Nat) : Int)) fun r3 =>
    some r3
  else
    some false
/-! loop example/g00886/impl isWeather -/
noncomputable def Di_isWeather (a0 : Int) : Option (Bool) :=
  Option.bind (Di_inRange a0 0 2) fun r1 =>
  some r1
/-! loop example/g00886/impl sizeOf -/
noncomputable def Di_sizeOf (a0 : Gi_Board) : Option (Int) :=
  some ((a0.Map.Terrain.length : Nat) : Int)
/-! loop example/g00886/impl isMover -/
noncomputable def Di_isMover (a0 : Gi_Board) (a1 : Int) (a2 : Int) (a3 : Int) : Option (Bool) :=
  Option.bind (Di_isKindOf a0 a1) fun r1 =>
  if r1 = true then
    Option.bind (Di_isWeather a2) fun r3 =>
    if r3 = true then
      Option.bind (Di_sizeOf a0) fun r5 =>
      Option.bind (Di_isIndex a3 r5) fun r6 =>
      some r6
    else
      some false
  else
    some false
/-! loop example/g00886/impl terrainAt -/
noncomputable def Di_terrainAt (a0 : Gi_Board) (a1 : Int) : Option (Gi_Terrain) :=
  if 0 ≤ a1 then
    Option.bind (a0.Map.Terrain[(Int.toNat a1)]?) fun x2 =>
    if 0 ≤ x2 then
      Option.bind (a0.Rules.Terrains[(Int.toNat x2)]?) fun x4 =>
      some x4
    else none
  else none
/-! loop example/g00886/impl enterCost -/
noncomputable def Di_enterCost (a0 : Gi_Board) (a1 : Int) (a2 : Int) : Option (Int) :=
  Option.bind (Di_terrainAt a0 a2) fun r1 =>
  if 0 ≤ a1 then
    Option.bind (r1.Cost[(Int.toNat a1)]?) fun x3 =>
    some x3
  else none
/-! loop example/g00886/impl edgeOf -/
noncomputable def Di_edgeOf (a0 : Gi_Map) (a1 : Int) (a2 : Int) : Option (Int) :=
  Option.bind (Di_nextTo a0 a1 a2) fun r1 =>
  if r1 < 0 then
    some (-1)
  else
    if a2 < 3 then
      some (IntKind.wrap .i64 ((IntKind.wrap .i64 (3 * a1)) + a2))
    else
      some (IntKind.wrap .i64 ((IntKind.wrap .i64 ((IntKind.wrap .i64 (3 * r1)) + a2)) - 3))
/-! slices Index   int int  -/
inductive Sslices_Index_int where
  | h1 (s0 : (List Int)) (v1 : Int) (t2 : Int) (t3 : Int)
noncomputable def Bslices_Index_int : Sslices_Index_int → Option (Sslices_Index_int ⊕ (Int))
  | .h1 s0 v1 t2 t3 =>
    if t3 < t2 then
      if 0 ≤ t3 then
        Option.bind (s0[(Int.toNat t3)]?) fun x3 =>
        if (v1 : Int) = x3 then
          some (.inr t3)
        else
          some (.inl (.h1 s0 v1 t2 (IntKind.wrap .i64 (t3 + 1))))
      else none
    else
      some (.inr (-1))
noncomputable def Dslices_Index_int (a0 : (List Int)) (a1 : Int) : Option (Int) :=
  loop Bslices_Index_int (.h1 a0 a1 ((a0.length : Nat) : Int) 0)
/-! slices Contains   int int  -/
noncomputable def Dslices_Contains_int (a0 : (List Int)) (a1 : Int) : Option (Bool) :=
  Option.bind (Dslices_Index_int a0 a1) fun r1 =>
  some (decide (r1 ≥ 0))
/-! loop example/g00886/impl weatherCost -/
noncomputable def Di_weatherCost : Int → Bool → Option (Int)
  | a0, true =>
    if a0 > 0 then
      some (IntKind.wrap .i64 (a0 - 1))
    else
      some a0
  | a0, false =>
    some a0
/-! loop example/g00886/impl stepCost -/
noncomputable def Di_stepCost (a0 : Gi_Board) (a1 : Int) (a2 : Int) (a3 : Int) (a4 : Int) : Option (Int) :=
  Option.bind (Di_nextTo a0.Map a3 a4) fun r1 =>
  if r1 < 0 then
    some 0
  else
    Option.bind (Di_enterCost a0 a1 r1) fun r3 =>
    if (r3 : Int) = 0 then
      some 0
    else
      Option.bind (Di_edgeOf a0.Map a3 a4) fun r5 =>
      Option.bind (Dslices_Contains_int a0.Map.Roads r5) fun r6 =>
      if r6 = true then
        Option.bind (Di_weatherCost a2 true) fun r8 =>
        some (IntKind.wrap .i64 (a0.Rules.Road + r8))
      else
        Option.bind (Di_enterCost a0 a1 r1) fun r8 =>
        Option.bind (Di_weatherCost a2 false) fun r9 =>
        Option.bind (Dslices_Contains_int a0.Map.Rivers r5) fun r10 =>
        if r10 = true then
          some (IntKind.wrap .i64 ((IntKind.wrap .i64 (r8 + r9)) + a0.Rules.River))
        else
          some (IntKind.wrap .i64 (r8 + r9))
/-! loop example/g00886/impl relaxed -/
inductive Si_relaxed where
  | h1 (kind0 : Int) (weather1 : Int) (i2 : Int) (back3 : Bool) (vavoid4 : (List Int)) (t5 : Int) (t6 : Int) (b7 : Gi_Board) (l8 : (List Int))
  | h2 (kind0 : Int) (weather1 : Int) (back2 : Bool) (vavoid3 : (List Int)) (changed4 : Bool) (b5 : Gi_Board) (l6 : (List Int))
  | h3 (kind0 : Int) (weather1 : Int) (back2 : Bool) (vavoid3 : (List Int)) (changed4 : Bool) (t5 : Int) (t6 : Int) (b7 : Gi_Board) (l8 : (List Int))
  | h4 (kind0 : Int) (weather1 : Int) (back2 : Bool) (vavoid3 : (List Int)) (changed4 : Bool) (k5 : Int) (t6 : Int) (t7 : Int) (t8 : Int) (b9 : Gi_Board) (l10 : (List Int))
noncomputable def Bi_relaxed : Si_relaxed → Option (Si_relaxed ⊕ ((List Int)))
  | .h1 kind0 weather1 i2 back3 vavoid4 t5 t6 b7 l8 =>
    if t6 < t5 then
      if 0 ≤ t6 then
        Option.bind (l8[(Int.toNat t6)]?) fun x3 =>
        some (.inl (.h1 kind0 weather1 i2 back3 vavoid4 t5 (IntKind.wrap .i64 (t6 + 1)) b7 (List.set l8 (Int.toNat t6) (-1))))
      else none
    else
      if 0 ≤ i2 then
        Option.bind (l8[(Int.toNat i2)]?) fun x3 =>
        some (.inl (.h2 kind0 weather1 back3 vavoid4 true b7 (List.set l8 (Int.toNat i2) 0)))
      else none
  | .h2 kind0 weather1 back2 vavoid3 true b5 l6 =>
    some (.inl (.h3 kind0 weather1 back2 vavoid3 false ((l6.length : Nat) : Int) 0 b5 l6))
  | .h2 kind0 weather1 back2 vavoid3 false b5 l6 =>
    some (.inr l6)
  | .h3 kind0 weather1 back2 vavoid3 changed4 t5 t6 b7 l8 =>
    if t6 < t5 then
      some (.inl (.h4 kind0 weather1 back2 vavoid3 changed4 t6 t5 t6 0 b7 l8))
    else
      some (.inl (.h2 kind0 weather1 back2 vavoid3 changed4 b7 l8))
  | .h4 kind0 weather1 true vavoid3 changed4 k5 t6 t7 t8 b9 l10 =>
    if t8 < 6 then
      Option.bind (Di_stepCost b9 kind0 weather1 k5 t8) fun r2 =>
      if (r2 : Int) = 0 then
        some (.inl (.h4 kind0 weather1 true vavoid3 changed4 k5 t6 t7 (IntKind.wrap .i64 (t8 + 1)) b9 l10))
      else
        Option.bind (Di_nextTo b9.Map k5 t8) fun r4 =>
        Option.bind (Dslices_Contains_int vavoid3 r4) fun r5 =>
        if r5 = true then
          some (.inl (.h4 kind0 weather1 true vavoid3 changed4 k5 t6 t7 (IntKind.wrap .i64 (t8 + 1)) b9 l10))
        else
          if 0 ≤ r4 then
            Option.bind (l10[(Int.toNat r4)]?) fun x8 =>
            if x8 ≥ 0 then
              if 0 ≤ k5 then
                Option.bind (l10[(Int.toNat k5)]?) fun x11 =>
                if x11 < 0 then
                  if 0 ≤ r4 then
                    Option.bind (l10[(Int.toNat r4)]?) fun x14 =>
                    if 0 ≤ k5 then
                      Option.bind (l10[(Int.toNat k5)]?) fun x16 =>
                      some (.inl (.h4 kind0 weather1 true vavoid3 true k5 t6 t7 (IntKind.wrap .i64 (t8 + 1)) b9 (List.set l10 (Int.toNat k5) (IntKind.wrap .i64 (x14 + r2)))))
                    else none
                  else none
                else
                  if 0 ≤ r4 then
                    Option.bind (l10[(Int.toNat r4)]?) fun x14 =>
                    if 0 ≤ k5 then
                      Option.bind (l10[(Int.toNat k5)]?) fun x16 =>
                      if (IntKind.wrap .i64 (x14 + r2)) < x16 then
                        if 0 ≤ r4 then
                          Option.bind (l10[(Int.toNat r4)]?) fun x19 =>
                          if 0 ≤ k5 then
                            Option.bind (l10[(Int.toNat k5)]?) fun x21 =>
                            some (.inl (.h4 kind0 weather1 true vavoid3 true k5 t6 t7 (IntKind.wrap .i64 (t8 + 1)) b9 (List.set l10 (Int.toNat k5) (IntKind.wrap .i64 (x19 + r2)))))
                          else none
                        else none
                      else
                        some (.inl (.h4 kind0 weather1 true vavoid3 changed4 k5 t6 t7 (IntKind.wrap .i64 (t8 + 1)) b9 l10))
                    else none
                  else none
              else none
            else
              some (.inl (.h4 kind0 weather1 true vavoid3 changed4 k5 t6 t7 (IntKind.wrap .i64 (t8 + 1)) b9 l10))
          else none
    else
      some (.inl (.h3 kind0 weather1 true vavoid3 changed4 t6 (IntKind.wrap .i64 (t7 + 1)) b9 l10))
  | .h4 kind0 weather1 false vavoid3 changed4 k5 t6 t7 t8 b9 l10 =>
    if t8 < 6 then
      Option.bind (Di_stepCost b9 kind0 weather1 k5 t8) fun r2 =>
      if (r2 : Int) = 0 then
        some (.inl (.h4 kind0 weather1 false vavoid3 changed4 k5 t6 t7 (IntKind.wrap .i64 (t8 + 1)) b9 l10))
      else
        Option.bind (Di_nextTo b9.Map k5 t8) fun r4 =>
        Option.bind (Dslices_Contains_int vavoid3 r4) fun r5 =>
        if r5 = true then
          some (.inl (.h4 kind0 weather1 false vavoid3 changed4 k5 t6 t7 (IntKind.wrap .i64 (t8 + 1)) b9 l10))
        else
          if 0 ≤ k5 then
            Option.bind (l10[(Int.toNat k5)]?) fun x8 =>
            if x8 ≥ 0 then
              if 0 ≤ r4 then
                Option.bind (l10[(Int.toNat r4)]?) fun x11 =>
                if x11 < 0 then
                  if 0 ≤ k5 then
                    Option.bind (l10[(Int.toNat k5)]?) fun x14 =>
                    if 0 ≤ r4 then
                      Option.bind (l10[(Int.toNat r4)]?) fun x16 =>
                      some (.inl (.h4 kind0 weather1 false vavoid3 true k5 t6 t7 (IntKind.wrap .i64 (t8 + 1)) b9 (List.set l10 (Int.toNat r4) (IntKind.wrap .i64 (x14 + r2)))))
                    else none
                  else none
                else
                  if 0 ≤ k5 then
                    Option.bind (l10[(Int.toNat k5)]?) fun x14 =>
                    if 0 ≤ r4 then
                      Option.bind (l10[(Int.toNat r4)]?) fun x16 =>
                      if (IntKind.wrap .i64 (x14 + r2)) < x16 then
                        if 0 ≤ k5 then
                          Option.bind (l10[(Int.toNat k5)]?) fun x19 =>
                          if 0 ≤ r4 then
                            Option.bind (l10[(Int.toNat r4)]?) fun x21 =>
                            some (.inl (.h4 kind0 weather1 false vavoid3 true k5 t6 t7 (IntKind.wrap .i64 (t8 + 1)) b9 (List.set l10 (Int.toNat r4) (IntKind.wrap .i64 (x19 + r2)))))
                          else none
                        else none
                      else
                        some (.inl (.h4 kind0 weather1 false vavoid3 changed4 k5 t6 t7 (IntKind.wrap .i64 (t8 + 1)) b9 l10))
                    else none
                  else none
              else none
            else
              some (.inl (.h4 kind0 weather1 false vavoid3 changed4 k5 t6 t7 (IntKind.wrap .i64 (t8 + 1)) b9 l10))
          else none
    else
      some (.inl (.h3 kind0 weather1 false vavoid3 changed4 t6 (IntKind.wrap .i64 (t7 + 1)) b9 l10))
noncomputable def Di_relaxed (a0 : Gi_Board) (a1 : Int) (a2 : Int) (a3 : Int) (a4 : Bool) (a5 : (List Int)) : Option ((List Int)) :=
  Option.bind (Di_sizeOf a0) fun r1 =>
  if 0 ≤ r1 then
    if Int.toNat r1 * 8 ≤ 140737488355328 then
      loop Bi_relaxed (.h1 a1 a2 a3 a4 a5 (((List.replicate (Int.toNat r1) (0 : Int)).length : Nat) : Int) 0 a0 (List.replicate (Int.toNat r1) (0 : Int)))
    else none
  else none
/-! loop example/g00886/impl ReachOf 1 -/
noncomputable def Di_ReachOf_1 (a0 : Int) (a1 : (List Int)) (a2 : Int) : Option (Bool) :=
  if 0 ≤ a0 then
    Option.bind (a1[(Int.toNat a0)]?) fun x2 =>
    Option.bind (Di_inRange x2 0 a2) fun r3 =>
    some r3
  else none
/-! loop example/g00886/impl hexesThat -/
inductive Si_hexesThat_i_ReachOf_1 where
  | h1 (fit0 : (List Int)) (fit1 : Int) (t2 : Int) (t3 : Int) (l4 : (List Int))
noncomputable def Bi_hexesThat_i_ReachOf_1 : Si_hexesThat_i_ReachOf_1 → Option (Si_hexesThat_i_ReachOf_1 ⊕ ((List Int)))
  | .h1 fit0 fit1 t2 t3 l4 =>
    if t3 < t2 then
      Option.bind (Di_ReachOf_1 t3 fit0 fit1) fun r2 =>
      if r2 = true then
        if (l4 ++ [t3]).length * 8 ≤ 70368744177664 then
          some (.inl (.h1 fit0 fit1 t2 (IntKind.wrap .i64 (t3 + 1)) (l4 ++ [t3])))
        else none
      else
        some (.inl (.h1 fit0 fit1 t2 (IntKind.wrap .i64 (t3 + 1)) l4))
    else
      some (.inr l4)
noncomputable def Di_hexesThat_i_ReachOf_1 (a0 : Gi_Board) (a100 : (List Int)) (a101 : Int) : Option ((List Int)) :=
  loop Bi_hexesThat_i_ReachOf_1 (.h1 a100 a101 ((a0.Map.Terrain.length : Nat) : Int) 0 ([] : List Int))
/-! loop example/g00886/impl ReachOf -/
noncomputable def Di_ReachOf (a0 : Gi_Board) (a1 : Int) (a2 : Int) (a3 : Int) (a4 : Int) : Option ((List Int) × Bool) :=
  Option.bind (Di_isMover a0 a1 a2 a3) fun r1 =>
  if r1 = true then
    Option.bind (Di_inRange a4 0 1000) fun r3 =>
    if r3 = true then
      Option.bind (Di_relaxed a0 a1 a2 a3 false []) fun r5 =>
      Option.bind (Di_hexesThat_i_ReachOf_1 a0 r5 a4) fun r6 =>
      some (r6, true)
    else
      some ([], false)
  else
    some ([], false)
/-! loop example/g00886/spec rName -/
inductive Ss_rName where
  | h1 (s0 : ByteArray) (i1 : Int)
noncomputable def Bs_rName : Ss_rName → Option (Ss_rName ⊕ (Bool))
  | .h1 s0 i1 =>
    if i1 < ((ByteArray.size s0 : Nat) : Int) then
      if 0 ≤ i1 then
        if i1 < (ByteArray.size s0 : Int) then
          if ((byteAt s0 (Int.toNat i1) : Nat) : Int) < 97 then
            some (.inr false)
          else
            if 0 ≤ i1 then
              if i1 < (ByteArray.size s0 : Int) then
                if ((byteAt s0 (Int.toNat i1) : Nat) : Int) > 122 then
                  some (.inr false)
                else
                  some (.inl (.h1 s0 (IntKind.wrap .i64 (i1 + 1))))
              else none
            else none
        else none
      else none
    else
      Option.bind (Ds_l1In ((ByteArray.size s0 : Nat) : Int) 1 8) fun r2 =>
      some (.inr r2)
noncomputable def Ds_rName (a0 : ByteArray) : Option (Bool) :=
  loop Bs_rName (.h1 a0 0)
/-! loop example/g00886/spec rTerrain -/
inductive Ss_rTerrain where
  | h1 (name0 : ByteArray) (t1 : (List Gi_Terrain)) (t2 : Int) (t3 : Int)
noncomputable def Bs_rTerrain : Ss_rTerrain → Option (Ss_rTerrain ⊕ (Int))
  | .h1 name0 t1 t2 t3 =>
    if t3 < t2 then
      if 0 ≤ t3 then
        Option.bind (t1[(Int.toNat t3)]?) fun x3 =>
        if x3.Name = name0 then
          some (.inr t3)
        else
          some (.inl (.h1 name0 t1 t2 (IntKind.wrap .i64 (t3 + 1))))
      else none
    else
      some (.inr (-1))
noncomputable def Ds_rTerrain (a0 : (List Gi_Terrain)) (a1 : ByteArray) : Option (Int) :=
  loop Bs_rTerrain (.h1 a1 a0 ((a0.length : Nat) : Int) 0)
/-! loop example/g00886/spec l1All -/
inductive Ss_l1All where
  | h1 (lo0 : Int) (vhi1 : Int) (t2 : (List Int)) (t3 : Int) (t4 : Int)
noncomputable def Bs_l1All : Ss_l1All → Option (Ss_l1All ⊕ (Bool))
  | .h1 lo0 vhi1 t2 t3 t4 =>
    if t4 < t3 then
      if 0 ≤ t4 then
        Option.bind (t2[(Int.toNat t4)]?) fun x3 =>
        Option.bind (Ds_l1In x3 lo0 vhi1) fun r4 =>
        if r4 = true then
          some (.inl (.h1 lo0 vhi1 t2 t3 (IntKind.wrap .i64 (t4 + 1))))
        else
          some (.inr false)
      else none
    else
      some (.inr true)
noncomputable def Ds_l1All (a0 : (List Int)) (a1 : Int) (a2 : Int) : Option (Bool) :=
  loop Bs_l1All (.h1 a1 a2 a0 ((a0.length : Nat) : Int) 0)
/-! loop example/g00886/spec rKind -/
inductive Ss_rKind where
  | h1 (name0 : ByteArray) (t1 : (List Gi_Kind)) (t2 : Int) (t3 : Int)
noncomputable def Bs_rKind : Ss_rKind → Option (Ss_rKind ⊕ (Int))
  | .h1 name0 t1 t2 t3 =>
    if t3 < t2 then
      if 0 ≤ t3 then
        Option.bind (t1[(Int.toNat t3)]?) fun x3 =>
        if x3.Name = name0 then
          some (.inr t3)
        else
          some (.inl (.h1 name0 t1 t2 (IntKind.wrap .i64 (t3 + 1))))
      else none
    else
      some (.inr (-1))
noncomputable def Ds_rKind (a0 : (List Gi_Kind)) (a1 : ByteArray) : Option (Int) :=
  loop Bs_rKind (.h1 a1 a0 ((a0.length : Nat) : Int) 0)
/-! loop example/g00886/spec rGood -/
inductive Ss_rGood where
  | h1 (t0 : (List Gi_Terrain)) (t1 : Int) (t2 : Int) (b3 : Gi_Rules)
  | h2 (t0 : (List Gi_Kind)) (t1 : Int) (t2 : Int) (b3 : Gi_Rules)
noncomputable def Bs_rGood : Ss_rGood → Option (Ss_rGood ⊕ (Bool))
  | .h1 t0 t1 t2 b3 =>
    if t2 < t1 then
      if 0 ≤ t2 then
        Option.bind (t0[(Int.toNat t2)]?) fun x3 =>
        Option.bind (Ds_rName x3.Name) fun r4 =>
        if r4 = true then
          Option.bind (Ds_rTerrain b3.Terrains x3.Name) fun r6 =>
          if (r6 : Int) = t2 then
            if (((x3.Cost.length : Nat) : Int) : Int) = ((b3.Kinds.length : Nat) : Int) then
              Option.bind (Ds_l1All x3.Cost 0 9) fun r9 =>
              if r9 = true then
                Option.bind (Ds_l1In x3.Shift (-3) 3) fun r11 =>
                if r11 = true then
                  Option.bind (Ds_l1In x3.Height 0 3) fun r13 =>
                  if r13 = true then
                    some (.inl (.h1 t0 t1 (IntKind.wrap .i64 (t2 + 1)) b3))
                  else
                    some (.inr false)
                else
                  some (.inr false)
              else
                some (.inr false)
            else
              some (.inr false)
          else
            some (.inr false)
        else
          some (.inr false)
      else none
    else
      some (.inl (.h2 b3.Kinds ((b3.Kinds.length : Nat) : Int) 0 b3))
  | .h2 t0 t1 t2 b3 =>
    if t2 < t1 then
      if 0 ≤ t2 then
        Option.bind (t0[(Int.toNat t2)]?) fun x3 =>
        Option.bind (Ds_rName x3.Name) fun r4 =>
        if r4 = true then
          Option.bind (Ds_rKind b3.Kinds x3.Name) fun r6 =>
          if (r6 : Int) = t2 then
            Option.bind (Ds_l1In x3.Strength 1 9) fun r8 =>
            if r8 = true then
              Option.bind (Ds_l1In x3.Moves 0 9) fun r10 =>
              if r10 = true then
                Option.bind (Ds_l1In x3.Steps 1 4) fun r12 =>
                if r12 = true then
                  Option.bind (Ds_l1In x3.View 0 4) fun r14 =>
                  if r14 = true then
                    some (.inl (.h2 t0 t1 (IntKind.wrap .i64 (t2 + 1)) b3))
                  else
                    some (.inr false)
                else
                  some (.inr false)
              else
                some (.inr false)
            else
              some (.inr false)
          else
            some (.inr false)
        else
          some (.inr false)
      else none
    else
      Option.bind (Ds_l1In b3.Stack 1 4) fun r2 =>
      if r2 = true then
        Option.bind (Ds_l1In b3.River 0 9) fun r4 =>
        if r4 = true then
          Option.bind (Ds_l1In b3.Road 1 9) fun r6 =>
          if r6 = true then
            Option.bind (Ds_l1In b3.Supply 0 20) fun r8 =>
            if r8 = true then
              Option.bind (Ds_l1In b3.Turns 1 30) fun r10 =>
              some (.inr r10)
            else
              some (.inr false)
          else
            some (.inr false)
        else
          some (.inr false)
      else
        some (.inr false)
noncomputable def Ds_rGood (a0 : Gi_Rules) : Option (Bool) :=
  Option.bind (Ds_l1In ((a0.Terrains.length : Nat) : Int) 1 6) fun r1 =>
  if r1 = true then
    Option.bind (Ds_l1In ((a0.Kinds.length : Nat) : Int) 1 4) fun r3 =>
    if r3 = true then
      loop Bs_rGood (.h1 a0.Terrains ((a0.Terrains.length : Nat) : Int) 0 a0)
    else
      some false
  else
    some false
/-! loop example/g00886/spec l1Rising -/
inductive Ss_l1Rising where
  | h1 (l0 : (List Int)) (lo1 : Int) (vhi2 : Int) (t3 : (List Int)) (t4 : Int) (t5 : Int)
noncomputable def Bs_l1Rising : Ss_l1Rising → Option (Ss_l1Rising ⊕ (Bool))
  | .h1 l0 lo1 vhi2 t3 t4 t5 =>
    if t5 < t4 then
      if 0 ≤ t5 then
        Option.bind (t3[(Int.toNat t5)]?) fun x3 =>
        Option.bind (Ds_l1In x3 lo1 vhi2) fun r4 =>
        if r4 = true then
          if t5 > 0 then
            if 0 ≤ (IntKind.wrap .i64 (t5 - 1)) then
              Option.bind (l0[(Int.toNat (IntKind.wrap .i64 (t5 - 1)))]?) fun x8 =>
              if x8 ≥ x3 then
                some (.inr false)
              else
                some (.inl (.h1 l0 lo1 vhi2 t3 t4 (IntKind.wrap .i64 (t5 + 1))))
            else none
          else
            some (.inl (.h1 l0 lo1 vhi2 t3 t4 (IntKind.wrap .i64 (t5 + 1))))
        else
          some (.inr false)
      else none
    else
      some (.inr true)
noncomputable def Ds_l1Rising (a0 : (List Int)) (a1 : Int) (a2 : Int) : Option (Bool) :=
  loop Bs_l1Rising (.h1 a0 a1 a2 a0 ((a0.length : Nat) : Int) 0)
/-! loop example/g00886/spec mEdges -/
inductive Ss_mEdges where
  | h1 (l0 : (List Int)) (t1 : (List Int)) (t2 : Int) (t3 : Int) (b4 : Gi_Map)
noncomputable def Bs_mEdges : Ss_mEdges → Option (Ss_mEdges ⊕ (Bool))
  | .h1 l0 t1 t2 t3 b4 =>
    if t3 < t2 then
      if 0 ≤ t3 then
        Option.bind (t1[(Int.toNat t3)]?) fun x3 =>
        Option.bind (Ds_mSize b4) fun r4 =>
        Option.bind (Ds_l1In x3 0 (IntKind.wrap .i64 ((IntKind.wrap .i64 (3 * r4)) - 1))) fun r5 =>
        if r5 = true then
          Option.bind (Ds_mNext b4 (IntKind.wrap .i64 (Int.tdiv x3 3)) (Int.tmod x3 3)) fun r7 =>
          if r7 < 0 then
            some (.inr false)
          else
            some (.inl (.h1 l0 t1 t2 (IntKind.wrap .i64 (t3 + 1)) b4))
        else
          some (.inr false)
      else none
    else
      Option.bind (Ds_mSize b4) fun r2 =>
      Option.bind (Ds_l1Rising l0 0 (IntKind.wrap .i64 ((IntKind.wrap .i64 (3 * r2)) - 1))) fun r3 =>
      some (.inr r3)
noncomputable def Ds_mEdges (a0 : Gi_Map) (a1 : (List Int)) : Option (Bool) :=
  loop Bs_mEdges (.h1 a1 a1 ((a1.length : Nat) : Int) 0 a0)
/-! loop example/g00886/spec mGood -/
noncomputable def Ds_mGood (a0 : Gi_Map) : Option (Bool) :=
  Option.bind (Ds_l1In a0.Width 1 10) fun r1 =>
  if r1 = true then
    Option.bind (Ds_l1In a0.Height 1 10) fun r3 =>
    if r3 = true then
      Option.bind (Ds_mSize a0) fun r5 =>
      if (((a0.Terrain.length : Nat) : Int) : Int) = r5 then
        Option.bind (Ds_l1All a0.Terrain 0 5) fun r7 =>
        if r7 = true then
          Option.bind (Ds_mEdges a0 a0.Rivers) fun r9 =>
          if r9 = true then
            Option.bind (Ds_mEdges a0 a0.Roads) fun r11 =>
            some r11
          else
            some false
        else
          some false
      else
        some false
    else
      some false
  else
    some false
/-! loop example/g00886/spec bGood -/
noncomputable def Ds_bGood (a0 : Gi_Board) : Option (Bool) :=
  Option.bind (Ds_rGood a0.Rules) fun r1 =>
  if r1 = true then
    Option.bind (Ds_mGood a0.Map) fun r3 =>
    if r3 = true then
      Option.bind (Ds_l1All a0.Map.Terrain 0 (IntKind.wrap .i64 (((a0.Rules.Terrains.length : Nat) : Int) - 1))) fun r5 =>
      some r5
    else
      some false
  else
    some false
/-! loop example/g00886/spec bAt -/
noncomputable def Ds_bAt (a0 : Gi_Board) (a1 : Int) (a2 : Int) : Option (Bool) :=
  Option.bind (Ds_bGood a0) fun r1 =>
  if r1 = true then
    Option.bind (Ds_l1In a1 0 (IntKind.wrap .i64 (((a0.Rules.Kinds.length : Nat) : Int) - 1))) fun r3 =>
    if r3 = true then
      Option.bind (Ds_mSize a0.Map) fun r5 =>
      Option.bind (Ds_l1In a2 0 (IntKind.wrap .i64 (r5 - 1))) fun r6 =>
      some r6
    else
      some false
  else
    some false
/-! loop example/g00886/spec pAsked -/
noncomputable def Ds_pAsked (a0 : Gi_Board) (a1 : Int) (a2 : Int) (a3 : Int) : Option (Bool) :=
  Option.bind (Ds_bAt a0 a1 a3) fun r1 =>
  if r1 = true then
    Option.bind (Ds_l1In a2 0 2) fun r3 =>
    some r3
  else
    some false
/-! loop example/g00886/spec bTerrain -/
noncomputable def Ds_bTerrain (a0 : Gi_Board) (a1 : Int) : Option (Gi_Terrain) :=
  if 0 ≤ a1 then
    Option.bind (a0.Map.Terrain[(Int.toNat a1)]?) fun x2 =>
    if 0 ≤ x2 then
      Option.bind (a0.Rules.Terrains[(Int.toNat x2)]?) fun x4 =>
      some x4
    else none
  else none
/-! loop example/g00886/spec bCost -/
noncomputable def Ds_bCost (a0 : Gi_Board) (a1 : Int) (a2 : Int) : Option (Int) :=
  Option.bind (Ds_bTerrain a0 a2) fun r1 =>
  if 0 ≤ a1 then
    Option.bind (r1.Cost[(Int.toNat a1)]?) fun x3 =>
    some x3
  else none
/-! loop example/g00886/spec l1Has -/
inductive Ss_l1Has where
  | h1 (n0 : Int) (t1 : (List Int)) (t2 : Int) (t3 : Int)
noncomputable def Bs_l1Has : Ss_l1Has → Option (Ss_l1Has ⊕ (Bool))
  | .h1 n0 t1 t2 t3 =>
    if t3 < t2 then
      if 0 ≤ t3 then
        Option.bind (t1[(Int.toNat t3)]?) fun x3 =>
        if (x3 : Int) = n0 then
          some (.inr true)
        else
          some (.inl (.h1 n0 t1 t2 (IntKind.wrap .i64 (t3 + 1))))
      else none
    else
      some (.inr false)
noncomputable def Ds_l1Has (a0 : (List Int)) (a1 : Int) : Option (Bool) :=
  loop Bs_l1Has (.h1 a1 a0 ((a0.length : Nat) : Int) 0)
/-! loop example/g00886/spec mRoad -/
noncomputable def Ds_mRoad (a0 : Gi_Map) (a1 : Int) (a2 : Int) : Option (Bool) :=
  Option.bind (Ds_mEdge a0 a1 a2) fun r1 =>
  Option.bind (Ds_l1Has a0.Roads r1) fun r2 =>
  some r2
/-! loop example/g00886/spec csWeather -/
noncomputable def Ds_csWeather : Int → Bool → Option (Int)
  | a0, true =>
    some (IntKind.wrap .i64 (Int.tdiv a0 2))
  | a0, false =>
    some a0
/-! loop example/g00886/spec mRiver -/
noncomputable def Ds_mRiver (a0 : Gi_Map) (a1 : Int) (a2 : Int) : Option (Bool) :=
  Option.bind (Ds_mEdge a0 a1 a2) fun r1 =>
  Option.bind (Ds_l1Has a0.Rivers r1) fun r2 =>
  some r2
/-! loop example/g00886/spec cStep -/
noncomputable def Ds_cStep (a0 : Gi_Board) (a1 : Int) (a2 : Int) (a3 : Int) (a4 : Int) : Option (Int) :=
  Option.bind (Ds_mNext a0.Map a2 a3) fun r1 =>
  if r1 < 0 then
    some 0
  else
    Option.bind (Ds_bCost a0 a1 r1) fun r3 =>
    if (r3 : Int) = 0 then
      some 0
    else
      Option.bind (Ds_mRoad a0.Map a2 a3) fun r5 =>
      if r5 = true then
        Option.bind (Ds_csWeather a4 true) fun r7 =>
        some (IntKind.wrap .i64 (a0.Rules.Road + r7))
      else
        Option.bind (Ds_bCost a0 a1 r1) fun r7 =>
        Option.bind (Ds_csWeather a4 false) fun r8 =>
        Option.bind (Ds_mRiver a0.Map a2 a3) fun r9 =>
        if r9 = true then
          some (IntKind.wrap .i64 ((IntKind.wrap .i64 (r7 + r8)) + a0.Rules.River))
        else
          some (IntKind.wrap .i64 (r7 + r8))
/-! loop example/g00886/spec pFrom -/
inductive Ss_pFrom where
  | h1 (kind0 : Int) (weather1 : Int) (i2 : Int) (vavoid3 : (List Int)) (t4 : Int) (t5 : Int) (b6 : Gi_Board) (l7 : (List Int)) (l8 : (List Bool))
  | h2 (kind0 : Int) (weather1 : Int) (vavoid2 : (List Int)) (b3 : Gi_Board) (l4 : (List Int)) (l5 : (List Bool))
  | h3 (kind0 : Int) (weather1 : Int) (vavoid2 : (List Int)) (best3 : Int) (t4 : Int) (t5 : Int) (b6 : Gi_Board) (l7 : (List Int)) (l8 : (List Bool))
  | h4 (kind0 : Int) (weather1 : Int) (vavoid2 : (List Int)) (best3 : Int) (d4 : Int) (b5 : Gi_Board) (l6 : (List Int)) (l7 : (List Bool))
noncomputable def Bs_pFrom : Ss_pFrom → Option (Ss_pFrom ⊕ ((List Int)))
  | .h1 kind0 weather1 i2 vavoid3 t4 t5 b6 l7 l8 =>
    if t5 < t4 then
      if 0 ≤ t5 then
        Option.bind (l7[(Int.toNat t5)]?) fun x3 =>
        some (.inl (.h1 kind0 weather1 i2 vavoid3 t4 (IntKind.wrap .i64 (t5 + 1)) b6 (List.set l7 (Int.toNat t5) (-1)) l8))
      else none
    else
      if 0 ≤ i2 then
        Option.bind (l7[(Int.toNat i2)]?) fun x3 =>
        some (.inl (.h2 kind0 weather1 vavoid3 b6 (List.set l7 (Int.toNat i2) 0) l8))
      else none
  | .h2 kind0 weather1 vavoid2 b3 l4 l5 =>
    some (.inl (.h3 kind0 weather1 vavoid2 (-1) ((l4.length : Nat) : Int) 0 b3 l4 l5))
  | .h3 kind0 weather1 vavoid2 best3 t4 t5 b6 l7 l8 =>
    if t5 < t4 then
      if 0 ≤ t5 then
        Option.bind (l7[(Int.toNat t5)]?) fun x3 =>
        if x3 ≥ 0 then
          if 0 ≤ t5 then
            Option.bind (l8[(Int.toNat t5)]?) fun x6 =>
            if x6 = true then
              some (.inl (.h3 kind0 weather1 vavoid2 best3 t4 (IntKind.wrap .i64 (t5 + 1)) b6 l7 l8))
            else
              if best3 < 0 then
                some (.inl (.h3 kind0 weather1 vavoid2 t5 t4 (IntKind.wrap .i64 (t5 + 1)) b6 l7 l8))
              else
                if 0 ≤ best3 then
                  Option.bind (l7[(Int.toNat best3)]?) fun x10 =>
                  if x3 < x10 then
                    some (.inl (.h3 kind0 weather1 vavoid2 t5 t4 (IntKind.wrap .i64 (t5 + 1)) b6 l7 l8))
                  else
                    some (.inl (.h3 kind0 weather1 vavoid2 best3 t4 (IntKind.wrap .i64 (t5 + 1)) b6 l7 l8))
                else none
          else none
        else
          some (.inl (.h3 kind0 weather1 vavoid2 best3 t4 (IntKind.wrap .i64 (t5 + 1)) b6 l7 l8))
      else none
    else
      if best3 < 0 then
        some (.inr l7)
      else
        if 0 ≤ best3 then
          Option.bind (l8[(Int.toNat best3)]?) fun x4 =>
          some (.inl (.h4 kind0 weather1 vavoid2 best3 0 b6 l7 (List.set l8 (Int.toNat best3) true)))
        else none
  | .h4 kind0 weather1 vavoid2 best3 d4 b5 l6 l7 =>
    if d4 < 6 then
      Option.bind (Ds_cStep b5 kind0 best3 d4 weather1) fun r2 =>
      if (r2 : Int) = 0 then
        some (.inl (.h4 kind0 weather1 vavoid2 best3 (IntKind.wrap .i64 (d4 + 1)) b5 l6 l7))
      else
        Option.bind (Ds_mNext b5.Map best3 d4) fun r4 =>
        if 0 ≤ best3 then
          Option.bind (l6[(Int.toNat best3)]?) fun x6 =>
          Option.bind (Ds_l1Has vavoid2 r4) fun r7 =>
          if r7 = true then
            some (.inl (.h4 kind0 weather1 vavoid2 best3 (IntKind.wrap .i64 (d4 + 1)) b5 l6 l7))
          else
            if 0 ≤ r4 then
              Option.bind (l6[(Int.toNat r4)]?) fun x10 =>
              if x10 < 0 then
                if 0 ≤ r4 then
                  Option.bind (l6[(Int.toNat r4)]?) fun x13 =>
                  some (.inl (.h4 kind0 weather1 vavoid2 best3 (IntKind.wrap .i64 (d4 + 1)) b5 (List.set l6 (Int.toNat r4) (IntKind.wrap .i64 (x6 + r2))) l7))
                else none
              else
                if 0 ≤ r4 then
                  Option.bind (l6[(Int.toNat r4)]?) fun x13 =>
                  if (IntKind.wrap .i64 (x6 + r2)) < x13 then
                    if 0 ≤ r4 then
                      Option.bind (l6[(Int.toNat r4)]?) fun x16 =>
                      some (.inl (.h4 kind0 weather1 vavoid2 best3 (IntKind.wrap .i64 (d4 + 1)) b5 (List.set l6 (Int.toNat r4) (IntKind.wrap .i64 (x6 + r2))) l7))
                    else none
                  else
                    some (.inl (.h4 kind0 weather1 vavoid2 best3 (IntKind.wrap .i64 (d4 + 1)) b5 l6 l7))
                else none
            else none
        else none
    else
      some (.inl (.h2 kind0 weather1 vavoid2 b5 l6 l7))
noncomputable def Ds_pFrom (a0 : Gi_Board) (a1 : Int) (a2 : Int) (a3 : Int) (a4 : (List Int)) : Option ((List Int)) :=
  Option.bind (Ds_mSize a0.Map) fun r1 =>
  if 0 ≤ r1 then
    if Int.toNat r1 * 8 ≤ 140737488355328 then
      if Int.toNat (((List.replicate (Int.toNat r1) (0 : Int)).length : Nat) : Int) * 1 ≤ 140737488355328 then
        loop Bs_pFrom (.h1 a1 a2 a3 a4 (((List.replicate (Int.toNat r1) (0 : Int)).length : Nat) : Int) 0 a0 (List.replicate (Int.toNat r1) (0 : Int)) (List.replicate (Int.toNat (((List.replicate (Int.toNat r1) (0 : Int)).length : Nat) : Int)) false))
      else none
    else none
  else none
/-! loop example/g00886/spec ReachOf -/
inductive Ss_ReachOf where
  | h1 (moves0 : Int) (t1 : Int) (t2 : Int) (l3 : (List Int)) (l4 : (List Int))
noncomputable def Bs_ReachOf : Ss_ReachOf → Option (Ss_ReachOf ⊕ ((List Int) × Bool))
  | .h1 moves0 t1 t2 l3 l4 =>
    if t2 < t1 then
      if 0 ≤ t2 then
        Option.bind (l4[(Int.toNat t2)]?) fun x3 =>
        Option.bind (Ds_l1In x3 0 moves0) fun r4 =>
        if r4 = true then
          if (l3 ++ [t2]).length * 8 ≤ 70368744177664 then
            some (.inl (.h1 moves0 t1 (IntKind.wrap .i64 (t2 + 1)) (l3 ++ [t2]) l4))
          else none
        else
          some (.inl (.h1 moves0 t1 (IntKind.wrap .i64 (t2 + 1)) l3 l4))
      else none
    else
      some (.inr (l3, true))
noncomputable def Ds_ReachOf (a0 : Gi_Board) (a1 : Int) (a2 : Int) (a3 : Int) (a4 : Int) : Option ((List Int) × Bool) :=
  Option.bind (Ds_pAsked a0 a1 a2 a3) fun r1 =>
  if r1 = true then
    Option.bind (Ds_l1In a4 0 1000) fun r3 =>
    if r3 = true then
      Option.bind (Ds_pFrom a0 a1 a2 a3 []) fun r5 =>
      loop Bs_ReachOf (.h1 a4 ((r5.length : Nat) : Int) 0 ([] : List Int) r5)
    else
      some ([], false)
  else
    some ([], false)
/-! loop example/g00886/laws sameInts -/
inductive Sw_sameInts where
  | h1 (va0 : (List Int)) (b1 : (List Int)) (t2 : Int) (t3 : Int)
noncomputable def Bw_sameInts : Sw_sameInts → Option (Sw_sameInts ⊕ (Bool))
  | .h1 va0 b1 t2 t3 =>
    if t3 < t2 then
      if 0 ≤ t3 then
        Option.bind (va0[(Int.toNat t3)]?) fun x3 =>
        if 0 ≤ t3 then
          Option.bind (b1[(Int.toNat t3)]?) fun x5 =>
          if (x3 : Int) = x5 then
            some (.inl (.h1 va0 b1 t2 (IntKind.wrap .i64 (t3 + 1))))
          else
            some (.inr false)
        else none
      else none
    else
      some (.inr true)
noncomputable def Dw_sameInts (a0 : (List Int)) (a1 : (List Int)) : Option (Bool) :=
  if (((a0.length : Nat) : Int) : Int) = ((a1.length : Nat) : Int) then
    loop Bw_sameInts (.h1 a0 a1 ((a0.length : Nat) : Int) 0)
  else
    some false
/-! loop example/g00886/spec DrawDetourCost -/
inductive Ss_DrawDetourCost where
  | h1 (kind0 : Int) (weather1 : Int) (i2 : Int) (k3 : Int) (vx4 : Int) (b5 : Int) (b6 : Int) (b7 : Int) (b8 : Int) (b9 : Int) (b10 : Int) (b11 : Int) (b12 : Gs_l1Cur) (b13 : Gi_Board) (l14 : (List Int))
noncomputable def Bs_DrawDetourCost : Ss_DrawDetourCost → Option (Ss_DrawDetourCost ⊕ (Gi_Board × Int × Int × Int × Int × (List Int)))
  | .h1 kind0 weather1 i2 k3 vx4 b5 b6 b7 b8 b9 b10 b11 b12 b13 l14 =>
    Option.bind (Ds_mSize b13.Map) fun r1 =>
    if vx4 < r1 then
      Option.bind (Ds_l1Cur_one b12 5) fun r3 =>
      if r3.1 = true then
        if (l14 ++ [vx4]).length * 8 ≤ 70368744177664 then
          some (.inl (.h1 kind0 weather1 i2 k3 (IntKind.wrap .i64 (vx4 + 1)) b5 b6 b7 b8 b9 b10 b11 r3.2 b13 (l14 ++ [vx4])))
        else none
      else
        some (.inl (.h1 kind0 weather1 i2 k3 (IntKind.wrap .i64 (vx4 + 1)) b5 b6 b7 b8 b9 b10 b11 r3.2 b13 l14))
    else
      Option.bind (Ds_l1Cur_one b12 20) fun r3 =>
      if r3.1 = true then
        Option.bind (Ds_mSize b13.Map) fun r5 =>
        if (l14 ++ [r5]).length * 8 ≤ 70368744177664 then
          some (.inr (b13, kind0, weather1, i2, k3, (l14 ++ [r5])))
        else none
      else
        some (.inr (b13, kind0, weather1, i2, k3, l14))
noncomputable def Ds_DrawDetourCost (a0 : (List Int)) : Option (Gi_Board × Int × Int × Int × Int × (List Int)) :=
  Option.bind (Ds_l1Cur_trek (Gs_l1Cur.mk a0 0 0)) fun r1 =>
  loop Bs_DrawDetourCost (.h1 r1.2.1 r1.2.2.1 r1.2.2.2.1 r1.2.2.2.2.1 0 0 0 0 0 0 0 0 r1.2.2.2.2.2 r1.1 ([] : List Int))
/-! loop example/g00886/impl isTrip -/
noncomputable def Di_isTrip (a0 : Gi_Board) (a1 : Int) (a2 : Int) (a3 : Int) (a4 : Int) : Option (Bool) :=
  Option.bind (Di_isMover a0 a1 a2 a3) fun r1 =>
  if r1 = true then
    Option.bind (Di_sizeOf a0) fun r3 =>
    Option.bind (Di_isIndex a4 r3) fun r4 =>
    some r4
  else
    some false
/-! loop example/g00886/impl DetourCost 1 -/
noncomputable def Di_DetourCost_1 (a0 : Int) (a1 : Gi_Board) : Option (Bool) :=
  Option.bind (Di_sizeOf a1) fun r1 =>
  Option.bind (Di_isIndex a0 r1) fun r2 =>
  some (!r2)
/-! slices IndexFunc   int int  -/
inductive Sslices_IndexFunc_int_i_DetourCost_1 where
  | h1 (s0 : (List Int)) (f1 : Gi_Board) (t2 : Int) (t3 : Int)
noncomputable def Bslices_IndexFunc_int_i_DetourCost_1 : Sslices_IndexFunc_int_i_DetourCost_1 → Option (Sslices_IndexFunc_int_i_DetourCost_1 ⊕ (Int))
  | .h1 s0 f1 t2 t3 =>
    if t3 < t2 then
      if 0 ≤ t3 then
        Option.bind (s0[(Int.toNat t3)]?) fun x3 =>
        Option.bind (Di_DetourCost_1 x3 f1) fun r4 =>
        if r4 = true then
          some (.inr t3)
        else
          some (.inl (.h1 s0 f1 t2 (IntKind.wrap .i64 (t3 + 1))))
      else none
    else
      some (.inr (-1))
noncomputable def Dslices_IndexFunc_int_i_DetourCost_1 (a0 : (List Int)) (a100 : Gi_Board) : Option (Int) :=
  loop Bslices_IndexFunc_int_i_DetourCost_1 (.h1 a0 a100 ((a0.length : Nat) : Int) 0)
/-! slices ContainsFunc   int int  -/
noncomputable def Dslices_ContainsFunc_int_i_DetourCost_1 (a0 : (List Int)) (a100 : Gi_Board) : Option (Bool) :=
  Option.bind (Dslices_IndexFunc_int_i_DetourCost_1 a0 a100) fun r1 =>
  some (decide (r1 ≥ 0))
/-! loop example/g00886/impl DetourCost -/
noncomputable def Di_DetourCost (a0 : Gi_Board) (a1 : Int) (a2 : Int) (a3 : Int) (a4 : Int) (a5 : (List Int)) : Option (Int × Bool) :=
  Option.bind (Di_isTrip a0 a1 a2 a3 a4) fun r1 =>
  if r1 = true then
    Option.bind (Di_increasing a5) fun r3 =>
    if r3 = true then
      Option.bind (Dslices_ContainsFunc_int_i_DetourCost_1 a5 a0) fun r5 =>
      if r5 = true then
        some (0, false)
      else
        Option.bind (Di_relaxed a0 a1 a2 a3 false a5) fun r7 =>
        if 0 ≤ a4 then
          Option.bind (r7[(Int.toNat a4)]?) fun x9 =>
          if x9 < 0 then
            some (0, false)
          else
            if 0 ≤ a4 then
              Option.bind (r7[(Int.toNat a4)]?) fun x12 =>
              some (x12, true)
            else none
        else none
    else
      some (0, false)
  else
    some (0, false)
/-! loop example/g00886/spec DetourCost -/
noncomputable def Ds_DetourCost (a0 : Gi_Board) (a1 : Int) (a2 : Int) (a3 : Int) (a4 : Int) (a5 : (List Int)) : Option (Int × Bool) :=
  Option.bind (Ds_pAsked a0 a1 a2 a3) fun r1 =>
  if r1 = true then
    Option.bind (Ds_pAsked a0 a1 a2 a4) fun r3 =>
    if r3 = true then
      Option.bind (Ds_mSize a0.Map) fun r5 =>
      Option.bind (Ds_l1Rising a5 0 (IntKind.wrap .i64 (r5 - 1))) fun r6 =>
      if r6 = true then
        Option.bind (Ds_pFrom a0 a1 a2 a3 a5) fun r8 =>
        if 0 ≤ a4 then
          Option.bind (r8[(Int.toNat a4)]?) fun x10 =>
          if x10 < 0 then
            some (0, false)
          else
            some (x10, true)
        else none
      else
        some (0, false)
    else
      some (0, false)
  else
    some (0, false)
/-! loop example/g00886/impl MeetingHex -/
inductive Si_MeetingHex where
  | h1 (best0 : Int) (t1 : Int) (t2 : Int) (l3 : (List Int)) (l4 : (List Int))
noncomputable def Bi_MeetingHex : Si_MeetingHex → Option (Si_MeetingHex ⊕ (Int × Bool))
  | .h1 best0 t1 t2 l3 l4 =>
    if t2 < t1 then
      if 0 ≤ t2 then
        Option.bind (l3[(Int.toNat t2)]?) fun x3 =>
        if x3 < 0 then
          some (.inl (.h1 best0 t1 (IntKind.wrap .i64 (t2 + 1)) l3 l4))
        else
          if 0 ≤ t2 then
            Option.bind (l4[(Int.toNat t2)]?) fun x6 =>
            if x6 < 0 then
              some (.inl (.h1 best0 t1 (IntKind.wrap .i64 (t2 + 1)) l3 l4))
            else
              if best0 < 0 then
                some (.inl (.h1 t2 t1 (IntKind.wrap .i64 (t2 + 1)) l3 l4))
              else
                if 0 ≤ t2 then
                  Option.bind (l3[(Int.toNat t2)]?) fun x10 =>
                  if 0 ≤ t2 then
                    Option.bind (l4[(Int.toNat t2)]?) fun x12 =>
                    if 0 ≤ best0 then
                      Option.bind (l3[(Int.toNat best0)]?) fun x14 =>
                      if 0 ≤ best0 then
                        Option.bind (l4[(Int.toNat best0)]?) fun x16 =>
                        if (if x10 < x12 then x12 else x10) < (if x14 < x16 then x16 else x14) then
                          some (.inl (.h1 t2 t1 (IntKind.wrap .i64 (t2 + 1)) l3 l4))
                        else
                          if ((if x10 < x12 then x12 else x10) : Int) = (if x14 < x16 then x16 else x14) then
                            if 0 ≤ t2 then
                              Option.bind (l3[(Int.toNat t2)]?) fun x20 =>
                              if 0 ≤ t2 then
                                Option.bind (l4[(Int.toNat t2)]?) fun x22 =>
                                if 0 ≤ best0 then
                                  Option.bind (l3[(Int.toNat best0)]?) fun x24 =>
                                  if 0 ≤ best0 then
                                    Option.bind (l4[(Int.toNat best0)]?) fun x26 =>
                                    if (IntKind.wrap .i64 (x20 + x22)) < (IntKind.wrap .i64 (x24 + x26)) then
                                      some (.inl (.h1 t2 t1 (IntKind.wrap .i64 (t2 + 1)) l3 l4))
                                    else
                                      some (.inl (.h1 best0 t1 (IntKind.wrap .i64 (t2 + 1)) l3 l4))
                                  else none
                                else none
                              else none
                            else none
                          else
                            some (.inl (.h1 best0 t1 (IntKind.wrap .i64 (t2 + 1)) l3 l4))
                      else none
                    else none
                  else none
                else none
          else none
      else none
    else
      if best0 < 0 then
        some (.inr (0, false))
      else
        some (.inr (best0, true))
noncomputable def Di_MeetingHex (a0 : Gi_Board) (a1 : Int) (a2 : Int) (a3 : Int) (a4 : Int) : Option (Int × Bool) :=
  Option.bind (Di_isTrip a0 a1 a2 a3 a4) fun r1 =>
  if r1 = true then
    Option.bind (Di_relaxed a0 a1 a2 a3 false []) fun r3 =>
    Option.bind (Di_relaxed a0 a1 a2 a4 false []) fun r4 =>
    loop Bi_MeetingHex (.h1 (-1) ((r3.length : Nat) : Int) 0 r3 r4)
  else
    some (0, false)
/-! loop example/g00886/spec MeetingHex -/
inductive Ss_MeetingHex where
  | h1 (best0 : Int) (t1 : Int) (t2 : Int) (l3 : (List Int)) (l4 : (List Int))
noncomputable def Bs_MeetingHex : Ss_MeetingHex → Option (Ss_MeetingHex ⊕ (Int × Bool))
  | .h1 best0 t1 t2 l3 l4 =>
    if t2 < t1 then
      if 0 ≤ t2 then
        Option.bind (l3[(Int.toNat t2)]?) fun x3 =>
        if x3 < 0 then
          some (.inl (.h1 best0 t1 (IntKind.wrap .i64 (t2 + 1)) l3 l4))
        else
          if 0 ≤ t2 then
            Option.bind (l4[(Int.toNat t2)]?) fun x6 =>
            if x6 < 0 then
              some (.inl (.h1 best0 t1 (IntKind.wrap .i64 (t2 + 1)) l3 l4))
            else
              if best0 < 0 then
                some (.inl (.h1 t2 t1 (IntKind.wrap .i64 (t2 + 1)) l3 l4))
              else
                if 0 ≤ t2 then
                  Option.bind (l3[(Int.toNat t2)]?) fun x10 =>
                  if 0 ≤ t2 then
                    Option.bind (l4[(Int.toNat t2)]?) fun x12 =>
                    Option.bind (Ds_l1Most x10 x12) fun r13 =>
                    if 0 ≤ best0 then
                      Option.bind (l3[(Int.toNat best0)]?) fun x15 =>
                      if 0 ≤ best0 then
                        Option.bind (l4[(Int.toNat best0)]?) fun x17 =>
                        Option.bind (Ds_l1Most x15 x17) fun r18 =>
                        if r13 < r18 then
                          some (.inl (.h1 t2 t1 (IntKind.wrap .i64 (t2 + 1)) l3 l4))
                        else
                          if 0 ≤ t2 then
                            Option.bind (l3[(Int.toNat t2)]?) fun x21 =>
                            if 0 ≤ t2 then
                              Option.bind (l4[(Int.toNat t2)]?) fun x23 =>
                              Option.bind (Ds_l1Most x21 x23) fun r24 =>
                              if 0 ≤ best0 then
                                Option.bind (l3[(Int.toNat best0)]?) fun x26 =>
                                if 0 ≤ best0 then
                                  Option.bind (l4[(Int.toNat best0)]?) fun x28 =>
                                  Option.bind (Ds_l1Most x26 x28) fun r29 =>
                                  if (r24 : Int) = r29 then
                                    if 0 ≤ t2 then
                                      Option.bind (l3[(Int.toNat t2)]?) fun x32 =>
                                      if 0 ≤ t2 then
                                        Option.bind (l4[(Int.toNat t2)]?) fun x34 =>
                                        if 0 ≤ best0 then
                                          Option.bind (l3[(Int.toNat best0)]?) fun x36 =>
                                          if 0 ≤ best0 then
                                            Option.bind (l4[(Int.toNat best0)]?) fun x38 =>
                                            if (IntKind.wrap .i64 (x32 + x34)) < (IntKind.wrap .i64 (x36 + x38)) then
                                              some (.inl (.h1 t2 t1 (IntKind.wrap .i64 (t2 + 1)) l3 l4))
                                            else
                                              some (.inl (.h1 best0 t1 (IntKind.wrap .i64 (t2 + 1)) l3 l4))
                                          else none
                                        else none
                                      else none
                                    else none
                                  else
                                    some (.inl (.h1 best0 t1 (IntKind.wrap .i64 (t2 + 1)) l3 l4))
                                else none
                              else none
                            else none
                          else none
                      else none
                    else none
                  else none
                else none
          else none
      else none
    else
      if best0 < 0 then
        some (.inr (0, false))
      else
        some (.inr (best0, true))
noncomputable def Ds_MeetingHex (a0 : Gi_Board) (a1 : Int) (a2 : Int) (a3 : Int) (a4 : Int) : Option (Int × Bool) :=
  Option.bind (Ds_pAsked a0 a1 a2 a3) fun r1 =>
  if r1 = true then
    Option.bind (Ds_pAsked a0 a1 a2 a4) fun r3 =>
    if r3 = true then
      Option.bind (Ds_pFrom a0 a1 a2 a3 []) fun r5 =>
      Option.bind (Ds_pFrom a0 a1 a2 a4 []) fun r6 =>
      loop Bs_MeetingHex (.h1 (-1) ((r5.length : Nat) : Int) 0 r5 r6)
    else
      some (0, false)
  else
    some (0, false)
/-! loop example/g00886/impl turnsTo -/
inductive Si_turnsTo where
  | h1 (kind0 : Int) (weather1 : Int) (i2 : Int) (moves3 : Int) (t4 : Int) (t5 : Int) (b6 : Gi_Board) (l7 : (List Int))
  | h2 (kind0 : Int) (weather1 : Int) (moves2 : Int) (changed3 : Bool) (b4 : Gi_Board) (l5 : (List Int))
  | h3 (kind0 : Int) (weather1 : Int) (moves2 : Int) (changed3 : Bool) (t4 : Int) (t5 : Int) (b6 : Gi_Board) (l7 : (List Int))
  | h4 (kind0 : Int) (weather1 : Int) (moves2 : Int) (changed3 : Bool) (k4 : Int) (vat5 : Int) (t6 : Int) (t7 : Int) (t8 : Int) (b9 : Gi_Board) (l10 : (List Int))
noncomputable def Bi_turnsTo : Si_turnsTo → Option (Si_turnsTo ⊕ ((List Int)))
  | .h1 kind0 weather1 i2 moves3 t4 t5 b6 l7 =>
    if t5 < t4 then
      if 0 ≤ t5 then
        Option.bind (l7[(Int.toNat t5)]?) fun x3 =>
        some (.inl (.h1 kind0 weather1 i2 moves3 t4 (IntKind.wrap .i64 (t5 + 1)) b6 (List.set l7 (Int.toNat t5) (-1))))
      else none
    else
      if 0 ≤ i2 then
        Option.bind (l7[(Int.toNat i2)]?) fun x3 =>
        some (.inl (.h2 kind0 weather1 moves3 true b6 (List.set l7 (Int.toNat i2) moves3)))
      else none
  | .h2 kind0 weather1 moves2 true b4 l5 =>
    some (.inl (.h3 kind0 weather1 moves2 false ((l5.length : Nat) : Int) 0 b4 l5))
  | .h2 kind0 weather1 moves2 false b4 l5 =>
    some (.inr l5)
  | .h3 kind0 weather1 moves2 changed3 t4 t5 b6 l7 =>
    if t5 < t4 then
      if 0 ≤ t5 then
        Option.bind (l7[(Int.toNat t5)]?) fun x3 =>
        some (.inl (.h4 kind0 weather1 moves2 changed3 t5 x3 t4 t5 0 b6 l7))
      else none
    else
      some (.inl (.h2 kind0 weather1 moves2 changed3 b6 l7))
  | .h4 kind0 weather1 moves2 changed3 k4 vat5 t6 t7 t8 b9 l10 =>
    if t8 < 6 then
      Option.bind (Di_stepCost b9 kind0 weather1 k4 t8) fun r2 =>
      if vat5 < 0 then
        some (.inl (.h4 kind0 weather1 moves2 changed3 k4 vat5 t6 t7 (IntKind.wrap .i64 (t8 + 1)) b9 l10))
      else
        if (r2 : Int) = 0 then
          some (.inl (.h4 kind0 weather1 moves2 changed3 k4 vat5 t6 t7 (IntKind.wrap .i64 (t8 + 1)) b9 l10))
        else
          if r2 > moves2 then
            some (.inl (.h4 kind0 weather1 moves2 changed3 k4 vat5 t6 t7 (IntKind.wrap .i64 (t8 + 1)) b9 l10))
          else
            if (IntKind.wrap .i64 ((Int.tmod vat5 100) + r2)) > moves2 then
              Option.bind (Di_nextTo b9.Map k4 t8) fun r7 =>
              if 0 ≤ r7 then
                Option.bind (l10[(Int.toNat r7)]?) fun x9 =>
                if x9 < 0 then
                  if 0 ≤ r7 then
                    Option.bind (l10[(Int.toNat r7)]?) fun x12 =>
                    some (.inl (.h4 kind0 weather1 moves2 true k4 vat5 t6 t7 (IntKind.wrap .i64 (t8 + 1)) b9 (List.set l10 (Int.toNat r7) (IntKind.wrap .i64 ((IntKind.wrap .i64 ((IntKind.wrap .i64 ((IntKind.wrap .i64 (Int.tdiv vat5 100)) + 1)) * 100)) + r2)))))
                  else none
                else
                  if 0 ≤ r7 then
                    Option.bind (l10[(Int.toNat r7)]?) fun x12 =>
                    if (IntKind.wrap .i64 ((IntKind.wrap .i64 ((IntKind.wrap .i64 ((IntKind.wrap .i64 (Int.tdiv vat5 100)) + 1)) * 100)) + r2)) < x12 then
                      if 0 ≤ r7 then
                        Option.bind (l10[(Int.toNat r7)]?) fun x15 =>
                        some (.inl (.h4 kind0 weather1 moves2 true k4 vat5 t6 t7 (IntKind.wrap .i64 (t8 + 1)) b9 (List.set l10 (Int.toNat r7) (IntKind.wrap .i64 ((IntKind.wrap .i64 ((IntKind.wrap .i64 ((IntKind.wrap .i64 (Int.tdiv vat5 100)) + 1)) * 100)) + r2)))))
                      else none
                    else
                      some (.inl (.h4 kind0 weather1 moves2 changed3 k4 vat5 t6 t7 (IntKind.wrap .i64 (t8 + 1)) b9 l10))
                  else none
              else none
            else
              Option.bind (Di_nextTo b9.Map k4 t8) fun r7 =>
              if 0 ≤ r7 then
                Option.bind (l10[(Int.toNat r7)]?) fun x9 =>
                if x9 < 0 then
                  if 0 ≤ r7 then
                    Option.bind (l10[(Int.toNat r7)]?) fun x12 =>
                    some (.inl (.h4 kind0 weather1 moves2 true k4 vat5 t6 t7 (IntKind.wrap .i64 (t8 + 1)) b9 (List.set l10 (Int.toNat r7) (IntKind.wrap .i64 (vat5 + r2)))))
                  else none
                else
                  if 0 ≤ r7 then
                    Option.bind (l10[(Int.toNat r7)]?) fun x12 =>
                    if (IntKind.wrap .i64 (vat5 + r2)) < x12 then
                      if 0 ≤ r7 then
                        Option.bind (l10[(Int.toNat r7)]?) fun x15 =>
                        some (.inl (.h4 kind0 weather1 moves2 true k4 vat5 t6 t7 (IntKind.wrap .i64 (t8 + 1)) b9 (List.set l10 (Int.toNat r7) (IntKind.wrap .i64 (vat5 + r2)))))
                      else none
                    else
                      some (.inl (.h4 kind0 weather1 moves2 changed3 k4 vat5 t6 t7 (IntKind.wrap .i64 (t8 + 1)) b9 l10))
                  else none
              else none
    else
      some (.inl (.h3 kind0 weather1 moves2 changed3 t6 (IntKind.wrap .i64 (t7 + 1)) b9 l10))
noncomputable def Di_turnsTo (a0 : Gi_Board) (a1 : Int) (a2 : Int) (a3 : Int) : Option ((List Int)) :=
  if 0 ≤ a1 then
    Option.bind (a0.Rules.Kinds[(Int.toNat a1)]?) fun x2 =>
    Option.bind (Di_sizeOf a0) fun r3 =>
    if 0 ≤ r3 then
      if Int.toNat r3 * 8 ≤ 140737488355328 then
        loop Bi_turnsTo (.h1 a1 a2 a3 x2.Moves (((List.replicate (Int.toNat r3) (0 : Int)).length : Nat) : Int) 0 a0 (List.replicate (Int.toNat r3) (0 : Int)))
      else none
    else none
  else none
/-! loop example/g00886/impl TurnsNeeded -/
noncomputable def Di_TurnsNeeded (a0 : Gi_Board) (a1 : Int) (a2 : Int) (a3 : Int) (a4 : Int) : Option (Int × Bool) :=
  Option.bind (Di_isTrip a0 a1 a2 a3 a4) fun r1 =>
  if r1 = true then
    Option.bind (Di_turnsTo a0 a1 a2 a3) fun r3 =>
    if 0 ≤ a4 then
      Option.bind (r3[(Int.toNat a4)]?) fun x5 =>
      if x5 < 0 then
        some (0, false)
      else
        some ((IntKind.wrap .i64 (Int.tdiv x5 100)), true)
    else none
  else
    some (0, false)
/-! loop example/g00886/spec pTurns -/
inductive Ss_pTurns where
  | h1 (kind0 : Int) (weather1 : Int) (i2 : Int) (moves3 : Int) (t4 : Int) (t5 : Int) (b6 : Gi_Board) (l7 : (List Int))
  | h2 (kind0 : Int) (weather1 : Int) (moves2 : Int) (more3 : Bool) (b4 : Gi_Board) (l5 : (List Int))
  | h3 (kind0 : Int) (weather1 : Int) (moves2 : Int) (more3 : Bool) (t4 : Int) (t5 : Int) (b6 : Gi_Board) (l7 : (List Int))
  | h4 (kind0 : Int) (weather1 : Int) (moves2 : Int) (more3 : Bool) (vx4 : Int) (d5 : Int) (t6 : Int) (t7 : Int) (b8 : Gi_Board) (l9 : (List Int))
noncomputable def Bs_pTurns : Ss_pTurns → Option (Ss_pTurns ⊕ ((List Int)))
  | .h1 kind0 weather1 i2 moves3 t4 t5 b6 l7 =>
    if t5 < t4 then
      if 0 ≤ t5 then
        Option.bind (l7[(Int.toNat t5)]?) fun x3 =>
        some (.inl (.h1 kind0 weather1 i2 moves3 t4 (IntKind.wrap .i64 (t5 + 1)) b6 (List.set l7 (Int.toNat t5) (-1))))
      else none
    else
      if 0 ≤ i2 then
        Option.bind (l7[(Int.toNat i2)]?) fun x3 =>
        some (.inl (.h2 kind0 weather1 moves3 true b6 (List.set l7 (Int.toNat i2) 0)))
      else none
  | .h2 kind0 weather1 moves2 true b4 l5 =>
    some (.inl (.h3 kind0 weather1 moves2 false ((l5.length : Nat) : Int) 0 b4 l5))
  | .h2 kind0 weather1 moves2 false b4 l5 =>
    some (.inr l5)
  | .h3 kind0 weather1 moves2 more3 t4 t5 b6 l7 =>
    if t5 < t4 then
      some (.inl (.h4 kind0 weather1 moves2 more3 t5 0 t4 t5 b6 l7))
    else
      some (.inl (.h2 kind0 weather1 moves2 more3 b6 l7))
  | .h4 kind0 weather1 moves2 more3 vx4 d5 t6 t7 b8 l9 =>
    if 0 ≤ vx4 then
      Option.bind (l9[(Int.toNat vx4)]?) fun x2 =>
      if x2 ≥ 0 then
        if d5 < 6 then
          Option.bind (Ds_cStep b8 kind0 vx4 d5 weather1) fun r5 =>
          if (r5 : Int) = 0 then
            some (.inl (.h4 kind0 weather1 moves2 more3 vx4 (IntKind.wrap .i64 (d5 + 1)) t6 t7 b8 l9))
          else
            if r5 > moves2 then
              some (.inl (.h4 kind0 weather1 moves2 more3 vx4 (IntKind.wrap .i64 (d5 + 1)) t6 t7 b8 l9))
            else
              if 0 ≤ vx4 then
                Option.bind (l9[(Int.toNat vx4)]?) fun x9 =>
                if (IntKind.wrap .i64 ((Int.tmod x9 1000) + r5)) > moves2 then
                  Option.bind (Ds_mNext b8.Map vx4 d5) fun r11 =>
                  if 0 ≤ r11 then
                    Option.bind (l9[(Int.toNat r11)]?) fun x13 =>
                    if x13 < 0 then
                      if 0 ≤ r11 then
                        Option.bind (l9[(Int.toNat r11)]?) fun x16 =>
                        some (.inl (.h4 kind0 weather1 moves2 true vx4 (IntKind.wrap .i64 (d5 + 1)) t6 t7 b8 (List.set l9 (Int.toNat r11) (IntKind.wrap .i64 ((IntKind.wrap .i64 ((IntKind.wrap .i64 (x9 - (Int.tmod x9 1000))) + 1000)) + r5)))))
                      else none
                    else
                      if 0 ≤ r11 then
                        Option.bind (l9[(Int.toNat r11)]?) fun x16 =>
                        if (IntKind.wrap .i64 ((IntKind.wrap .i64 ((IntKind.wrap .i64 (x9 - (Int.tmod x9 1000))) + 1000)) + r5)) < x16 then
                          if 0 ≤ r11 then
                            Option.bind (l9[(Int.toNat r11)]?) fun x19 =>
                            some (.inl (.h4 kind0 weather1 moves2 true vx4 (IntKind.wrap .i64 (d5 + 1)) t6 t7 b8 (List.set l9 (Int.toNat r11) (IntKind.wrap .i64 ((IntKind.wrap .i64 ((IntKind.wrap .i64 (x9 - (Int.tmod x9 1000))) + 1000)) + r5)))))
                          else none
                        else
                          some (.inl (.h4 kind0 weather1 moves2 more3 vx4 (IntKind.wrap .i64 (d5 + 1)) t6 t7 b8 l9))
                      else none
                  else none
                else
                  Option.bind (Ds_mNext b8.Map vx4 d5) fun r11 =>
                  if 0 ≤ r11 then
                    Option.bind (l9[(Int.toNat r11)]?) fun x13 =>
                    if x13 < 0 then
                      if 0 ≤ r11 then
                        Option.bind (l9[(Int.toNat r11)]?) fun x16 =>
                        some (.inl (.h4 kind0 weather1 moves2 true vx4 (IntKind.wrap .i64 (d5 + 1)) t6 t7 b8 (List.set l9 (Int.toNat r11) (IntKind.wrap .i64 (x9 + r5)))))
                      else none
                    else
                      if 0 ≤ r11 then
                        Option.bind (l9[(Int.toNat r11)]?) fun x16 =>
                        if (IntKind.wrap .i64 (x9 + r5)) < x16 then
                          if 0 ≤ r11 then
                            Option.bind (l9[(Int.toNat r11)]?) fun x19 =>
                            some (.inl (.h4 kind0 weather1 moves2 true vx4 (IntKind.wrap .i64 (d5 + 1)) t6 t7 b8 (List.set l9 (Int.toNat r11) (IntKind.wrap .i64 (x9 + r5)))))
                          else none
                        else
                          some (.inl (.h4 kind0 weather1 moves2 more3 vx4 (IntKind.wrap .i64 (d5 + 1)) t6 t7 b8 l9))
                      else none
                  else none
              else none
        else
          some (.inl (.h3 kind0 weather1 moves2 more3 t6 (IntKind.wrap .i64 (t7 + 1)) b8 l9))
      else
        some (.inl (.h3 kind0 weather1 moves2 more3 t6 (IntKind.wrap .i64 (t7 + 1)) b8 l9))
    else none
noncomputable def Ds_pTurns (a0 : Gi_Board) (a1 : Int) (a2 : Int) (a3 : Int) : Option ((List Int)) :=
  if 0 ≤ a1 then
    Option.bind (a0.Rules.Kinds[(Int.toNat a1)]?) fun x2 =>
    Option.bind (Ds_mSize a0.Map) fun r3 =>
    if 0 ≤ r3 then
      if Int.toNat r3 * 8 ≤ 140737488355328 then
        loop Bs_pTurns (.h1 a1 a2 a3 x2.Moves (((List.replicate (Int.toNat r3) (0 : Int)).length : Nat) : Int) 0 a0 (List.replicate (Int.toNat r3) (0 : Int)))
      else none
    else none
  else none
/-! loop example/g00886/spec TurnsNeeded -/
noncomputable def Ds_TurnsNeeded (a0 : Gi_Board) (a1 : Int) (a2 : Int) (a3 : Int) (a4 : Int) : Option (Int × Bool) :=
  Option.bind (Ds_pAsked a0 a1 a2 a3) fun r1 =>
  if r1 = true then
    Option.bind (Ds_pAsked a0 a1 a2 a4) fun r3 =>
    if r3 = true then
      Option.bind (Ds_pTurns a0 a1 a2 a3) fun r5 =>
      if 0 ≤ a4 then
        Option.bind (r5[(Int.toNat a4)]?) fun x7 =>
        if x7 < 0 then
          some (0, false)
        else
          if (a3 : Int) = a4 then
            some (0, true)
          else
            some ((IntKind.wrap .i64 ((IntKind.wrap .i64 (Int.tdiv x7 1000)) + 1)), true)
      else none
    else
      some (0, false)
  else
    some (0, false)
/-! loop example/g00886/laws qHas -/
inductive Sw_qHas where
  | h1 (n0 : Int) (t1 : (List Int)) (t2 : Int) (t3 : Int)
noncomputable def Bw_qHas : Sw_qHas → Option (Sw_qHas ⊕ (Bool))
  | .h1 n0 t1 t2 t3 =>
    if t3 < t2 then
      if 0 ≤ t3 then
        Option.bind (t1[(Int.toNat t3)]?) fun x3 =>
        if (x3 : Int) = n0 then
          some (.inr true)
        else
          some (.inl (.h1 n0 t1 t2 (IntKind.wrap .i64 (t3 + 1))))
      else none
    else
      some (.inr false)
noncomputable def Dw_qHas (a0 : (List Int)) (a1 : Int) : Option (Bool) :=
  loop Bw_qHas (.h1 a1 a0 ((a0.length : Nat) : Int) 0)
/-! loop example/g00886/laws FnTreks -/
inductive Sw_FnTreks where
  | h1 (more0 : (List Int)) (t1 : Int) (t2 : Int) (l3 : (List Int)) (l4 : (List Int))
  | h2 (more0 : (List Int))
  | h3 (k0 : Int) (w1 : Int) (vx2 : Int) (y3 : Int) (b4 : Gi_Board)
noncomputable def Bw_FnTreks : Sw_FnTreks → Option (Sw_FnTreks ⊕ (Bool))
  | .h1 more0 t1 t2 l3 l4 =>
    if t2 < t1 then
      if 0 ≤ t2 then
        Option.bind (l4[(Int.toNat t2)]?) fun x3 =>
        Option.bind (Dw_qHas l3 x3) fun r4 =>
        if r4 = true then
          some (.inl (.h1 more0 t1 (IntKind.wrap .i64 (t2 + 1)) l3 l4))
        else
          some (.inr false)
      else none
    else
      some (.inl (.h2 more0))
  | .h2 more0 =>
    Option.bind (Ds_DrawDetourCost more0) fun r1 =>
    Option.bind (Di_DetourCost r1.1 r1.2.1 r1.2.2.1 r1.2.2.2.1 r1.2.2.2.2.1 r1.2.2.2.2.2) fun r2 =>
    if r2.2 = true then
      Option.bind (Ds_DetourCost r1.1 r1.2.1 r1.2.2.1 r1.2.2.2.1 r1.2.2.2.2.1 r1.2.2.2.2.2) fun r4 =>
      if (!(true == r4.2)) = true then
        some (.inr false)
      else
        if (r2.1 : Int) = r4.1 then
          Option.bind (Di_DetourCost r1.1 r1.2.1 r1.2.2.1 r1.2.2.2.1 r1.2.2.2.2.1 []) fun r7 =>
          if r7.2 = true then
            if r7.1 > r2.1 then
              some (.inr false)
            else
              some (.inl (.h3 r1.2.1 r1.2.2.1 r1.2.2.2.1 r1.2.2.2.2.1 r1.1))
          else
            some (.inr false)
        else
          some (.inr false)
    else
      Option.bind (Ds_DetourCost r1.1 r1.2.1 r1.2.2.1 r1.2.2.2.1 r1.2.2.2.2.1 r1.2.2.2.2.2) fun r4 =>
      if (!(false == r4.2)) = true then
        some (.inr false)
      else
        if (r2.1 : Int) = r4.1 then
          some (.inl (.h3 r1.2.1 r1.2.2.1 r1.2.2.2.1 r1.2.2.2.2.1 r1.1))
        else
          some (.inr false)
  | .h3 k0 w1 vx2 y3 b4 =>
    Option.bind (Di_MeetingHex b4 k0 w1 vx2 y3) fun r1 =>
    Option.bind (Ds_MeetingHex b4 k0 w1 vx2 y3) fun r2 =>
    Option.bind (Di_TurnsNeeded b4 k0 w1 vx2 y3) fun r3 =>
    Option.bind (Ds_TurnsNeeded b4 k0 w1 vx2 y3) fun r4 =>
    if (r1.2 == r2.2) = true then
      if (r1.1 : Int) = r2.1 then
        if (r3.2 == r4.2) = true then
          some (.inr ((r3.1 : Int) == r4.1))
        else
          some (.inr false)
      else
        some (.inr false)
    else
      some (.inr false)
noncomputable def Dw_FnTreks (a0 : (List Int)) (a1 : (List Int)) : Option (Bool) :=
  Option.bind (Dw_big a0 a1) fun r1 =>
  if r1 = true then
    some true
  else
    Option.bind (Ds_DrawReachOf a0) fun r3 =>
    Option.bind (Di_ReachOf r3.1 r3.2.1 r3.2.2.1 r3.2.2.2.1 r3.2.2.2.2) fun r4 =>
    if r4.2 = true then
      Option.bind (Ds_ReachOf r3.1 r3.2.1 r3.2.2.1 r3.2.2.2.1 r3.2.2.2.2) fun r6 =>
      if (!(true == r6.2)) = true then
        some false
      else
        Option.bind (Dw_sameInts r4.1 r6.1) fun r8 =>
        if r8 = true then
          if r3.2.2.2.2 < 1000 then
            Option.bind (Di_ReachOf r3.1 r3.2.1 r3.2.2.1 r3.2.2.2.1 (IntKind.wrap .i64 (r3.2.2.2.2 + 1))) fun r11 =>
            if r11.2 = true then
              loop Bw_FnTreks (.h1 a1 ((r6.1.length : Nat) : Int) 0 r11.1 r6.1)
            else
              some false
          else
            loop Bw_FnTreks (.h2 a1)
        else
          some false
    else
      Option.bind (Ds_ReachOf r3.1 r3.2.1 r3.2.2.1 r3.2.2.2.1 r3.2.2.2.2) fun r6 =>
      if (!(false == r6.2)) = true then
        some false
      else
        Option.bind (Dw_sameInts r4.1 r6.1) fun r8 =>
        if r8 = true then
          loop Bw_FnTreks (.h2 a1)
        else
          some false
end Go.Proofs.YtakcjcjfcignjaaDoor.Ab
