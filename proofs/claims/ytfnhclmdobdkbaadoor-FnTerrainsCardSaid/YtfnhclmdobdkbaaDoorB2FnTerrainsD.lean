/- Part of the proof of FnTerrainsCard: no condition of its own. -/
import Derived.Test.YtfnhclmdobdkbaaDoorAb4
set_option linter.unusedVariables false
set_option linter.unusedSimpArgs false
open Go
namespace Go.Proofs.YtfnhclmdobdkbaaDoor.Ab
structure Gi_Map where
  mk ::
  Width : Int
  Height : Int
  Terrain : (List Int)
  Rivers : (List Int)
  Roads : (List Int)
def gi_Map (x : Gi_Map) : D := .agg [I x.Width, I x.Height, sl 1 I x.Terrain, sl 1 I x.Rivers, sl 1 I x.Roads]
structure Gi_Hex where
  mk ::
  Q : Int
  R : Int
def gi_Hex (x : Gi_Hex) : D := .agg [I x.Q, I x.R]
structure Gi_Terrain where
  mk ::
  Name : ByteArray
  Cost : (List Int)
  Shift : Int
  Height : Int
  Blocks : Bool
def gi_Terrain (x : Gi_Terrain) : D := .agg [.str x.Name, sl 1 I x.Cost, I x.Shift, I x.Height, .bool x.Blocks]
def goi_Terrain (x : Gi_Terrain) : D := .agg [.str x.Name, ow 1 I x.Cost, I x.Shift, I x.Height, .bool x.Blocks]
structure Gi_Kind where
  mk ::
  Name : ByteArray
  Strength : Int
  Moves : Int
  Steps : Int
  Zone : Bool
  View : Int
def gi_Kind (x : Gi_Kind) : D := .agg [.str x.Name, I x.Strength, I x.Moves, I x.Steps, .bool x.Zone, I x.View]
structure Gi_Rules where
  mk ::
  Terrains : (List Gi_Terrain)
  Kinds : (List Gi_Kind)
  Stack : Int
  River : Int
  Road : Int
  Supply : Int
  Turns : Int
def gi_Rules (x : Gi_Rules) : D := .agg [sl 5 gi_Terrain x.Terrains, sl 6 gi_Kind x.Kinds, I x.Stack, I x.River, I x.Road, I x.Supply, I x.Turns]
structure Gi_Board where
  mk ::
  Rules : Gi_Rules
  Map : Gi_Map
def gi_Board (x : Gi_Board) : D := .agg [sl 5 gi_Terrain x.Rules.Terrains, sl 6 gi_Kind x.Rules.Kinds, I x.Rules.Stack, I x.Rules.River, I x.Rules.Road, I x.Rules.Supply, I x.Rules.Turns, I x.Map.Width, I x.Map.Height, sl 1 I x.Map.Terrain, sl 1 I x.Map.Rivers, sl 1 I x.Map.Roads]
structure Gs_l1Cur where
  mk ::
  code : (List Int)
  at_ : Int
  seed : Int
def gs_l1Cur (x : Gs_l1Cur) : D := .agg [sl 1 (D.int .u8) x.code, I x.at_, .int .u64 x.seed]
structure G139 where
  mk ::
  c0 : Gi_Hex
  c1 : Gi_Hex
  c2 : Gi_Hex
  c3 : Gi_Hex
  c4 : Gi_Hex
  c5 : Gi_Hex
def g139 (x : G139) : D := .agg [I x.c0.Q, I x.c0.R, I x.c1.Q, I x.c1.R, I x.c2.Q, I x.c2.R, I x.c3.Q, I x.c3.R, I x.c4.Q, I x.c4.R, I x.c5.Q, I x.c5.R]
def gv0 : List Gi_Hex := [⟨1, 0⟩, ⟨1, (-1)⟩, ⟨0, (-1)⟩, ⟨(-1), 0⟩, ⟨(-1), 1⟩, ⟨0, 1⟩]
def gc0 : List D := [.agg (gv0.flatMap fun y => (gi_Hex y).cells)]
/-! loop example/g00886/laws big -/
noncomputable def Dw_big (a0 : (List Int)) (a1 : (List Int)) : Option (Bool) :=
  if ((a0.length : Nat) : Int) > 1048576 then
    some true
  else
    some (decide (((a1.length : Nat) : Int) > (IntKind.wrap .i64 (1048576 - ((a0.length : Nat) : Int)))))
/-!   loop example/g00886/spec l1Cur  next -/
noncomputable def Ds_l1Cur_next (a0 : Gs_l1Cur) : Option (Int × Gs_l1Cur) :=
  if a0.at_ < ((a0.code.length : Nat) : Int) then
    if 0 ≤ a0.at_ then
      Option.bind (a0.code[(Int.toNat a0.at_)]?) fun x3 =>
      if (IntKind.wrap .i64 (a0.at_ + 1)) ≤ ((a0.code.length : Nat) : Int) then
        some ((IntKind.wrap .i64 x3), (Gs_l1Cur.mk a0.code (IntKind.wrap .i64 (a0.at_ + 1)) (IntKind.wrap .u64 ((IntKind.wrap .u64 ((IntKind.wrap .u64 (a0.seed * 6364136223846793005)) + (IntKind.wrap .u64 (IntKind.wrap .i64 x3)))) + 1442695040888963407))))
      else
        some ((IntKind.wrap .i64 (IntKind.wrap .u64 ((BitVec.toNat (BitVec.ofInt (IntKind.bits .u64) (Int.fdiv (IntKind.wrap .u64 ((IntKind.wrap .u64 ((IntKind.wrap .u64 (a0.seed * 6364136223846793005)) + (IntKind.wrap .u64 (IntKind.wrap .i64 x3)))) + 1442695040888963407)) (2 ^ min (Int.toNat 40) (IntKind.bits .u64))) &&& BitVec.ofInt (IntKind.bits .u64) 255) : Nat) : Int))), (Gs_l1Cur.mk a0.code (IntKind.wrap .i64 (a0.at_ + 1)) (IntKind.wrap .u64 ((IntKind.wrap .u64 ((IntKind.wrap .u64 (a0.seed * 6364136223846793005)) + (IntKind.wrap .u64 (IntKind.wrap .i64 x3)))) + 1442695040888963407))))
    else none
  else
    if (IntKind.wrap .i64 (a0.at_ + 1)) ≤ ((a0.code.length : Nat) : Int) then
      some (0, (Gs_l1Cur.mk a0.code (IntKind.wrap .i64 (a0.at_ + 1)) (IntKind.wrap .u64 ((IntKind.wrap .u64 ((IntKind.wrap .u64 (a0.seed * 6364136223846793005)) + (IntKind.wrap .u64 0))) + 1442695040888963407))))
    else
      some ((IntKind.wrap .i64 (IntKind.wrap .u64 ((BitVec.toNat (BitVec.ofInt (IntKind.bits .u64) (Int.fdiv (IntKind.wrap .u64 ((IntKind.wrap .u64 ((IntKind.wrap .u64 (a0.seed * 6364136223846793005)) + (IntKind.wrap .u64 0))) + 1442695040888963407)) (2 ^ min (Int.toNat 40) (IntKind.bits .u64))) &&& BitVec.ofInt (IntKind.bits .u64) 255) : Nat) : Int))), (Gs_l1Cur.mk a0.code (IntKind.wrap .i64 (a0.at_ + 1)) (IntKind.wrap .u64 ((IntKind.wrap .u64 ((IntKind.wrap .u64 (a0.seed * 6364136223846793005)) + (IntKind.wrap .u64 0))) + 1442695040888963407))))
/-!   loop example/g00886/spec l1Cur  pick -/
noncomputable def Ds_l1Cur_pick (a0 : Gs_l1Cur) (a1 : Int) : Option (Int × Gs_l1Cur) :=
  if a1 ≤ 1 then
    some (0, a0)
  else
    Option.bind (Ds_l1Cur_next a0) fun r2 =>
    if a1 > 200 then
      Option.bind (Ds_l1Cur_next r2.2) fun r4 =>
      if ¬ a1 = 0 then
        some ((Int.tmod (IntKind.wrap .i64 ((IntKind.wrap .i64 (r2.1 * 256)) + r4.1)) a1), r4.2)
      else none
    else
      if ¬ a1 = 0 then
        some ((Int.tmod r2.1 a1), r2.2)
      else none
/-!   loop example/g00886/spec l1Cur  one -/
noncomputable def Ds_l1Cur_one (a0 : Gs_l1Cur) (a1 : Int) : Option (Bool × Gs_l1Cur) :=
  Option.bind (Ds_l1Cur_pick a0 a1) fun r1 =>
  some (((r1.1 : Int) == 0), r1.2)
/-!   loop example/g00886/spec l1Cur  rules -/
inductive Ss_l1Cur_rules where
  | h1 (t0 : Int) (b1 : Gs_l1Cur) (b2 : Int) (b3 : Int) (b4 : Int) (b5 : Int) (b6 : Int) (b7 : Int) (b8 : Int) (b9 : Int) (b10 : Int) (b11 : Int) (l12 : (List ByteArray)) (l13 : (List Gi_Kind))
  | h2 (t0 : Int) (t1 : Int) (t2 : Int) (b3 : Gs_l1Cur) (b4 : Int) (b5 : Int) (b6 : Int) (b7 : Int) (b8 : Int) (b9 : Int) (b10 : Int) (b11 : Int) (b12 : Int) (b13 : Int) (l14 : (List ByteArray)) (b15 : ByteArray) (b16 : Int) (b17 : Int) (b18 : Bool) (l19 : (List Gi_Kind))
  | h3 (t0 : Int) (t1 : Int) (t2 : Int) (b3 : Gs_l1Cur) (b4 : Int) (b5 : Int) (b6 : Int) (b7 : Int) (b8 : Int) (b9 : Int) (b10 : Int) (b11 : Int) (b12 : Int) (b13 : Int) (l14 : (List ByteArray)) (b15 : ByteArray) (b16 : Int) (b17 : Int) (b18 : Bool) (l19 : (List Gi_Kind)) (l20 : (List Int))
  | h4 (t0 : Int) (b1 : Gs_l1Cur) (b2 : Int) (b3 : Int) (b4 : Int) (b5 : Int) (b6 : Int) (b7 : Int) (b8 : Int) (b9 : Int) (b10 : Int) (b11 : Int) (l12 : (List ByteArray)) (l13 : (List Gi_Terrain)) (l14 : (List Gi_Kind))
  | h5 (t0 : Int) (t1 : Int) (t2 : Int) (b3 : Gs_l1Cur) (b4 : Int) (b5 : Int) (b6 : Int) (b7 : Int) (b8 : Int) (b9 : Int) (b10 : Int) (b11 : Int) (b12 : Int) (b13 : Int) (l14 : (List ByteArray)) (b15 : ByteArray) (b16 : Int) (b17 : Int) (b18 : Bool) (l19 : (List Gi_Terrain)) (l20 : (List Gi_Kind))
  | h6 (t0 : Int) (t1 : Int) (t2 : Int) (b3 : Gs_l1Cur) (b4 : Int) (b5 : Int) (b6 : Int) (b7 : Int) (b8 : Int) (b9 : Int) (b10 : Int) (b11 : Int) (b12 : Int) (b13 : Int) (l14 : (List ByteArray)) (b15 : ByteArray) (b16 : Int) (b17 : Int) (b18 : Bool) (l19 : (List Gi_Terrain)) (l20 : (List Gi_Kind)) (l21 : (List Int))
noncomputable def Bs_l1Cur_rules : Ss_l1Cur_rules → Option (Ss_l1Cur_rules ⊕ (Gi_Rules × Gs_l1Cur))
  | .h1 t0 b1 b2 b3 b4 b5 b6 b7 b8 b9 b10 b11 l12 l13 =>
    Option.bind (Ds_l1Cur_pick b1 4) fun r1 =>
    if t0 < (IntKind.wrap .i64 (2 + r1.1)) then
      if (t0 : Int) = ((l12.length : Nat) : Int) then
        some (.inr ((Gi_Rules.mk [] l13 b7 b8 b9 b10 b11), r1.2))
      else
        if 0 ≤ t0 then
          Option.bind (l12[(Int.toNat t0)]?) fun x5 =>
          Option.bind (Ds_l1Cur_pick r1.2 3) fun r6 =>
          Option.bind (Ds_l1Cur_pick r6.2 2) fun r7 =>
          Option.bind (Ds_l1Cur_pick r7.2 3) fun r8 =>
          if t0 > 0 then
            Option.bind (Ds_l1Cur_one r8.2 3) fun r10 =>
            some (.inl (.h2 t0 ((l13.length : Nat) : Int) 0 r10.2 b2 b3 b4 b5 b6 b7 b8 b9 b10 b11 l12 x5 (IntKind.wrap .i64 (r6.1 - 1)) (IntKind.wrap .i64 (r7.1 * r8.1)) r10.1 l13))
          else
            some (.inl (.h2 t0 ((l13.length : Nat) : Int) 0 r8.2 b2 b3 b4 b5 b6 b7 b8 b9 b10 b11 l12 x5 (IntKind.wrap .i64 (r6.1 - 1)) (IntKind.wrap .i64 (r7.1 * r8.1)) false l13))
        else none
    else
      some (.inr ((Gi_Rules.mk [] l13 b7 b8 b9 b10 b11), r1.2))
  | .h2 t0 t1 t2 b3 b4 b5 b6 b7 b8 b9 b10 b11 b12 b13 l14 b15 b16 b17 b18 l19 =>
    if t2 < t1 then
      if t0 > 0 then
        Option.bind (Ds_l1Cur_pick b3 4) fun r3 =>
        if [r3.1].length * 8 ≤ 70368744177664 then
          some (.inl (.h3 t0 t1 (IntKind.wrap .i64 (t2 + 1)) r3.2 b4 b5 b6 b7 b8 b9 b10 b11 b12 b13 l14 b15 b16 b17 b18 l19 [r3.1]))
        else none
      else
        if [1].length * 8 ≤ 70368744177664 then
          some (.inl (.h3 t0 t1 (IntKind.wrap .i64 (t2 + 1)) b3 b4 b5 b6 b7 b8 b9 b10 b11 b12 b13 l14 b15 b16 b17 b18 l19 [1]))
        else none
    else
      if [(Gi_Terrain.mk b15 ([] : List Int) b16 b17 b18)].length * 64 ≤ 70368744177664 then
        some (.inl (.h4 (IntKind.wrap .i64 (t0 + 1)) b3 b4 b5 b6 b7 b8 b9 b10 b11 b12 b13 l14 [(Gi_Terrain.mk b15 ([] : List Int) b16 b17 b18)] l19))
      else none
  | .h3 t0 t1 t2 b3 b4 b5 b6 b7 b8 b9 b10 b11 b12 b13 l14 b15 b16 b17 b18 l19 l20 =>
    if t2 < t1 then
      if t0 > 0 then
        Option.bind (Ds_l1Cur_pick b3 4) fun r3 =>
        if (l20 ++ [r3.1]).length * 8 ≤ 70368744177664 then
          some (.inl (.h3 t0 t1 (IntKind.wrap .i64 (t2 + 1)) r3.2 b4 b5 b6 b7 b8 b9 b10 b11 b12 b13 l14 b15 b16 b17 b18 l19 (l20 ++ [r3.1])))
        else none
      else
        if (l20 ++ [1]).length * 8 ≤ 70368744177664 then
          some (.inl (.h3 t0 t1 (IntKind.wrap .i64 (t2 + 1)) b3 b4 b5 b6 b7 b8 b9 b10 b11 b12 b13 l14 b15 b16 b17 b18 l19 (l20 ++ [1])))
        else none
    else
      if [(Gi_Terrain.mk b15 l20 b16 b17 b18)].length * 64 ≤ 70368744177664 then
        some (.inl (.h4 (IntKind.wrap .i64 (t0 + 1)) b3 b4 b5 b6 b7 b8 b9 b10 b11 b12 b13 l14 [(Gi_Terrain.mk b15 l20 b16 b17 b18)] l19))
      else none
  | .h4 t0 b1 b2 b3 b4 b5 b6 b7 b8 b9 b10 b11 l12 l13 l14 =>
    Option.bind (Ds_l1Cur_pick b1 4) fun r1 =>
    if t0 < (IntKind.wrap .i64 (2 + r1.1)) then
      if (t0 : Int) = ((l12.length : Nat) : Int) then
        some (.inr ((Gi_Rules.mk l13 l14 b7 b8 b9 b10 b11), r1.2))
      else
        if 0 ≤ t0 then
          Option.bind (l12[(Int.toNat t0)]?) fun x5 =>
          Option.bind (Ds_l1Cur_pick r1.2 3) fun r6 =>
          Option.bind (Ds_l1Cur_pick r6.2 2) fun r7 =>
          Option.bind (Ds_l1Cur_pick r7.2 3) fun r8 =>
          if t0 > 0 then
            Option.bind (Ds_l1Cur_one r8.2 3) fun r10 =>
            some (.inl (.h5 t0 ((l14.length : Nat) : Int) 0 r10.2 b2 b3 b4 b5 b6 b7 b8 b9 b10 b11 l12 x5 (IntKind.wrap .i64 (r6.1 - 1)) (IntKind.wrap .i64 (r7.1 * r8.1)) r10.1 l13 l14))
          else
            some (.inl (.h5 t0 ((l14.length : Nat) : Int) 0 r8.2 b2 b3 b4 b5 b6 b7 b8 b9 b10 b11 l12 x5 (IntKind.wrap .i64 (r6.1 - 1)) (IntKind.wrap .i64 (r7.1 * r8.1)) false l13 l14))
        else none
    else
      some (.inr ((Gi_Rules.mk l13 l14 b7 b8 b9 b10 b11), r1.2))
  | .h5 t0 t1 t2 b3 b4 b5 b6 b7 b8 b9 b10 b11 b12 b13 l14 b15 b16 b17 b18 l19 l20 =>
    if t2 < t1 then
      if t0 > 0 then
        Option.bind (Ds_l1Cur_pick b3 4) fun r3 =>
        if [r3.1].length * 8 ≤ 70368744177664 then
          some (.inl (.h6 t0 t1 (IntKind.wrap .i64 (t2 + 1)) r3.2 b4 b5 b6 b7 b8 b9 b10 b11 b12 b13 l14 b15 b16 b17 b18 l19 l20 [r3.1]))
        else none
      else
        if [1].length * 8 ≤ 70368744177664 then
          some (.inl (.h6 t0 t1 (IntKind.wrap .i64 (t2 + 1)) b3 b4 b5 b6 b7 b8 b9 b10 b11 b12 b13 l14 b15 b16 b17 b18 l19 l20 [1]))
        else none
    else
      if (l19 ++ [(Gi_Terrain.mk b15 ([] : List Int) b16 b17 b18)]).length * 64 ≤ 70368744177664 then
        some (.inl (.h4 (IntKind.wrap .i64 (t0 + 1)) b3 b4 b5 b6 b7 b8 b9 b10 b11 b12 b13 l14 (l19 ++ [(Gi_Terrain.mk b15 ([] : List Int) b16 b17 b18)]) l20))
      else none
  | .h6 t0 t1 t2 b3 b4 b5 b6 b7 b8 b9 b10 b11 b12 b13 l14 b15 b16 b17 b18 l19 l20 l21 =>
    if t2 < t1 then
      if t0 > 0 then
        Option.bind (Ds_l1Cur_pick b3 4) fun r3 =>
        if (l21 ++ [r3.1]).length * 8 ≤ 70368744177664 then
          some (.inl (.h6 t0 t1 (IntKind.wrap .i64 (t2 + 1)) r3.2 b4 b5 b6 b7 b8 b9 b10 b11 b12 b13 l14 b15 b16 b17 b18 l19 l20 (l21 ++ [r3.1])))
        else none
      else
        if (l21 ++ [1]).length * 8 ≤ 70368744177664 then
          some (.inl (.h6 t0 t1 (IntKind.wrap .i64 (t2 + 1)) b3 b4 b5 b6 b7 b8 b9 b10 b11 b12 b13 l14 b15 b16 b17 b18 l19 l20 (l21 ++ [1])))
        else none
    else
      if (l19 ++ [(Gi_Terrain.mk b15 l21 b16 b17 b18)]).length * 64 ≤ 70368744177664 then
        some (.inl (.h4 (IntKind.wrap .i64 (t0 + 1)) b3 b4 b5 b6 b7 b8 b9 b10 b11 b12 b13 l14 (l19 ++ [(Gi_Terrain.mk b15 l21 b16 b17 b18)]) l20))
      else none
noncomputable def Ds_l1Cur_rules (a0 : Gs_l1Cur) : Option (Gi_Rules × Gs_l1Cur) :=
  Option.bind (Ds_l1Cur_pick a0 3) fun r1 =>
  Option.bind (Ds_l1Cur_pick r1.2 4) fun r2 =>
  Option.bind (Ds_l1Cur_pick r2.2 3) fun r3 =>
  Option.bind (Ds_l1Cur_pick r3.2 2) fun r4 =>
  Option.bind (Ds_l1Cur_pick r4.2 4) fun r5 =>
  Option.bind (Ds_l1Cur_pick r5.2 6) fun r6 =>
  Option.bind (Ds_l1Cur_pick r6.2 2) fun r7 =>
  Option.bind (Ds_l1Cur_one r7.2 2) fun r8 =>
  Option.bind (Ds_l1Cur_pick r8.2 6) fun r9 =>
  Option.bind (Ds_l1Cur_pick r9.2 3) fun r10 =>
  Option.bind (Ds_l1Cur_pick r10.2 3) fun r11 =>
  Option.bind (Ds_l1Cur_pick r11.2 3) fun r12 =>
  if (0 : Int) ≤ (IntKind.wrap .i64 (1 + r12.1)) then
    if ((IntKind.wrap .i64 (1 + r12.1)) : Int) ≤ (([(Gi_Kind.mk ⟨#[102, 111, 111, 116]⟩ (IntKind.wrap .i64 (2 + r1.1)) (IntKind.wrap .i64 (2 + r2.1)) (IntKind.wrap .i64 (1 + r3.1)) true (IntKind.wrap .i64 (1 + r4.1))), (Gi_Kind.mk ⟨#[104, 111, 114, 115, 101]⟩ (IntKind.wrap .i64 (1 + r5.1)) (IntKind.wrap .i64 (3 + r6.1)) (IntKind.wrap .i64 (1 + r7.1)) r8.1 2), (Gi_Kind.mk ⟨#[103, 117, 110]⟩ (IntKind.wrap .i64 (3 + r9.1)) (IntKind.wrap .i64 (1 + r10.1)) 1 false r11.1)].length : Nat) : Int) then
      Option.bind (Ds_l1Cur_pick r12.2 3) fun r15 =>
      Option.bind (Ds_l1Cur_pick r15.2 3) fun r16 =>
      Option.bind (Ds_l1Cur_pick r16.2 8) fun r17 =>
      Option.bind (Ds_l1Cur_pick r17.2 8) fun r18 =>
      loop Bs_l1Cur_rules (.h1 0 r18.2 0 0 0 0 0 (IntKind.wrap .i64 (1 + r15.1)) r16.1 1 (IntKind.wrap .i64 (2 + r17.1)) (IntKind.wrap .i64 (2 + r18.1)) [⟨#[112, 108, 97, 105, 110]⟩, ⟨#[119, 111, 111, 100]⟩, ⟨#[104, 105, 108, 108]⟩, ⟨#[115, 101, 97]⟩, ⟨#[116, 111, 119, 110]⟩] (List.take ((Int.toNat (IntKind.wrap .i64 (1 + r12.1))) - 0) (List.drop 0 [(Gi_Kind.mk ⟨#[102, 111, 111, 116]⟩ (IntKind.wrap .i64 (2 + r1.1)) (IntKind.wrap .i64 (2 + r2.1)) (IntKind.wrap .i64 (1 + r3.1)) true (IntKind.wrap .i64 (1 + r4.1))), (Gi_Kind.mk ⟨#[104, 111, 114, 115, 101]⟩ (IntKind.wrap .i64 (1 + r5.1)) (IntKind.wrap .i64 (3 + r6.1)) (IntKind.wrap .i64 (1 + r7.1)) r8.1 2), (Gi_Kind.mk ⟨#[103, 117, 110]⟩ (IntKind.wrap .i64 (3 + r9.1)) (IntKind.wrap .i64 (1 + r10.1)) 1 false r11.1)])))
    else none
  else none
/-! loop example/g00886/spec mSize -/
noncomputable def Ds_mSize (a0 : Gi_Map) : Option (Int) :=
  some (IntKind.wrap .i64 (a0.Width * a0.Height))
/-! loop example/g00886/spec mHex -/
noncomputable def Ds_mHex (a0 : Gi_Map) (a1 : Int) : Option (Gi_Hex) :=
  if ¬ a0.Width = 0 then
    if ¬ a0.Width = 0 then
      some (Gi_Hex.mk (Int.tmod a1 a0.Width) (IntKind.wrap .i64 (Int.tdiv a1 a0.Width)))
    else none
  else none
/-! loop example/g00886/spec hStep -/
noncomputable def Ds_hStep (a0 : Gi_Hex) (a1 : Int) : Option (Gi_Hex) :=
  if 0 ≤ a1 then
    Option.bind ([1, 1, 0, (-1), (-1), 0][(Int.toNat a1)]?) fun x2 =>
    if 0 ≤ a1 then
      Option.bind ([0, (-1), (-1), 0, 1, 1][(Int.toNat a1)]?) fun x4 =>
      some (Gi_Hex.mk (IntKind.wrap .i64 (a0.Q + x2)) (IntKind.wrap .i64 (a0.R + x4)))
    else none
  else none
/-! loop example/g00886/spec l1In -/
noncomputable def Ds_l1In (a0 : Int) (a1 : Int) (a2 : Int) : Option (Bool) :=
  if a0 ≥ a1 then
    some (decide (a0 ≤ a2))
  else
    some false
/-! loop example/g00886/spec mIndex -/
noncomputable def Ds_mIndex (a0 : Gi_Map) (a1 : Gi_Hex) : Option (Int) :=
  Option.bind (Ds_l1In a1.Q 0 (IntKind.wrap .i64 (a0.Width - 1))) fun r1 =>
  if r1 = true then
    Option.bind (Ds_l1In a1.R 0 (IntKind.wrap .i64 (a0.Height - 1))) fun r3 =>
    if r3 = true then
      some (IntKind.wrap .i64 ((IntKind.wrap .i64 (a1.R * a0.Width)) + a1.Q))
    else
      some (-1)
  else
    some (-1)
/-! loop example/g00886/spec mNext -/
noncomputable def Ds_mNext (a0 : Gi_Map) (a1 : Int) (a2 : Int) : Option (Int) :=
  Option.bind (Ds_mHex a0 a1) fun r1 =>
  Option.bind (Ds_hStep r1 a2) fun r2 =>
  Option.bind (Ds_mIndex a0 r2) fun r3 =>
  some r3
/-! loop example/g00886/spec mEdge -/
noncomputable def Ds_mEdge (a0 : Gi_Map) (a1 : Int) (a2 : Int) : Option (Int) :=
  if a2 < 3 then
    some (IntKind.wrap .i64 ((IntKind.wrap .i64 (3 * a1)) + a2))
  else
    Option.bind (Ds_mNext a0 a1 a2) fun r2 =>
    some (IntKind.wrap .i64 ((IntKind.wrap .i64 ((IntKind.wrap .i64 (3 * r2)) + a2)) - 3))
/-! loop example/g00886/spec l1Put -/
inductive Ss_l1Put_c0 where
  | h1 (n0 : Int) (k1 : Int) (l2 : (List Int))
noncomputable def Bs_l1Put_c0 : Ss_l1Put_c0 → Option (Ss_l1Put_c0 ⊕ ((List Int)))
  | .h1 n0 k1 l2 =>
    if k1 < ((l2.length : Nat) : Int) then
      if 0 ≤ k1 then
        Option.bind (l2[(Int.toNat k1)]?) fun x3 =>
        if x3 < n0 then
          some (.inl (.h1 n0 (IntKind.wrap .i64 (k1 + 1)) l2))
        else
          if k1 < ((l2.length : Nat) : Int) then
            if 0 ≤ k1 then
              Option.bind (l2[(Int.toNat k1)]?) fun x7 =>
              if (x7 : Int) = n0 then
                some (.inr l2)
              else
                if (0 : Int) ≤ k1 then
                  if (k1 : Int) ≤ ((l2.length : Nat) : Int) then
                    if (List.take ((Int.toNat k1) - 0) (List.drop 0 l2)).length * 8 ≤ 70368744177664 then
                      if ((List.take ((Int.toNat k1) - 0) (List.drop 0 l2)) ++ [n0]).length * 8 ≤ 70368744177664 then
                        if (0 : Int) ≤ k1 then
                          if (k1 : Int) ≤ ((l2.length : Nat) : Int) then
                            if (((List.take ((Int.toNat k1) - 0) (List.drop 0 l2)) ++ [n0]) ++ (List.take (l2.length - (Int.toNat k1)) (List.drop (Int.toNat k1) l2))).length * 8 ≤ 70368744177664 then
                              some (.inr (((List.take ((Int.toNat k1) - 0) (List.drop 0 l2)) ++ [n0]) ++ (List.take (l2.length - (Int.toNat k1)) (List.drop (Int.toNat k1) l2))))
                            else none
                          else none
                        else none
                      else none
                    else none
                  else none
                else none
            else none
          else
            if (0 : Int) ≤ k1 then
              if (k1 : Int) ≤ ((l2.length : Nat) : Int) then
                if (List.take ((Int.toNat k1) - 0) (List.drop 0 l2)).length * 8 ≤ 70368744177664 then
                  if ((List.take ((Int.toNat k1) - 0) (List.drop 0 l2)) ++ [n0]).length * 8 ≤ 70368744177664 then
                    if (0 : Int) ≤ k1 then
                      if (k1 : Int) ≤ ((l2.length : Nat) : Int) then
                        if (((List.take ((Int.toNat k1) - 0) (List.drop 0 l2)) ++ [n0]) ++ (List.take (l2.length - (Int.toNat k1)) (List.drop (Int.toNat k1) l2))).length * 8 ≤ 70368744177664 then
                          some (.inr (((List.take ((Int.toNat k1) - 0) (List.drop 0 l2)) ++ [n0]) ++ (List.take (l2.length - (Int.toNat k1)) (List.drop (Int.toNat k1) l2))))
                        else none
                      else none
                    else none
                  else none
                else none
              else none
            else none
      else none
    else
      if k1 < ((l2.length : Nat) : Int) then
        if 0 ≤ k1 then
          Option.bind (l2[(Int.toNat k1)]?) fun x4 =>
          if (x4 : Int) = n0 then
            some (.inr l2)
          else
            if (0 : Int) ≤ k1 then
              if (k1 : Int) ≤ ((l2.length : Nat) : Int) then
                if (List.take ((Int.toNat k1) - 0) (List.drop 0 l2)).length * 8 ≤ 70368744177664 then
                  if ((List.take ((Int.toNat k1) - 0) (List.drop 0 l2)) ++ [n0]).length * 8 ≤ 70368744177664 then
                    if (0 : Int) ≤ k1 then
                      if (k1 : Int) ≤ ((l2.length : Nat) : Int) then
                        if (((List.take ((Int.toNat k1) - 0) (List.drop 0 l2)) ++ [n0]) ++ (List.take (l2.length - (Int.toNat k1)) (List.drop (Int.toNat k1) l2))).length * 8 ≤ 70368744177664 then
                          some (.inr (((List.take ((Int.toNat k1) - 0) (List.drop 0 l2)) ++ [n0]) ++ (List.take (l2.length - (Int.toNat k1)) (List.drop (Int.toNat k1) l2))))
                        else none
                      else none
                    else none
                  else none
                else none
              else none
            else none
        else none
      else
        if (0 : Int) ≤ k1 then
          if (k1 : Int) ≤ ((l2.length : Nat) : Int) then
            if (List.take ((Int.toNat k1) - 0) (List.drop 0 l2)).length * 8 ≤ 70368744177664 then
              if ((List.take ((Int.toNat k1) - 0) (List.drop 0 l2)) ++ [n0]).length * 8 ≤ 70368744177664 then
                if (0 : Int) ≤ k1 then
                  if (k1 : Int) ≤ ((l2.length : Nat) : Int) then
                    if (((List.take ((Int.toNat k1) - 0) (List.drop 0 l2)) ++ [n0]) ++ (List.take (l2.length - (Int.toNat k1)) (List.drop (Int.toNat k1) l2))).length * 8 ≤ 70368744177664 then
                      some (.inr (((List.take ((Int.toNat k1) - 0) (List.drop 0 l2)) ++ [n0]) ++ (List.take (l2.length - (Int.toNat k1)) (List.drop (Int.toNat k1) l2))))
                    else none
                  else none
                else none
              else none
            else none
          else none
        else none
noncomputable def Ds_l1Put_c0 (a0 : (List Int)) (a1 : Int) : Option ((List Int)) :=
  loop Bs_l1Put_c0 (.h1 a1 0 a0)
/-!   loop example/g00886/spec l1Cur  edges -/
inductive Ss_l1Cur_edges where
  | h1 (k0 : Int) (b1 : Gs_l1Cur) (b2 : Gi_Map) (l3 : (List Int))
noncomputable def Bs_l1Cur_edges : Ss_l1Cur_edges → Option (Ss_l1Cur_edges ⊕ ((List Int) × Gs_l1Cur))
  | .h1 k0 b1 b2 l3 =>
    if k0 > 0 then
      Option.bind (Ds_mSize b2) fun r2 =>
      Option.bind (Ds_l1Cur_pick b1 r2) fun r3 =>
      Option.bind (Ds_l1Cur_pick r3.2 6) fun r4 =>
      Option.bind (Ds_mNext b2 r3.1 r4.1) fun r5 =>
      if r5 ≥ 0 then
        Option.bind (Ds_mEdge b2 r3.1 r4.1) fun r7 =>
        Option.bind (Ds_l1Put_c0 l3 r7) fun r8 =>
        some (.inl (.h1 (IntKind.wrap .i64 (k0 - 1)) r4.2 b2 r8))
      else
        some (.inl (.h1 (IntKind.wrap .i64 (k0 - 1)) r4.2 b2 l3))
    else
      some (.inr (l3, b1))
noncomputable def Ds_l1Cur_edges (a0 : Gs_l1Cur) (a1 : Gi_Map) : Option ((List Int) × Gs_l1Cur) :=
  Option.bind (Ds_l1Cur_pick a0 8) fun r1 =>
  loop Bs_l1Cur_edges (.h1 r1.1 r1.2 a1 ([] : List Int))






/-!   loop example/g00886/spec l1Cur  mapOf -/
inductive Ss_l1Cur_mapOf where
  | h1 (terrains0 : Int) (i1 : Int) (b2 : Gs_l1Cur) (b3 : Int) (b4 : Int) (b5 : Int) (b6 : Int)
  | h2 (terrains0 : Int) (i1 : Int) (b2 : Gs_l1Cur) (b3 : Int) (b4 : Int) (b5 : Int) (b6 : Int) (l7 : (List Int))
noncomputable def Bs_l1Cur_mapOf : Ss_l1Cur_mapOf → Option (Ss_l1Cur_mapOf ⊕ (Gi_Map × Gs_l1Cur))
  | .h1 terrains0 i1 b2 b3 b4 b5 b6 =>
    Option.bind (Ds_mSize (Gi_Map.mk b5 b6 [] [] [])) fun r1 =>
    if i1 < r1 then
      Option.bind (Ds_l1Cur_one b2 3) fun r3 =>
      if r3.1 = true then
        Option.bind (Ds_l1Cur_pick r3.2 terrains0) fun r5 =>
        if [r5.1].length * 8 ≤ 70368744177664 then
          some (.inl (.h2 terrains0 (IntKind.wrap .i64 (i1 + 1)) r5.2 b3 b4 b5 b6 [r5.1]))
        else none
      else
        if [0].length * 8 ≤ 70368744177664 then
          some (.inl (.h2 terrains0 (IntKind.wrap .i64 (i1 + 1)) r3.2 b3 b4 b5 b6 [0]))
        else none
    else
      Option.bind (Ds_l1Cur_edges b2 (Gi_Map.mk b5 b6 [] [] [])) fun r3 =>
      Option.bind (Ds_l1Cur_edges r3.2 (Gi_Map.mk b5 b6 [] r3.1 [])) fun r4 =>
      some (.inr ((Gi_Map.mk b5 b6 [] r3.1 r4.1), r4.2))
  | .h2 terrains0 i1 b2 b3 b4 b5 b6 l7 =>
    Option.bind (Ds_mSize (Gi_Map.mk b5 b6 l7 [] [])) fun r1 =>
    if i1 < r1 then
      Option.bind (Ds_l1Cur_one b2 3) fun r3 =>
      if r3.1 = true then
        Option.bind (Ds_l1Cur_pick r3.2 terrains0) fun r5 =>
        if (l7 ++ [r5.1]).length * 8 ≤ 70368744177664 then
          some (.inl (.h2 terrains0 (IntKind.wrap .i64 (i1 + 1)) r5.2 b3 b4 b5 b6 (l7 ++ [r5.1])))
        else none
      else
        if (l7 ++ [0]).length * 8 ≤ 70368744177664 then
          some (.inl (.h2 terrains0 (IntKind.wrap .i64 (i1 + 1)) r3.2 b3 b4 b5 b6 (l7 ++ [0])))
        else none
    else
      Option.bind (Ds_l1Cur_edges b2 (Gi_Map.mk b5 b6 l7 [] [])) fun r3 =>
      Option.bind (Ds_l1Cur_edges r3.2 (Gi_Map.mk b5 b6 l7 r3.1 [])) fun r4 =>
      some (.inr ((Gi_Map.mk b5 b6 l7 r3.1 r4.1), r4.2))
noncomputable def Ds_l1Cur_mapOf (a0 : Gs_l1Cur) (a1 : Int) : Option (Gi_Map × Gs_l1Cur) :=
  Option.bind (Ds_l1Cur_pick a0 6) fun r1 =>
  Option.bind (Ds_l1Cur_pick r1.2 6) fun r2 =>
  loop Bs_l1Cur_mapOf (.h1 a1 0 r2.2 0 0 (IntKind.wrap .i64 (1 + r1.1)) (IntKind.wrap .i64 (1 + r2.1)))
/-!   loop example/g00886/spec l1Cur  board -/
noncomputable def Ds_l1Cur_board (a0 : Gs_l1Cur) : Option (Gi_Board × Gs_l1Cur) :=
  Option.bind (Ds_l1Cur_rules a0) fun r1 =>
  Option.bind (Ds_l1Cur_mapOf r1.2 ((r1.1.Terrains.length : Nat) : Int)) fun r2 =>
  some ((Gi_Board.mk r1.1 r2.1), r2.2)
/-!   loop example/g00886/spec l1Cur  among -/
noncomputable def Ds_l1Cur_among (a0 : Gs_l1Cur) (a1 : (List Int)) : Option (Int × Gs_l1Cur) :=
  Option.bind (Ds_l1Cur_pick a0 ((a1.length : Nat) : Int)) fun r1 =>
  if 0 ≤ r1.1 then
    Option.bind (a1[(Int.toNat r1.1)]?) fun x3 =>
    some (x3, r1.2)
  else none
/-!   loop example/g00886/spec l1Cur  of -/
noncomputable def Ds_l1Cur_of (a0 : Gs_l1Cur) (a1 : (List ByteArray)) : Option (ByteArray × Gs_l1Cur) :=
  Option.bind (Ds_l1Cur_pick a0 ((a1.length : Nat) : Int)) fun r1 =>
  if 0 ≤ r1.1 then
    Option.bind (a1[(Int.toNat r1.1)]?) fun x3 =>
    some (x3, r1.2)
  else none
/-!   loop example/g00886/spec l1Cur  anyRules -/
noncomputable def Ds_l1Cur_anyRules (a0 : Gs_l1Cur) : Option (Gi_Rules × Gs_l1Cur) :=
  Option.bind (Ds_l1Cur_rules a0) fun r1 =>
  Option.bind (Ds_l1Cur_pick r1.2 30) fun r2 =>
  if (r2.1 : Int) = 0 then
    Option.bind (r1.1.Terrains[(Int.toNat 0)]?) fun x4 =>
    Option.bind (Ds_l1Cur_among r2.2 [(-1), 9, 10, 0]) fun r5 =>
    Option.bind (x4.Cost[(Int.toNat 0)]?) fun x6 =>
    some ((Gi_Rules.mk (List.set r1.1.Terrains (Int.toNat 0) (Gi_Terrain.mk x4.Name (List.set x4.Cost (Int.toNat 0) r5.1) x4.Shift x4.Height x4.Blocks)) r1.1.Kinds r1.1.Stack r1.1.River r1.1.Road r1.1.Supply r1.1.Turns), r5.2)
  else
    if (r2.1 : Int) = 1 then
      Option.bind (Ds_l1Cur_of r2.2 [⟨#[]⟩, ⟨#[80, 108, 97, 105, 110]⟩, ⟨#[119, 111, 111, 100]⟩, ⟨#[97, 98, 99, 100, 101, 102, 103, 104]⟩, ⟨#[97, 98, 99, 100, 101, 102, 103, 104, 105]⟩]) fun r5 =>
      Option.bind (r1.1.Terrains[(Int.toNat 0)]?) fun x6 =>
      some ((Gi_Rules.mk (List.set r1.1.Terrains (Int.toNat 0) (Gi_Terrain.mk r5.1 x6.Cost x6.Shift x6.Height x6.Blocks)) r1.1.Kinds r1.1.Stack r1.1.River r1.1.Road r1.1.Supply r1.1.Turns), r5.2)
    else
      if (r2.1 : Int) = 2 then
        Option.bind (Ds_l1Cur_among r2.2 [(-1), 0, 9, 10]) fun r6 =>
        Option.bind (r1.1.Kinds[(Int.toNat 0)]?) fun x7 =>
        some ((Gi_Rules.mk r1.1.Terrains (List.set r1.1.Kinds (Int.toNat 0) (Gi_Kind.mk x7.Name x7.Strength r6.1 x7.Steps x7.Zone x7.View)) r1.1.Stack r1.1.River r1.1.Road r1.1.Supply r1.1.Turns), r6.2)
      else
        if (r2.1 : Int) = 3 then
          Option.bind (r1.1.Kinds[(Int.toNat 0)]?) fun x7 =>
          if (r1.1.Kinds ++ [x7]).length * 56 ≤ 70368744177664 then
            some ((Gi_Rules.mk r1.1.Terrains (r1.1.Kinds ++ [x7]) r1.1.Stack r1.1.River r1.1.Road r1.1.Supply r1.1.Turns), r2.2)
          else none
        else
          if (r2.1 : Int) = 4 then
            Option.bind (Ds_l1Cur_among r2.2 [0, 4, 5]) fun r8 =>
            some ((Gi_Rules.mk r1.1.Terrains r1.1.Kinds r8.1 r1.1.River r1.1.Road r1.1.Supply r1.1.Turns), r8.2)
          else
            if (r2.1 : Int) = 5 then
              Option.bind (Ds_l1Cur_among r2.2 [0, 30, 31]) fun r9 =>
              some ((Gi_Rules.mk r1.1.Terrains r1.1.Kinds r1.1.Stack r1.1.River r1.1.Road r1.1.Supply r9.1), r9.2)
            else
              if (r2.1 : Int) = 6 then
                Option.bind (Ds_l1Cur_among r2.2 [(-4), (-3), 4]) fun r10 =>
                Option.bind (r1.1.Terrains[(Int.toNat 0)]?) fun x11 =>
                some ((Gi_Rules.mk (List.set r1.1.Terrains (Int.toNat 0) (Gi_Terrain.mk x11.Name x11.Cost r10.1 x11.Height x11.Blocks)) r1.1.Kinds r1.1.Stack r1.1.River r1.1.Road r1.1.Supply r1.1.Turns), r10.2)
              else
                some (r1.1, r2.2)
/-!   loop example/g00886/spec l1Cur  anyMap -/
noncomputable def Ds_l1Cur_anyMap (a0 : Gs_l1Cur) : Option (Gi_Map × Gs_l1Cur) :=
  Option.bind (Ds_l1Cur_mapOf a0 6) fun r1 =>
  Option.bind (Ds_l1Cur_pick r1.2 30) fun r2 =>
  if (r2.1 : Int) = 0 then
    Option.bind (Ds_l1Cur_among r2.2 [0, 10, 11, (IntKind.wrap .i64 (r1.1.Width + 1))]) fun r4 =>
    some ((Gi_Map.mk r4.1 r1.1.Height r1.1.Terrain r1.1.Rivers r1.1.Roads), r4.2)
  else
    if (r2.1 : Int) = 1 then
      Option.bind (Ds_l1Cur_among r2.2 [(-1), 6]) fun r5 =>
      Option.bind (r1.1.Terrain[(Int.toNat 0)]?) fun x6 =>
      some ((Gi_Map.mk r1.1.Width r1.1.Height (List.set r1.1.Terrain (Int.toNat 0) r5.1) r1.1.Rivers r1.1.Roads), r5.2)
    else
      if (r2.1 : Int) = 2 then
        Option.bind (Ds_mSize r1.1) fun r6 =>
        Option.bind (Ds_mSize r1.1) fun r7 =>
        Option.bind (Ds_l1Cur_among r2.2 [0, (IntKind.wrap .i64 (3 * r6)), (IntKind.wrap .i64 ((IntKind.wrap .i64 (3 * r7)) - 1)), (-1)]) fun r8 =>
        if (r1.1.Rivers ++ [r8.1]).length * 8 ≤ 70368744177664 then
          some ((Gi_Map.mk r1.1.Width r1.1.Height r1.1.Terrain (r1.1.Rivers ++ [r8.1]) r1.1.Roads), r8.2)
        else none
      else
        if (r2.1 : Int) = 3 then
          if ([2] ++ r1.1.Roads).length * 8 ≤ 70368744177664 then
            some ((Gi_Map.mk r1.1.Width r1.1.Height r1.1.Terrain r1.1.Rivers ([2] ++ r1.1.Roads)), r2.2)
          else none
        else
          some (r1.1, r2.2)
/-!   loop example/g00886/spec l1Cur  anyBoard -/
noncomputable def Ds_l1Cur_anyBoard (a0 : Gs_l1Cur) : Option (Gi_Board × Gs_l1Cur) :=
  Option.bind (Ds_l1Cur_board a0) fun r1 =>
  Option.bind (Ds_l1Cur_pick r1.2 24) fun r2 =>
  if (r2.1 : Int) = 0 then
    Option.bind (Ds_l1Cur_anyRules r2.2) fun r4 =>
    some ((Gi_Board.mk r4.1 r1.1.Map), r4.2)
  else
    if (r2.1 : Int) = 1 then
      Option.bind (Ds_l1Cur_anyMap r2.2) fun r5 =>
      some ((Gi_Board.mk r1.1.Rules r5.1), r5.2)
    else
      some (r1.1, r2.2)
/-! loop example/g00886/spec DrawIsBoard -/
noncomputable def Ds_DrawIsBoard (a0 : (List Int)) : Option (Gi_Board) :=
  Option.bind (Ds_l1Cur_anyBoard (Gs_l1Cur.mk a0 0 0)) fun r1 =>
  some r1.1
/-! loop example/g00886/spec DrawStuckKinds -/
noncomputable def Ds_DrawStuckKinds (a0 : (List Int)) : Option (Gi_Board) :=
  Option.bind (Ds_DrawIsBoard a0) fun r1 =>
  some r1
/-! loop example/g00886/impl inRange -/
noncomputable def Di_inRange (a0 : Int) (a1 : Int) (a2 : Int) : Option (Bool) :=
  if a1 ≤ a0 then
    some (decide (a0 ≤ a2))
  else
    some false
/-! loop example/g00886/impl isName -/
inductive Si_isName where
  | h1 (s0 : ByteArray) (i1 : Int)
noncomputable def Bi_isName : Si_isName → Option (Si_isName ⊕ (Bool))
  | .h1 s0 i1 =>
    if i1 < ((ByteArray.size s0 : Nat) : Int) then
      if 0 ≤ i1 then
        if i1 < (ByteArray.size s0 : Int) then
          if ((byteAt s0 (Int.toNat i1) : Nat) : Int) < 97 then
            some (.inr false)
          else
            if 0 ≤ i1 then
              if i1 < (ByteArray.size s0 : Int) then
                if ((byteAt s0 (Int.toNat i1) : Nat) : Int) > 122 then
                  some (.inr false)
                else
                  some (.inl (.h1 s0 (IntKind.wrap .i64 (i1 + 1))))
              else none
            else none
        else none
      else none
    else
      Option.bind (Di_inRange ((ByteArray.size s0 : Nat) : Int) 1 8) fun r2 =>
      some (.inr r2)
noncomputable def Di_isName (a0 : ByteArray) : Option (Bool) :=
  loop Bi_isName (.h1 a0 0)
/-! loop example/g00886/impl goodTerrain 1 -/
noncomputable def Di_goodTerrain_1 (a0 : Int) : Option (Bool) :=
  Option.bind (Di_inRange a0 0 9) fun r1 =>
  some (!r1)
/-! slices IndexFunc   int int  -/
inductive Sslices_IndexFunc_int_i_goodTerrain_1 where
  | h1 (s0 : (List Int)) (t1 : Int) (t2 : Int)
noncomputable def Bslices_IndexFunc_int_i_goodTerrain_1 : Sslices_IndexFunc_int_i_goodTerrain_1 → Option (Sslices_IndexFunc_int_i_goodTerrain_1 ⊕ (Int))
  | .h1 s0 t1 t2 =>
    if t2 < t1 then
      if 0 ≤ t2 then
        Option.bind (s0[(Int.toNat t2)]?) fun x3 =>
        Option.bind (Di_goodTerrain_1 x3) fun r4 =>
        if r4 = true then
          some (.inr t2)
        else
          some (.inl (.h1 s0 t1 (IntKind.wrap .i64 (t2 + 1))))
      else none
    else
      some (.inr (-1))
noncomputable def Dslices_IndexFunc_int_i_goodTerrain_1 (a0 : (List Int)) : Option (Int) :=
  loop Bslices_IndexFunc_int_i_goodTerrain_1 (.h1 a0 ((a0.length : Nat) : Int) 0)
/-! slices ContainsFunc   int int  -/
noncomputable def Dslices_ContainsFunc_int_i_goodTerrain_1 (a0 : (List Int)) : Option (Bool) :=
  Option.bind (Dslices_IndexFunc_int_i_goodTerrain_1 a0) fun r1 =>
  some (decide (r1 ≥ 0))
/-! loop example/g00886/impl goodTerrain -/
noncomputable def Di_goodTerrain (a0 : Gi_Terrain) (a1 : Int) : Option (Bool) :=
  Option.bind (Di_isName a0.Name) fun r1 =>
  if r1 = true then
    if (((a0.Cost.length : Nat) : Int) : Int) = a1 then
      Option.bind (Di_inRange a0.Shift (-3) 3) fun r4 =>
      if r4 = true then
        Option.bind (Di_inRange a0.Height 0 3) fun r6 =>
        if r6 = true then
          Option.bind (Dslices_ContainsFunc_int_i_goodTerrain_1 a0.Cost) fun r8 =>
          some (!r8)
        else
          some false
      else
        some false
    else
      some false
  else
    some false
/-! loop example/g00886/impl terrainIndex 1 -/
noncomputable def Di_terrainIndex_1 (a0 : Gi_Terrain) (a1 : ByteArray) : Option (Bool) :=
  some (a0.Name == a1)
/-! slices IndexFunc   loop example/g00886/impl Terrain loop example/g00886/impl Terrain  -/
inductive Sslices_IndexFunc_i_Terrain_i_terrainIndex_1 where
  | h1 (s0 : (List Gi_Terrain)) (f1 : ByteArray) (t2 : Int) (t3 : Int)
noncomputable def Bslices_IndexFunc_i_Terrain_i_terrainIndex_1 : Sslices_IndexFunc_i_Terrain_i_terrainIndex_1 → Option (Sslices_IndexFunc_i_Terrain_i_terrainIndex_1 ⊕ (Int))
  | .h1 s0 f1 t2 t3 =>
    if t3 < t2 then
      if 0 ≤ t3 then
        Option.bind (s0[(Int.toNat t3)]?) fun x3 =>
        Option.bind (Di_terrainIndex_1 x3 f1) fun r4 =>
        if r4 = true then
          some (.inr t3)
        else
          some (.inl (.h1 s0 f1 t2 (IntKind.wrap .i64 (t3 + 1))))
      else none
    else
      some (.inr (-1))
noncomputable def Dslices_IndexFunc_i_Terrain_i_terrainIndex_1 (a0 : (List Gi_Terrain)) (a100 : ByteArray) : Option (Int) :=
  loop Bslices_IndexFunc_i_Terrain_i_terrainIndex_1 (.h1 a0 a100 ((a0.length : Nat) : Int) 0)
/-! loop example/g00886/impl terrainIndex -/
noncomputable def Di_terrainIndex (a0 : (List Gi_Terrain)) (a1 : ByteArray) : Option (Int) :=
  Option.bind (Dslices_IndexFunc_i_Terrain_i_terrainIndex_1 a0 a1) fun r1 =>
  some r1
/-! loop example/g00886/impl goodKind -/
noncomputable def Di_goodKind (a0 : Gi_Kind) : Option (Bool) :=
  Option.bind (Di_isName a0.Name) fun r1 =>
  if r1 = true then
    Option.bind (Di_inRange a0.Strength 1 9) fun r3 =>
    if r3 = true then
      Option.bind (Di_inRange a0.Moves 0 9) fun r5 =>
      if r5 = true then
        Option.bind (Di_inRange a0.Steps 1 4) fun r7 =>
        if r7 = true then
          Option.bind (Di_inRange a0.View 0 4) fun r9 =>
          some r9
        else
          some false
      else
        some false
    else
      some false
  else
    some false
/-! loop example/g00886/impl kindIndex 1 -/
noncomputable def Di_kindIndex_1 (a0 : Gi_Kind) (a1 : ByteArray) : Option (Bool) :=
  some (a0.Name == a1)
/-! slices IndexFunc   loop example/g00886/impl Kind loop example/g00886/impl Kind  -/
inductive Sslices_IndexFunc_i_Kind_i_kindIndex_1 where
  | h1 (s0 : (List Gi_Kind)) (f1 : ByteArray) (t2 : Int) (t3 : Int)
noncomputable def Bslices_IndexFunc_i_Kind_i_kindIndex_1 : Sslices_IndexFunc_i_Kind_i_kindIndex_1 → Option (Sslices_IndexFunc_i_Kind_i_kindIndex_1 ⊕ (Int))
  | .h1 s0 f1 t2 t3 =>
    if t3 < t2 then
      if 0 ≤ t3 then
        Option.bind (s0[(Int.toNat t3)]?) fun x3 =>
        Option.bind (Di_kindIndex_1 x3 f1) fun r4 =>
        if r4 = true then
          some (.inr t3)
        else
          some (.inl (.h1 s0 f1 t2 (IntKind.wrap .i64 (t3 + 1))))
      else none
    else
      some (.inr (-1))
noncomputable def Dslices_IndexFunc_i_Kind_i_kindIndex_1 (a0 : (List Gi_Kind)) (a100 : ByteArray) : Option (Int) :=
  loop Bslices_IndexFunc_i_Kind_i_kindIndex_1 (.h1 a0 a100 ((a0.length : Nat) : Int) 0)
/-! loop example/g00886/impl kindIndex -/
noncomputable def Di_kindIndex (a0 : (List Gi_Kind)) (a1 : ByteArray) : Option (Int) :=
  Option.bind (Dslices_IndexFunc_i_Kind_i_kindIndex_1 a0 a1) fun r1 =>
  some r1
/-! loop example/g00886/impl IsRules -/
inductive Si_IsRules where
  | h1 (t0 : (List Gi_Terrain)) (t1 : Int) (t2 : Int) (b3 : Gi_Rules)
  | h2 (t0 : (List Gi_Kind)) (t1 : Int) (t2 : Int) (b3 : Gi_Rules)
noncomputable def Bi_IsRules : Si_IsRules → Option (Si_IsRules ⊕ (Bool))
  | .h1 t0 t1 t2 b3 =>
    if t2 < t1 then
      if 0 ≤ t2 then
        Option.bind (t0[(Int.toNat t2)]?) fun x3 =>
        Option.bind (Di_goodTerrain x3 ((b3.Kinds.length : Nat) : Int)) fun r4 =>
        if r4 = true then
          Option.bind (Di_terrainIndex b3.Terrains x3.Name) fun r6 =>
          if (r6 : Int) = t2 then
            some (.inl (.h1 t0 t1 (IntKind.wrap .i64 (t2 + 1)) b3))
          else
            some (.inr false)
        else
          some (.inr false)
      else none
    else
      some (.inl (.h2 b3.Kinds ((b3.Kinds.length : Nat) : Int) 0 b3))
  | .h2 t0 t1 t2 b3 =>
    if t2 < t1 then
      if 0 ≤ t2 then
        Option.bind (t0[(Int.toNat t2)]?) fun x3 =>
        Option.bind (Di_goodKind x3) fun r4 =>
        if r4 = true then
          Option.bind (Di_kindIndex b3.Kinds x3.Name) fun r6 =>
          if (r6 : Int) = t2 then
            some (.inl (.h2 t0 t1 (IntKind.wrap .i64 (t2 + 1)) b3))
          else
            some (.inr false)
        else
          some (.inr false)
      else none
    else
      Option.bind (Di_inRange b3.Stack 1 4) fun r2 =>
      if r2 = true then
        Option.bind (Di_inRange b3.River 0 9) fun r4 =>
        if r4 = true then
          Option.bind (Di_inRange b3.Road 1 9) fun r6 =>
          if r6 = true then
            Option.bind (Di_inRange b3.Supply 0 20) fun r8 =>
            if r8 = true then
              Option.bind (Di_inRange b3.Turns 1 30) fun r10 =>
              some (.inr r10)
            else
              some (.inr false)
          else
            some (.inr false)
        else
          some (.inr false)
      else
        some (.inr false)
noncomputable def Di_IsRules (a0 : Gi_Rules) : Option (Bool) :=
  Option.bind (Di_inRange ((a0.Terrains.length : Nat) : Int) 1 6) fun r1 =>
  if r1 = true then
    Option.bind (Di_inRange ((a0.Kinds.length : Nat) : Int) 1 4) fun r3 =>
    if r3 = true then
      loop Bi_IsRules (.h1 a0.Terrains ((a0.Terrains.length : Nat) : Int) 0 a0)
    else
      some false
  else
    some false
/-! loop example/g00886/impl isIndex -/
noncomputable def Di_isIndex (a0 : Int) (a1 : Int) : Option (Bool) :=
  Option.bind (Di_inRange a0 0 (IntKind.wrap .i64 (a1 - 1))) fun r1 =>
  some r1
/-! loop example/g00886/impl increasing -/
inductive Si_increasing where
  | h1 (list0 : (List Int)) (i1 : Int)
noncomputable def Bi_increasing : Si_increasing → Option (Si_increasing ⊕ (Bool))
  | .h1 list0 i1 =>
    if i1 < ((list0.length : Nat) : Int) then
      if 0 ≤ (IntKind.wrap .i64 (i1 - 1)) then
        Option.bind (list0[(Int.toNat (IntKind.wrap .i64 (i1 - 1)))]?) fun x3 =>
        if 0 ≤ i1 then
          Option.bind (list0[(Int.toNat i1)]?) fun x5 =>
          if x3 ≥ x5 then
            some (.inr false)
          else
            some (.inl (.h1 list0 (IntKind.wrap .i64 (i1 + 1))))
        else none
      else none
    else
      some (.inr true)
noncomputable def Di_increasing (a0 : (List Int)) : Option (Bool) :=
  loop Bi_increasing (.h1 a0 1)
/-! loop example/g00886/impl hexOf -/
noncomputable def Di_hexOf (a0 : Gi_Map) (a1 : Int) : Option (Gi_Hex) :=
  if ¬ a0.Width = 0 then
    if ¬ a0.Width = 0 then
      some (Gi_Hex.mk (Int.tmod a1 a0.Width) (IntKind.wrap .i64 (Int.tdiv a1 a0.Width)))
    else none
  else none
/-! loop example/g00886/impl stepBy -/
noncomputable def Di_stepBy (a0 : Gi_Hex) (a1 : Int) (a2 : Int) : Option (Gi_Hex) :=
  if 0 ≤ a1 then
    Option.bind (gv0[Int.toNat a1]?) fun x2 =>
    if 0 ≤ a1 then
      Option.bind (gv0[Int.toNat a1]?) fun x4 =>
      some (Gi_Hex.mk (IntKind.wrap .i64 (a0.Q + (IntKind.wrap .i64 (a2 * x2.Q)))) (IntKind.wrap .i64 (a0.R + (IntKind.wrap .i64 (a2 * x4.R)))))
    else none
  else none
/-! loop example/g00886/impl indexOf -/
noncomputable def Di_indexOf (a0 : Gi_Map) (a1 : Gi_Hex) : Option (Int) :=
  Option.bind (Di_isIndex a1.Q a0.Width) fun r1 =>
  if r1 = true then
    Option.bind (Di_isIndex a1.R a0.Height) fun r3 =>
    if r3 = true then
      some (IntKind.wrap .i64 ((IntKind.wrap .i64 (a1.R * a0.Width)) + a1.Q))
    else
      some (-1)
  else
    some (-1)
/-! loop example/g00886/impl nextTo -/
noncomputable def Di_nextTo (a0 : Gi_Map) (a1 : Int) (a2 : Int) : Option (Int) :=
  Option.bind (Di_hexOf a0 a1) fun r1 =>
  Option.bind (Di_stepBy r1 a2 1) fun r2 =>
  Option.bind (Di_indexOf a0 r2) fun r3 =>
  some r3
/-! loop example/g00886/impl isEdge -/
noncomputable def Di_isEdge (a0 : Gi_Map) (a1 : Int) : Option (Bool) :=
  Option.bind (Di_inRange a1 0 (IntKind.wrap .i64 ((IntKind.wrap .i64 ((IntKind.wrap .i64 (3 * a0.Width)) * a0.Height)) - 1))) fun r1 =>
  if r1 = true then
    Option.bind (Di_nextTo a0 (IntKind.wrap .i64 (Int.tdiv a1 3)) (Int.tmod a1 3)) fun r3 =>
    some (decide (r3 ≥ 0))
  else
    some false
/-! loop example/g00886/impl IsMap -/
inductive Si_IsMap where
  | h1 (t0 : (List Int)) (t1 : Int) (t2 : Int) (b3 : Gi_Map)
  | h2 (t0 : Int) (t1 : Int) (b2 : Gi_Map) (l3 : (List (List Int)))
  | h3 (t0 : Int) (t1 : Int) (t2 : (List Int)) (t3 : Int) (t4 : Int) (b5 : Gi_Map) (l6 : (List (List Int)))
noncomputable def Bi_IsMap : Si_IsMap → Option (Si_IsMap ⊕ (Bool))
  | .h1 t0 t1 t2 b3 =>
    if t2 < t1 then
      if 0 ≤ t2 then
        Option.bind (t0[(Int.toNat t2)]?) fun x3 =>
        Option.bind (Di_isIndex x3 6) fun r4 =>
        if r4 = true then
          some (.inl (.h1 t0 t1 (IntKind.wrap .i64 (t2 + 1)) b3))
        else
          some (.inr false)
      else none
    else
      some (.inl (.h2 (([b3.Rivers, b3.Roads].length : Nat) : Int) 0 b3 [b3.Rivers, b3.Roads]))
  | .h2 t0 t1 b2 l3 =>
    if t1 < t0 then
      if 0 ≤ t1 then
        Option.bind (l3[(Int.toNat t1)]?) fun x3 =>
        Option.bind (Di_increasing x3) fun r4 =>
        if r4 = true then
          some (.inl (.h3 t0 t1 x3 ((x3.length : Nat) : Int) 0 b2 l3))
        else
          some (.inr false)
      else none
    else
      some (.inr true)
  | .h3 t0 t1 t2 t3 t4 b5 l6 =>
    if t4 < t3 then
      if 0 ≤ t4 then
        Option.bind (t2[(Int.toNat t4)]?) fun x3 =>
        Option.bind (Di_isEdge b5 x3) fun r4 =>
        if r4 = true then
          some (.inl (.h3 t0 t1 t2 t3 (IntKind.wrap .i64 (t4 + 1)) b5 l6))
        else
          some (.inr false)
      else none
    else
      some (.inl (.h2 t0 (IntKind.wrap .i64 (t1 + 1)) b5 l6))
noncomputable def Di_IsMap (a0 : Gi_Map) : Option (Bool) :=
  Option.bind (Di_inRange a0.Width 1 10) fun r1 =>
  if r1 = true then
    Option.bind (Di_inRange a0.Height 1 10) fun r3 =>
    if r3 = true then
      if (((a0.Terrain.length : Nat) : Int) : Int) = (IntKind.wrap .i64 (a0.Width * a0.Height)) then
        loop Bi_IsMap (.h1 a0.Terrain ((a0.Terrain.length : Nat) : Int) 0 a0)
      else
        some false
    else
      some false
  else
    some false
/-! loop example/g00886/impl IsBoard 1 -/
noncomputable def Di_IsBoard_1 (a0 : Int) (a1 : Gi_Board) : Option (Bool) :=
  some (decide (a0 ≥ ((a1.Rules.Terrains.length : Nat) : Int)))
/-! slices IndexFunc   int int  -/
inductive Sslices_IndexFunc_int_i_IsBoard_1 where
  | h1 (s0 : (List Int)) (f1 : Gi_Board) (t2 : Int) (t3 : Int)
noncomputable def Bslices_IndexFunc_int_i_IsBoard_1 : Sslices_IndexFunc_int_i_IsBoard_1 → Option (Sslices_IndexFunc_int_i_IsBoard_1 ⊕ (Int))
  | .h1 s0 f1 t2 t3 =>
    if t3 < t2 then
      if 0 ≤ t3 then
        Option.bind (s0[(Int.toNat t3)]?) fun x3 =>
        Option.bind (Di_IsBoard_1 x3 f1) fun r4 =>
        if r4 = true then
          some (.inr t3)
        else
          some (.inl (.h1 s0 f1 t2 (IntKind.wrap .i64 (t3 + 1))))
      else none
    else
      some (.inr (-1))
noncomputable def Dslices_IndexFunc_int_i_IsBoard_1 (a0 : (List Int)) (a100 : Gi_Board) : Option (Int) :=
  loop Bslices_IndexFunc_int_i_IsBoard_1 (.h1 a0 a100 ((a0.length : Nat) : Int) 0)
/-! slices ContainsFunc   int int  -/
noncomputable def Dslices_ContainsFunc_int_i_IsBoard_1 (a0 : (List Int)) (a100 : Gi_Board) : Option (Bool) :=
  Option.bind (Dslices_IndexFunc_int_i_IsBoard_1 a0 a100) fun r1 =>
  some (decide (r1 ≥ 0))
/-! loop example/g00886/impl IsBoard -/
noncomputable def Di_IsBoard (a0 : Gi_Board) : Option (Bool) :=
  Option.bind (Di_IsRules a0.Rules) fun r1 =>
  if r1 = true then
    Option.bind (Di_IsMap a0.Map) fun r3 =>
    if r3 = true then
      Option.bind (Dslices_ContainsFunc_int_i_IsBoard_1 a0.Map.Terrain a0) fun r5 =>
      some (!r5)
    else
      some false
  else
    some false
/-! loop example/g00886/impl terrainAt -/
noncomputable def Di_terrainAt (a0 : Gi_Board) (a1 : Int) : Option (Gi_Terrain) :=
  if 0 ≤ a1 then
    Option.bind (a0.Map.Terrain[(Int.toNat a1)]?) fun x2 =>
    if 0 ≤ x2 then
      Option.bind (a0.Rules.Terrains[(Int.toNat x2)]?) fun x4 =>
      some x4
    else none
  else none
/-! loop example/g00886/impl enterCost -/
noncomputable def Di_enterCost (a0 : Gi_Board) (a1 : Int) (a2 : Int) : Option (Int) :=
  Option.bind (Di_terrainAt a0 a2) fun r1 =>
  if 0 ≤ a1 then
    Option.bind (r1.Cost[(Int.toNat a1)]?) fun x3 =>
    some x3
  else none
/-! loop example/g00886/impl openHexes -/
inductive Si_openHexes where
  | h1 (kind0 : Int) (t1 : Int) (t2 : Int) (b3 : Gi_Board) (l4 : (List Int))
noncomputable def Bi_openHexes : Si_openHexes → Option (Si_openHexes ⊕ ((List Int)))
  | .h1 kind0 t1 t2 b3 l4 =>
    if t2 < t1 then
      Option.bind (Di_enterCost b3 kind0 t2) fun r2 =>
      if (r2 : Int) = 0 then
        some (.inl (.h1 kind0 t1 (IntKind.wrap .i64 (t2 + 1)) b3 l4))
      else
        if (l4 ++ [t2]).length * 8 ≤ 70368744177664 then
          some (.inl (.h1 kind0 t1 (IntKind.wrap .i64 (t2 + 1)) b3 (l4 ++ [t2])))
        else none
    else
      some (.inr l4)
noncomputable def Di_openHexes (a0 : Gi_Board) (a1 : Int) : Option ((List Int)) :=
  loop Bi_openHexes (.h1 a1 ((a0.Map.Terrain.length : Nat) : Int) 0 a0 ([] : List Int))
/-! loop example/g00886/impl neighboursOn -/
inductive Si_neighboursOn where
  | h1 (i0 : Int) (t1 : Int) (b2 : Gi_Map) (l3 : (List Int))
noncomputable def Bi_neighboursOn : Si_neighboursOn → Option (Si_neighboursOn ⊕ ((List Int)))
  | .h1 i0 t1 b2 l3 =>
    if t1 < 6 then
      Option.bind (Di_nextTo b2 i0 t1) fun r2 =>
      if r2 ≥ 0 then
        if (l3 ++ [r2]).length * 8 ≤ 70368744177664 then
          some (.inl (.h1 i0 (IntKind.wrap .i64 (t1 + 1)) b2 (l3 ++ [r2])))
        else none
      else
        some (.inl (.h1 i0 (IntKind.wrap .i64 (t1 + 1)) b2 l3))
    else
      some (.inr l3)
noncomputable def Di_neighboursOn (a0 : Gi_Map) (a1 : Int) : Option ((List Int)) :=
  loop Bi_neighboursOn (.h1 a1 0 a0 ([] : List Int))
/-! loop example/g00886/impl isStuck -/
inductive Si_isStuck where
  | h1 (kind0 : Int) (least1 : Int) (t2 : Int) (t3 : Int) (b4 : Gi_Board) (l5 : (List Int))
  | h2 (kind0 : Int) (least1 : Int) (i2 : Int) (t3 : Int) (t4 : Int) (t5 : Int) (t6 : Int) (b7 : Gi_Board) (l8 : (List Int)) (l9 : (List Int))
noncomputable def Bi_isStuck : Si_isStuck → Option (Si_isStuck ⊕ (Bool))
  | .h1 kind0 least1 t2 t3 b4 l5 =>
    if t3 < t2 then
      if 0 ≤ t3 then
        Option.bind (l5[(Int.toNat t3)]?) fun x3 =>
        Option.bind (Di_neighboursOn b4.Map x3) fun r4 =>
        some (.inl (.h2 kind0 least1 x3 t2 t3 ((r4.length : Nat) : Int) 0 b4 l5 r4))
      else none
    else
      if (least1 : Int) = 0 then
        some (.inr true)
      else
        if 0 ≤ kind0 then
          Option.bind (b4.Rules.Kinds[(Int.toNat kind0)]?) fun x4 =>
          some (.inr (decide (x4.Moves < least1)))
        else none
  | .h2 kind0 least1 i2 t3 t4 t5 t6 b7 l8 l9 =>
    if t6 < t5 then
      if 0 ≤ t6 then
        Option.bind (l9[(Int.toNat t6)]?) fun x3 =>
        Option.bind (Di_enterCost b7 kind0 i2) fun r4 =>
        Option.bind (Di_enterCost b7 kind0 x3) fun r5 =>
        if (r5 : Int) = 0 then
          some (.inl (.h2 kind0 least1 i2 t3 t4 t5 (IntKind.wrap .i64 (t6 + 1)) b7 l8 l9))
        else
          if (least1 : Int) = 0 then
            some (.inl (.h2 kind0 r4 i2 t3 t4 t5 (IntKind.wrap .i64 (t6 + 1)) b7 l8 l9))
          else
            if r4 < least1 then
              some (.inl (.h2 kind0 r4 i2 t3 t4 t5 (IntKind.wrap .i64 (t6 + 1)) b7 l8 l9))
            else
              some (.inl (.h2 kind0 least1 i2 t3 t4 t5 (IntKind.wrap .i64 (t6 + 1)) b7 l8 l9))
      else none
    else
      some (.inl (.h1 kind0 least1 t3 (IntKind.wrap .i64 (t4 + 1)) b7 l8))
noncomputable def Di_isStuck (a0 : Gi_Board) (a1 : Int) : Option (Bool) :=
  Option.bind (Di_openHexes a0 a1) fun r1 =>
  loop Bi_isStuck (.h1 a1 0 ((r1.length : Nat) : Int) 0 a0 r1)
/-! loop example/g00886/impl StuckKinds -/
inductive Si_StuckKinds where
  | h1 (t0 : Int) (t1 : Int) (b2 : Gi_Board) (l3 : (List Int))
noncomputable def Bi_StuckKinds : Si_StuckKinds → Option (Si_StuckKinds ⊕ ((List Int) × Bool))
  | .h1 t0 t1 b2 l3 =>
    if t1 < t0 then
      Option.bind (Di_isStuck b2 t1) fun r2 =>
      if r2 = true then
        if (l3 ++ [t1]).length * 8 ≤ 70368744177664 then
          some (.inl (.h1 t0 (IntKind.wrap .i64 (t1 + 1)) b2 (l3 ++ [t1])))
        else none
      else
        some (.inl (.h1 t0 (IntKind.wrap .i64 (t1 + 1)) b2 l3))
    else
      some (.inr (l3, true))
noncomputable def Di_StuckKinds (a0 : Gi_Board) : Option ((List Int) × Bool) :=
  Option.bind (Di_IsBoard a0) fun r1 =>
  if r1 = true then
    loop Bi_StuckKinds (.h1 ((a0.Rules.Kinds.length : Nat) : Int) 0 a0 ([] : List Int))
  else
    some ([], false)
/-! loop example/g00886/spec rName -/
inductive Ss_rName where
  | h1 (s0 : ByteArray) (i1 : Int)
noncomputable def Bs_rName : Ss_rName → Option (Ss_rName ⊕ (Bool))
  | .h1 s0 i1 =>
    if i1 < ((ByteArray.size s0 : Nat) : Int) then
      if 0 ≤ i1 then
        if i1 < (ByteArray.size s0 : Int) then
          if ((byteAt s0 (Int.toNat i1) : Nat) : Int) < 97 then
            some (.inr false)
          else
            if 0 ≤ i1 then
              if i1 < (ByteArray.size s0 : Int) then
                if ((byteAt s0 (Int.toNat i1) : Nat) : Int) > 122 then
                  some (.inr false)
                else
                  some (.inl (.h1 s0 (IntKind.wrap .i64 (i1 + 1))))
              else none
            else none
        else none
      else none
    else
      Option.bind (Ds_l1In ((ByteArray.size s0 : Nat) : Int) 1 8) fun r2 =>
      some (.inr r2)
noncomputable def Ds_rName (a0 : ByteArray) : Option (Bool) :=
  loop Bs_rName (.h1 a0 0)
/-! loop example/g00886/spec rTerrain -/
inductive Ss_rTerrain where
  | h1 (name0 : ByteArray) (t1 : (List Gi_Terrain)) (t2 : Int) (t3 : Int)
noncomputable def Bs_rTerrain : Ss_rTerrain → Option (Ss_rTerrain ⊕ (Int))
  | .h1 name0 t1 t2 t3 =>
    if t3 < t2 then
      if 0 ≤ t3 then
        Option.bind (t1[(Int.toNat t3)]?) fun x3 =>
        if x3.Name = name0 then
          some (.inr t3)
        else
          some (.inl (.h1 name0 t1 t2 (IntKind.wrap .i64 (t3 + 1))))
      else none
    else
      some (.inr (-1))
noncomputable def Ds_rTerrain (a0 : (List Gi_Terrain)) (a1 : ByteArray) : Option (Int) :=
  loop Bs_rTerrain (.h1 a1 a0 ((a0.length : Nat) : Int) 0)
/-! loop example/g00886/spec l1All -/
inductive Ss_l1All where
  | h1 (lo0 : Int) (vhi1 : Int) (t2 : (List Int)) (t3 : Int) (t4 : Int)
noncomputable def Bs_l1All : Ss_l1All → Option (Ss_l1All ⊕ (Bool))
  | .h1 lo0 vhi1 t2 t3 t4 =>
    if t4 < t3 then
      if 0 ≤ t4 then
        Option.bind (t2[(Int.toNat t4)]?) fun x3 =>
        Option.bind (Ds_l1In x3 lo0 vhi1) fun r4 =>
        if r4 = true then
          some (.inl (.h1 lo0 vhi1 t2 t3 (IntKind.wrap .i64 (t4 + 1))))
        else
          some (.inr false)
      else none
    else
      some (.inr true)
noncomputable def Ds_l1All (a0 : (List Int)) (a1 : Int) (a2 : Int) : Option (Bool) :=
  loop Bs_l1All (.h1 a1 a2 a0 ((a0.length : Nat) : Int) 0)
/-! loop example/g00886/spec rKind -/
inductive Ss_rKind where
  | h1 (name0 : ByteArray) (t1 : (List Gi_Kind)) (t2 : Int) (t3 : Int)
noncomputable def Bs_rKind : Ss_rKind → Option (Ss_rKind ⊕ (Int))
  | .h1 name0 t1 t2 t3 =>
    if t3 < t2 then
      if 0 ≤ t3 then
        Option.bind (t1[(Int.toNat t3)]?) fun x3 =>
        if x3.Name = name0 then
          some (.inr t3)
        else
          some (.inl (.h1 name0 t1 t2 (IntKind.wrap .i64 (t3 + 1))))
      else none
    else
      some (.inr (-1))
noncomputable def Ds_rKind (a0 : (List Gi_Kind)) (a1 : ByteArray) : Option (Int) :=
  loop Bs_rKind (.h1 a1 a0 ((a0.length : Nat) : Int) 0)
/-! loop example/g00886/spec rGood -/
inductive Ss_rGood where
  | h1 (t0 : (List Gi_Terrain)) (t1 : Int) (t2 : Int) (b3 : Gi_Rules)
  | h2 (t0 : (List Gi_Kind)) (t1 : Int) (t2 : Int) (b3 : Gi_Rules)
noncomputable def Bs_rGood : Ss_rGood → Option (Ss_rGood ⊕ (Bool))
  | .h1 t0 t1 t2 b3 =>
    if t2 < t1 then
      if 0 ≤ t2 then
        Option.bind (t0[(Int.toNat t2)]?) fun x3 =>
        Option.bind (Ds_rName x3.Name) fun r4 =>
        if r4 = true then
          Option.bind (Ds_rTerrain b3.Terrains x3.Name) fun r6 =>
          if (r6 : Int) = t2 then
            if (((x3.Cost.length : Nat) : Int) : Int) = ((b3.Kinds.length : Nat) : Int) then
              Option.bind (Ds_l1All x3.Cost 0 9) fun r9 =>
              if r9 = true then
                Option.bind (Ds_l1In x3.Shift (-3) 3) fun r11 =>
                if r11 = true then
                  Option.bind (Ds_l1In x3.Height 0 3) fun r13 =>
                  if r13 = true then
                    some (.inl (.h1 t0 t1 (IntKind.wrap .i64 (t2 + 1)) b3))
                  else
                    some (.inr false)
                else
                  some (.inr false)
              else
                some (.inr false)
            else
              some (.inr false)
          else
            some (.inr false)
        else
          some (.inr false)
      else none
    else
      some (.inl (.h2 b3.Kinds ((b3.Kinds.length : Nat) : Int) 0 b3))
  | .h2 t0 t1 t2 b3 =>
    if t2 < t1 then
      if 0 ≤ t2 then
        Option.bind (t0[(Int.toNat t2)]?) fun x3 =>
        Option.bind (Ds_rName x3.Name) fun r4 =>
        if r4 = true then
          Option.bind (Ds_rKind b3.Kinds x3.Name) fun r6 =>
          if (r6 : Int) = t2 then
            Option.bind (Ds_l1In x3.Strength 1 9) fun r8 =>
            if r8 = true then
              Option.bind (Ds_l1In x3.Moves 0 9) fun r10 =>
              if r10 = true then
                Option.bind (Ds_l1In x3.Steps 1 4) fun r12 =>
                if r12 = true then
                  Option.bind (Ds_l1In x3.View 0 4) fun r14 =>
                  if r14 = true then
                    some (.inl (.h2 t0 t1 (IntKind.wrap .i64 (t2 + 1)) b3))
                  else
                    some (.inr false)
                else
                  some (.inr false)
              else
                some (.inr false)
            else
              some (.inr false)
          else
            some (.inr false)
        else
          some (.inr false)
      else none
    else
      Option.bind (Ds_l1In b3.Stack 1 4) fun r2 =>
      if r2 = true then
        Option.bind (Ds_l1In b3.River 0 9) fun r4 =>
        if r4 = true then
          Option.bind (Ds_l1In b3.Road 1 9) fun r6 =>
          if r6 = true then
            Option.bind (Ds_l1In b3.Supply 0 20) fun r8 =>
            if r8 = true then
              Option.bind (Ds_l1In b3.Turns 1 30) fun r10 =>
              some (.inr r10)
            else
              some (.inr false)
          else
            some (.inr false)
        else
          some (.inr false)
      else
        some (.inr false)
noncomputable def Ds_rGood (a0 : Gi_Rules) : Option (Bool) :=
  Option.bind (Ds_l1In ((a0.Terrains.length : Nat) : Int) 1 6) fun r1 =>
  if r1 = true then
    Option.bind (Ds_l1In ((a0.Kinds.length : Nat) : Int) 1 4) fun r3 =>
    if r3 = true then
      loop Bs_rGood (.h1 a0.Terrains ((a0.Terrains.length : Nat) : Int) 0 a0)
    else
      some false
  else
    some false
/-! loop example/g00886/spec l1Rising -/
inductive Ss_l1Rising where
  | h1 (l0 : (List Int)) (lo1 : Int) (vhi2 : Int) (t3 : (List Int)) (t4 : Int) (t5 : Int)
noncomputable def Bs_l1Rising : Ss_l1Rising → Option (Ss_l1Rising ⊕ (Bool))
  | .h1 l0 lo1 vhi2 t3 t4 t5 =>
    if t5 < t4 then
      if 0 ≤ t5 then
        Option.bind (t3[(Int.toNat t5)]?) fun x3 =>
        Option.bind (Ds_l1In x3 lo1 vhi2) fun r4 =>
        if r4 = true then
          if t5 > 0 then
            if 0 ≤ (IntKind.wrap .i64 (t5 - 1)) then
              Option.bind (l0[(Int.toNat (IntKind.wrap .i64 (t5 - 1)))]?) fun x8 =>
              if x8 ≥ x3 then
                some (.inr false)
              else
                some (.inl (.h1 l0 lo1 vhi2 t3 t4 (IntKind.wrap .i64 (t5 + 1))))
            else none
          else
            some (.inl (.h1 l0 lo1 vhi2 t3 t4 (IntKind.wrap .i64 (t5 + 1))))
        else
          some (.inr false)
      else none
    else
      some (.inr true)
noncomputable def Ds_l1Rising (a0 : (List Int)) (a1 : Int) (a2 : Int) : Option (Bool) :=
  loop Bs_l1Rising (.h1 a0 a1 a2 a0 ((a0.length : Nat) : Int) 0)
/-! loop example/g00886/spec mEdges -/
inductive Ss_mEdges where
  | h1 (l0 : (List Int)) (t1 : (List Int)) (t2 : Int) (t3 : Int) (b4 : Gi_Map)
noncomputable def Bs_mEdges : Ss_mEdges → Option (Ss_mEdges ⊕ (Bool))
  | .h1 l0 t1 t2 t3 b4 =>
    if t3 < t2 then
      if 0 ≤ t3 then
        Option.bind (t1[(Int.toNat t3)]?) fun x3 =>
        Option.bind (Ds_mSize b4) fun r4 =>
        Option.bind (Ds_l1In x3 0 (IntKind.wrap .i64 ((IntKind.wrap .i64 (3 * r4)) - 1))) fun r5 =>
        if r5 = true then
          Option.bind (Ds_mNext b4 (IntKind.wrap .i64 (Int.tdiv x3 3)) (Int.tmod x3 3)) fun r7 =>
          if r7 < 0 then
            some (.inr false)
          else
            some (.inl (.h1 l0 t1 t2 (IntKind.wrap .i64 (t3 + 1)) b4))
        else
          some (.inr false)
      else none
    else
      Option.bind (Ds_mSize b4) fun r2 =>
      Option.bind (Ds_l1Rising l0 0 (IntKind.wrap .i64 ((IntKind.wrap .i64 (3 * r2)) - 1))) fun r3 =>
      some (.inr r3)
noncomputable def Ds_mEdges (a0 : Gi_Map) (a1 : (List Int)) : Option (Bool) :=
  loop Bs_mEdges (.h1 a1 a1 ((a1.length : Nat) : Int) 0 a0)
/-! loop example/g00886/spec mGood -/
noncomputable def Ds_mGood (a0 : Gi_Map) : Option (Bool) :=
  Option.bind (Ds_l1In a0.Width 1 10) fun r1 =>
  if r1 = true then
    Option.bind (Ds_l1In a0.Height 1 10) fun r3 =>
    if r3 = true then
      Option.bind (Ds_mSize a0) fun r5 =>
      if (((a0.Terrain.length : Nat) : Int) : Int) = r5 then
        Option.bind (Ds_l1All a0.Terrain 0 5) fun r7 =>
        if r7 = true then
          Option.bind (Ds_mEdges a0 a0.Rivers) fun r9 =>
          if r9 = true then
            Option.bind (Ds_mEdges a0 a0.Roads) fun r11 =>
            some r11
          else
            some false
        else
          some false
      else
        some false
    else
      some false
  else
    some false
/-! loop example/g00886/spec bGood -/
noncomputable def Ds_bGood (a0 : Gi_Board) : Option (Bool) :=
  Option.bind (Ds_rGood a0.Rules) fun r1 =>
  if r1 = true then
    Option.bind (Ds_mGood a0.Map) fun r3 =>
    if r3 = true then
      Option.bind (Ds_l1All a0.Map.Terrain 0 (IntKind.wrap .i64 (((a0.Rules.Terrains.length : Nat) : Int) - 1))) fun r5 =>
      some r5
    else
      some false
  else
    some false
/-! loop example/g00886/spec bTerrain -/
noncomputable def Ds_bTerrain (a0 : Gi_Board) (a1 : Int) : Option (Gi_Terrain) :=
  if 0 ≤ a1 then
    Option.bind (a0.Map.Terrain[(Int.toNat a1)]?) fun x2 =>
    if 0 ≤ x2 then
      Option.bind (a0.Rules.Terrains[(Int.toNat x2)]?) fun x4 =>
      some x4
    else none
  else none
/-! loop example/g00886/spec bCost -/
noncomputable def Ds_bCost (a0 : Gi_Board) (a1 : Int) (a2 : Int) : Option (Int) :=
  Option.bind (Ds_bTerrain a0 a2) fun r1 =>
  if 0 ≤ a1 then
    Option.bind (r1.Cost[(Int.toNat a1)]?) fun x3 =>
    some x3
  else none
/-! loop example/g00886/spec bOpen -/
inductive Ss_bOpen where
  | h1 (kind0 : Int) (t1 : Int) (t2 : Int) (b3 : Gi_Board) (l4 : (List Int))
noncomputable def Bs_bOpen : Ss_bOpen → Option (Ss_bOpen ⊕ ((List Int)))
  | .h1 kind0 t1 t2 b3 l4 =>
    if t2 < t1 then
      Option.bind (Ds_bCost b3 kind0 t2) fun r2 =>
      if r2 > 0 then
        if (l4 ++ [t2]).length * 8 ≤ 70368744177664 then
          some (.inl (.h1 kind0 t1 (IntKind.wrap .i64 (t2 + 1)) b3 (l4 ++ [t2])))
        else none
      else
        some (.inl (.h1 kind0 t1 (IntKind.wrap .i64 (t2 + 1)) b3 l4))
    else
      some (.inr l4)
noncomputable def Ds_bOpen (a0 : Gi_Board) (a1 : Int) : Option ((List Int)) :=
  loop Bs_bOpen (.h1 a1 ((a0.Map.Terrain.length : Nat) : Int) 0 a0 ([] : List Int))
/-! loop example/g00886/spec bStuck -/
inductive Ss_bStuck where
  | h1 (kind0 : Int) (least1 : Int) (t2 : Int) (t3 : Int) (b4 : Gi_Board) (l5 : (List Int))
  | h2 (kind0 : Int) (least1 : Int) (i2 : Int) (d3 : Int) (t4 : Int) (t5 : Int) (b6 : Gi_Board) (l7 : (List Int))
noncomputable def Bs_bStuck : Ss_bStuck → Option (Ss_bStuck ⊕ (Bool))
  | .h1 kind0 least1 t2 t3 b4 l5 =>
    if t3 < t2 then
      if 0 ≤ t3 then
        Option.bind (l5[(Int.toNat t3)]?) fun x3 =>
        some (.inl (.h2 kind0 least1 x3 0 t2 t3 b4 l5))
      else none
    else
      if (least1 : Int) = 0 then
        some (.inr true)
      else
        if 0 ≤ kind0 then
          Option.bind (b4.Rules.Kinds[(Int.toNat kind0)]?) fun x4 =>
          some (.inr (decide (x4.Moves < least1)))
        else none
  | .h2 kind0 least1 i2 d3 t4 t5 b6 l7 =>
    if d3 < 6 then
      Option.bind (Ds_mNext b6.Map i2 d3) fun r2 =>
      if r2 < 0 then
        some (.inl (.h2 kind0 least1 i2 (IntKind.wrap .i64 (d3 + 1)) t4 t5 b6 l7))
      else
        Option.bind (Ds_bCost b6 kind0 r2) fun r4 =>
        if (r4 : Int) = 0 then
          some (.inl (.h2 kind0 least1 i2 (IntKind.wrap .i64 (d3 + 1)) t4 t5 b6 l7))
        else
          Option.bind (Ds_bCost b6 kind0 i2) fun r6 =>
          if (least1 : Int) = 0 then
            some (.inl (.h2 kind0 r6 i2 (IntKind.wrap .i64 (d3 + 1)) t4 t5 b6 l7))
          else
            if r6 < least1 then
              some (.inl (.h2 kind0 r6 i2 (IntKind.wrap .i64 (d3 + 1)) t4 t5 b6 l7))
            else
              some (.inl (.h2 kind0 least1 i2 (IntKind.wrap .i64 (d3 + 1)) t4 t5 b6 l7))
    else
      some (.inl (.h1 kind0 least1 t4 (IntKind.wrap .i64 (t5 + 1)) b6 l7))
noncomputable def Ds_bStuck (a0 : Gi_Board) (a1 : Int) : Option (Bool) :=
  Option.bind (Ds_bOpen a0 a1) fun r1 =>
  loop Bs_bStuck (.h1 a1 0 ((r1.length : Nat) : Int) 0 a0 r1)
/-! loop example/g00886/spec StuckKinds -/
inductive Ss_StuckKinds where
  | h1 (t0 : Int) (t1 : Int) (b2 : Gi_Board) (l3 : (List Int))
noncomputable def Bs_StuckKinds : Ss_StuckKinds → Option (Ss_StuckKinds ⊕ ((List Int) × Bool))
  | .h1 t0 t1 b2 l3 =>
    if t1 < t0 then
      Option.bind (Ds_bStuck b2 t1) fun r2 =>
      if r2 = true then
        if (l3 ++ [t1]).length * 8 ≤ 70368744177664 then
          some (.inl (.h1 t0 (IntKind.wrap .i64 (t1 + 1)) b2 (l3 ++ [t1])))
        else none
      else
        some (.inl (.h1 t0 (IntKind.wrap .i64 (t1 + 1)) b2 l3))
    else
      some (.inr (l3, true))
noncomputable def Ds_StuckKinds (a0 : Gi_Board) : Option ((List Int) × Bool) :=
  Option.bind (Ds_bGood a0) fun r1 =>
  if r1 = true then
    loop Bs_StuckKinds (.h1 ((a0.Rules.Kinds.length : Nat) : Int) 0 a0 ([] : List Int))
  else
    some ([], false)
/-! loop example/g00886/laws sameInts -/
inductive Sw_sameInts where
  | h1 (va0 : (List Int)) (b1 : (List Int)) (t2 : Int) (t3 : Int)
noncomputable def Bw_sameInts : Sw_sameInts → Option (Sw_sameInts ⊕ (Bool))
  | .h1 va0 b1 t2 t3 =>
    if t3 < t2 then
      if 0 ≤ t3 then
        Option.bind (va0[(Int.toNat t3)]?) fun x3 =>
        if 0 ≤ t3 then
          Option.bind (b1[(Int.toNat t3)]?) fun x5 =>
          if (x3 : Int) = x5 then
            some (.inl (.h1 va0 b1 t2 (IntKind.wrap .i64 (t3 + 1))))
          else
            some (.inr false)
        else none
      else none
    else
      some (.inr true)
noncomputable def Dw_sameInts (a0 : (List Int)) (a1 : (List Int)) : Option (Bool) :=
  if (((a0.length : Nat) : Int) : Int) = ((a1.length : Nat) : Int) then
    loop Bw_sameInts (.h1 a0 a1 ((a0.length : Nat) : Int) 0)
  else
    some false
/-! slices Index   int int  -/
inductive Sslices_Index_int where
  | h1 (s0 : (List Int)) (v1 : Int) (t2 : Int) (t3 : Int)
noncomputable def Bslices_Index_int : Sslices_Index_int → Option (Sslices_Index_int ⊕ (Int))
  | .h1 s0 v1 t2 t3 =>
    if t3 < t2 then
      if 0 ≤ t3 then
        Option.bind (s0[(Int.toNat t3)]?) fun x3 =>
        if (v1 : Int) = x3 then
          some (.inr t3)
        else
          some (.inl (.h1 s0 v1 t2 (IntKind.wrap .i64 (t3 + 1))))
      else none
    else
      some (.inr (-1))
noncomputable def Dslices_Index_int (a0 : (List Int)) (a1 : Int) : Option (Int) :=
  loop Bslices_Index_int (.h1 a0 a1 ((a0.length : Nat) : Int) 0)
/-! slices Contains   int int  -/
noncomputable def Dslices_Contains_int (a0 : (List Int)) (a1 : Int) : Option (Bool) :=
  Option.bind (Dslices_Index_int a0 a1) fun r1 =>
  some (decide (r1 ≥ 0))
/-! loop example/g00886/impl UnusedTerrains -/
inductive Si_UnusedTerrains where
  | h1 (t0 : Int) (t1 : Int) (b2 : Gi_Board) (l3 : (List Int))
noncomputable def Bi_UnusedTerrains : Si_UnusedTerrains → Option (Si_UnusedTerrains ⊕ ((List Int) × Bool))
  | .h1 t0 t1 b2 l3 =>
    if t1 < t0 then
      Option.bind (Dslices_Contains_int b2.Map.Terrain t1) fun r2 =>
      if r2 = true then
        some (.inl (.h1 t0 (IntKind.wrap .i64 (t1 + 1)) b2 l3))
      else
        if (l3 ++ [t1]).length * 8 ≤ 70368744177664 then
          some (.inl (.h1 t0 (IntKind.wrap .i64 (t1 + 1)) b2 (l3 ++ [t1])))
        else none
    else
      some (.inr (l3, true))
noncomputable def Di_UnusedTerrains (a0 : Gi_Board) : Option ((List Int) × Bool) :=
  Option.bind (Di_IsBoard a0) fun r1 =>
  if r1 = true then
    loop Bi_UnusedTerrains (.h1 ((a0.Rules.Terrains.length : Nat) : Int) 0 a0 ([] : List Int))
  else
    some ([], false)
/-! loop example/g00886/spec l1Has -/
inductive Ss_l1Has where
  | h1 (n0 : Int) (t1 : (List Int)) (t2 : Int) (t3 : Int)
noncomputable def Bs_l1Has : Ss_l1Has → Option (Ss_l1Has ⊕ (Bool))
  | .h1 n0 t1 t2 t3 =>
    if t3 < t2 then
      if 0 ≤ t3 then
        Option.bind (t1[(Int.toNat t3)]?) fun x3 =>
        if (x3 : Int) = n0 then
          some (.inr true)
        else
          some (.inl (.h1 n0 t1 t2 (IntKind.wrap .i64 (t3 + 1))))
      else none
    else
      some (.inr false)
noncomputable def Ds_l1Has (a0 : (List Int)) (a1 : Int) : Option (Bool) :=
  loop Bs_l1Has (.h1 a1 a0 ((a0.length : Nat) : Int) 0)
/-! loop example/g00886/spec UnusedTerrains -/
inductive Ss_UnusedTerrains where
  | h1 (t0 : Int) (t1 : Int) (b2 : Gi_Board) (l3 : (List Int))
noncomputable def Bs_UnusedTerrains : Ss_UnusedTerrains → Option (Ss_UnusedTerrains ⊕ ((List Int) × Bool))
  | .h1 t0 t1 b2 l3 =>
    if t1 < t0 then
      Option.bind (Ds_l1Has b2.Map.Terrain t1) fun r2 =>
      if r2 = true then
        some (.inl (.h1 t0 (IntKind.wrap .i64 (t1 + 1)) b2 l3))
      else
        if (l3 ++ [t1]).length * 8 ≤ 70368744177664 then
          some (.inl (.h1 t0 (IntKind.wrap .i64 (t1 + 1)) b2 (l3 ++ [t1])))
        else none
    else
      some (.inr (l3, true))
noncomputable def Ds_UnusedTerrains (a0 : Gi_Board) : Option ((List Int) × Bool) :=
  Option.bind (Ds_bGood a0) fun r1 =>
  if r1 = true then
    loop Bs_UnusedTerrains (.h1 ((a0.Rules.Terrains.length : Nat) : Int) 0 a0 ([] : List Int))
  else
    some ([], false)
/-! loop example/g00886/impl MissingTerrains -/
inductive Si_MissingTerrains where
  | h1 (t0 : Int) (b1 : Gi_Map) (l2 : (List Int))
noncomputable def Bi_MissingTerrains : Si_MissingTerrains → Option (Si_MissingTerrains ⊕ ((List Int) × Bool))
  | .h1 t0 b1 l2 =>
    if t0 < 6 then
      Option.bind (Dslices_Contains_int b1.Terrain t0) fun r2 =>
      if r2 = true then
        if (l2 ++ [t0]).length * 8 ≤ 70368744177664 then
          some (.inl (.h1 (IntKind.wrap .i64 (t0 + 1)) b1 (l2 ++ [t0])))
        else none
      else
        some (.inl (.h1 (IntKind.wrap .i64 (t0 + 1)) b1 l2))
    else
      some (.inr (l2, true))
noncomputable def Di_MissingTerrains (a0 : Gi_Rules) (a1 : Gi_Map) : Option ((List Int) × Bool) :=
  Option.bind (Di_IsRules a0) fun r1 =>
  if r1 = true then
    Option.bind (Di_IsMap a1) fun r3 =>
    if r3 = true then
      loop Bi_MissingTerrains (.h1 ((a0.Terrains.length : Nat) : Int) a1 ([] : List Int))
    else
      some ([], false)
  else
    some ([], false)
/-! loop example/g00886/spec DrawMissingTerrains -/
noncomputable def Ds_DrawMissingTerrains (a0 : (List Int)) : Option (Gi_Rules × Gi_Map) :=
  Option.bind (Ds_l1Cur_anyRules (Gs_l1Cur.mk a0 0 0)) fun r1 =>
  Option.bind (Ds_l1Cur_anyMap r1.2) fun r2 =>
  some (r1.1, r2.1)
/-! loop example/g00886/spec MissingTerrains -/
inductive Ss_MissingTerrains where
  | h1 (t0 : (List Int)) (t1 : Int) (t2 : Int) (b3 : Gi_Rules) (l4 : (List Int))
noncomputable def Bs_MissingTerrains : Ss_MissingTerrains → Option (Ss_MissingTerrains ⊕ ((List Int) × Bool))
  | .h1 t0 t1 t2 b3 l4 =>
    if t2 < t1 then
      if 0 ≤ t2 then
        Option.bind (t0[(Int.toNat t2)]?) fun x3 =>
        if x3 ≥ ((b3.Terrains.length : Nat) : Int) then
          Option.bind (Ds_l1Put_c0 l4 x3) fun r5 =>
          some (.inl (.h1 t0 t1 (IntKind.wrap .i64 (t2 + 1)) b3 r5))
        else
          some (.inl (.h1 t0 t1 (IntKind.wrap .i64 (t2 + 1)) b3 l4))
      else none
    else
      some (.inr (l4, true))
noncomputable def Ds_MissingTerrains (a0 : Gi_Rules) (a1 : Gi_Map) : Option ((List Int) × Bool) :=
  Option.bind (Ds_rGood a0) fun r1 =>
  if r1 = true then
    Option.bind (Ds_mGood a1) fun r3 =>
    if r3 = true then
      loop Bs_MissingTerrains (.h1 a1.Terrain ((a1.Terrain.length : Nat) : Int) 0 a0 ([] : List Int))
    else
      some ([], false)
  else
    some ([], false)
/-!   loop example/g00886/spec l1Cur  kindOf -/
noncomputable def Ds_l1Cur_kindOf (a0 : Gs_l1Cur) (a1 : Gi_Board) : Option (Int × Gs_l1Cur) :=
  Option.bind (Ds_l1Cur_pick a0 16) fun r1 =>
  Option.bind (Ds_l1Cur_pick r1.2 (IntKind.wrap .i64 (((a1.Rules.Kinds.length : Nat) : Int) + (IntKind.wrap .i64 (Int.tdiv r1.1 15))))) fun r2 =>
  Option.bind (Ds_l1Cur_pick r2.2 20) fun r3 =>
  some ((IntKind.wrap .i64 (r2.1 - (IntKind.wrap .i64 (Int.tdiv r3.1 19)))), r3.2)
/-! loop example/g00886/spec l1Most -/
noncomputable def Ds_l1Most (a0 : Int) (a1 : Int) : Option (Int) :=
  if a0 > a1 then
    some a0
  else
    some a1
/-!   loop example/g00886/spec l1Cur  place -/
noncomputable def Ds_l1Cur_place (a0 : Gs_l1Cur) (a1 : Gi_Map) : Option (Int × Gs_l1Cur) :=
  Option.bind (Ds_l1Cur_one a0 20) fun r1 =>
  if r1.1 = true then
    Option.bind (Ds_mSize a1) fun r3 =>
    Option.bind (Ds_l1Cur_among r1.2 [(-1), r3]) fun r4 =>
    some (r4.1, r4.2)
  else
    Option.bind (Ds_mSize a1) fun r3 =>
    Option.bind (Ds_l1Most r3 1) fun r4 =>
    Option.bind (Ds_l1Cur_pick r1.2 r4) fun r5 =>
    some (r5.1, r5.2)
/-! loop example/g00886/spec DrawEnterCost -/
noncomputable def Ds_DrawEnterCost (a0 : (List Int)) : Option (Gi_Board × Int × Int) :=
  Option.bind (Ds_l1Cur_anyBoard (Gs_l1Cur.mk a0 0 0)) fun r1 =>
  Option.bind (Ds_l1Cur_kindOf r1.2 r1.1) fun r2 =>
  Option.bind (Ds_l1Cur_place r2.2 r1.1.Map) fun r3 =>
  some (r1.1, r2.1, r3.1)
/-! loop example/g00886/impl isKindOf -/
noncomputable def Di_isKindOf (a0 : Gi_Board) (a1 : Int) : Option (Bool) :=
  Option.bind (Di_IsBoard a0) fun r1 =>
  if r1 = true then
    Option.bind (Di_isIndex a1 ((a0.Rules.Kinds.length : Nat) : Int)) fun r3 =>
    some r3
  else
    some false
/-! loop example/g00886/impl sizeOf -/
noncomputable def Di_sizeOf (a0 : Gi_Board) : Option (Int) :=
  some ((a0.Map.Terrain.length : Nat) : Int)
/-! loop example/g00886/impl EnterCost -/
noncomputable def Di_EnterCost (a0 : Gi_Board) (a1 : Int) (a2 : Int) : Option (Int × Bool) :=
  Option.bind (Di_isKindOf a0 a1) fun r1 =>
  if r1 = true then
    Option.bind (Di_sizeOf a0) fun r3 =>
    Option.bind (Di_isIndex a2 r3) fun r4 =>
    if r4 = true then
      Option.bind (Di_enterCost a0 a1 a2) fun r6 =>
      some (r6, true)
    else
      some (0, false)
  else
    some (0, false)
/-! loop example/g00886/spec bAt -/
noncomputable def Ds_bAt (a0 : Gi_Board) (a1 : Int) (a2 : Int) : Option (Bool) :=
  Option.bind (Ds_bGood a0) fun r1 =>
  if r1 = true then
    Option.bind (Ds_l1In a1 0 (IntKind.wrap .i64 (((a0.Rules.Kinds.length : Nat) : Int) - 1))) fun r3 =>
    if r3 = true then
      Option.bind (Ds_mSize a0.Map) fun r5 =>
      Option.bind (Ds_l1In a2 0 (IntKind.wrap .i64 (r5 - 1))) fun r6 =>
      some r6
    else
      some false
  else
    some false
/-! loop example/g00886/spec EnterCost -/
noncomputable def Ds_EnterCost (a0 : Gi_Board) (a1 : Int) (a2 : Int) : Option (Int × Bool) :=
  Option.bind (Ds_bAt a0 a1 a2) fun r1 =>
  if r1 = true then
    Option.bind (Ds_bCost a0 a1 a2) fun r3 =>
    some (r3, true)
  else
    some (0, false)
/-! loop example/g00886/spec DrawTerrainNamed -/
noncomputable def Ds_DrawTerrainNamed (a0 : (List Int)) : Option (Gi_Rules × ByteArray) :=
  Option.bind (Ds_l1Cur_anyRules (Gs_l1Cur.mk a0 0 0)) fun r1 =>
  Option.bind (Ds_l1Cur_of r1.2 [⟨#[112, 108, 97, 105, 110]⟩, ⟨#[119, 111, 111, 100]⟩, ⟨#[104, 105, 108, 108]⟩, ⟨#[115, 101, 97]⟩, ⟨#[]⟩, ⟨#[102, 111, 111, 116]⟩]) fun r2 =>
  some (r1.1, r2.1)
/-! loop example/g00886/impl TerrainNamed -/
noncomputable def Di_TerrainNamed (a0 : Gi_Rules) (a1 : ByteArray) : Option (Int × Bool) :=
  Option.bind (Di_IsRules a0) fun r1 =>
  if r1 = true then
    Option.bind (Di_terrainIndex a0.Terrains a1) fun r3 =>
    if r3 < 0 then
      some (0, false)
    else
      Option.bind (Di_terrainIndex a0.Terrains a1) fun r5 =>
      some (r5, true)
  else
    some (0, false)
/-! loop example/g00886/spec TerrainNamed -/
noncomputable def Ds_TerrainNamed (a0 : Gi_Rules) (a1 : ByteArray) : Option (Int × Bool) :=
  Option.bind (Ds_rGood a0) fun r1 =>
  if r1 = true then
    Option.bind (Ds_rTerrain a0.Terrains a1) fun r3 =>
    if r3 < 0 then
      some (0, false)
    else
      Option.bind (Ds_rTerrain a0.Terrains a1) fun r5 =>
      some (r5, true)
  else
    some (0, false)
/-! loop example/g00886/laws FnTerrains -/
noncomputable def Dw_FnTerrains (a0 : (List Int)) (a1 : (List Int)) : Option (Bool) :=
  Option.bind (Dw_big a0 a1) fun r1 =>
  if r1 = true then
    some true
  else
    Option.bind (Ds_DrawStuckKinds a0) fun r3 =>
    Option.bind (Di_StuckKinds r3) fun r4 =>
    if r4.2 = true then
      Option.bind (Ds_StuckKinds r3) fun r6 =>
      if (!(true == r6.2)) = true then
        some false
      else
        Option.bind (Dw_sameInts r4.1 r6.1) fun r8 =>
        if r8 = true then
          Option.bind (Di_IsBoard r3) fun r10 =>
          if (!(true == r10)) = true then
            some false
          else
            Option.bind (Di_UnusedTerrains r3) fun r12 =>
            Option.bind (Ds_UnusedTerrains r3) fun r13 =>
            if (!(r12.2 == r13.2)) = true then
              some false
            else
              Option.bind (Dw_sameInts r12.1 r13.1) fun r15 =>
              if r15 = true then
                Option.bind (Di_MissingTerrains r3.Rules r3.Map) fun r17 =>
                if r17.2 = true then
                  if (((r17.1.length : Nat) : Int) : Int) = 0 then
                    Option.bind (Ds_DrawMissingTerrains a1) fun r20 =>
                    Option.bind (Di_MissingTerrains r20.1 r20.2) fun r21 =>
                    Option.bind (Ds_MissingTerrains r20.1 r20.2) fun r22 =>
                    if (!(r21.2 == r22.2)) = true then
                      some false
                    else
                      Option.bind (Dw_sameInts r21.1 r22.1) fun r24 =>
                      if r24 = true then
                        Option.bind (Ds_DrawEnterCost a1) fun r26 =>
                        Option.bind (Di_EnterCost r26.1 r26.2.1 r26.2.2) fun r27 =>
                        Option.bind (Ds_EnterCost r26.1 r26.2.1 r26.2.2) fun r28 =>
                        Option.bind (Ds_DrawTerrainNamed a1) fun r29 =>
                        Option.bind (Di_TerrainNamed r29.1 r29.2) fun r30 =>
                        Option.bind (Ds_TerrainNamed r29.1 r29.2) fun r31 =>
                        if (r27.2 == r28.2) = true then
                          if (r27.1 : Int) = r28.1 then
                            if (r30.2 == r31.2) = true then
                              some ((r30.1 : Int) == r31.1)
                            else
                              some false
                          else
                            some false
                        else
                          some false
                      else
                        some false
                  else
                    some false
                else
                  some false
              else
                some false
        else
          some false
    else
      Option.bind (Ds_StuckKinds r3) fun r6 =>
      if (!(false == r6.2)) = true then
        some false
      else
        Option.bind (Dw_sameInts r4.1 r6.1) fun r8 =>
        if r8 = true then
          Option.bind (Di_IsBoard r3) fun r10 =>
          if (!(false == r10)) = true then
            some false
          else
            Option.bind (Di_UnusedTerrains r3) fun r12 =>
            Option.bind (Ds_UnusedTerrains r3) fun r13 =>
            if (!(r12.2 == r13.2)) = true then
              some false
            else
              Option.bind (Dw_sameInts r12.1 r13.1) fun r15 =>
              if r15 = true then
                Option.bind (Ds_DrawMissingTerrains a1) fun r17 =>
                Option.bind (Di_MissingTerrains r17.1 r17.2) fun r18 =>
                Option.bind (Ds_MissingTerrains r17.1 r17.2) fun r19 =>
                if (!(r18.2 == r19.2)) = true then
                  some false
                else
                  Option.bind (Dw_sameInts r18.1 r19.1) fun r21 =>
                  if r21 = true then
                    Option.bind (Ds_DrawEnterCost a1) fun r23 =>
                    Option.bind (Di_EnterCost r23.1 r23.2.1 r23.2.2) fun r24 =>
                    Option.bind (Ds_EnterCost r23.1 r23.2.1 r23.2.2) fun r25 =>
                    Option.bind (Ds_DrawTerrainNamed a1) fun r26 =>
                    Option.bind (Di_TerrainNamed r26.1 r26.2) fun r27 =>
                    Option.bind (Ds_TerrainNamed r26.1 r26.2) fun r28 =>
                    if (r24.2 == r25.2) = true then
                      if (r24.1 : Int) = r25.1 then
                        if (r27.2 == r28.2) = true then
                          some ((r27.1 : Int) == r28.1)
                        else
                          some false
                      else
                        some false
                    else
                      some false
                  else
                    some false
              else
                some false
        else
          some false
end Go.Proofs.YtfnhclmdobdkbaaDoor.Ab
