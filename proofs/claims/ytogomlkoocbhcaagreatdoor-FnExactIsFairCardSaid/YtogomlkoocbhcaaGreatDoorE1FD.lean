/- Part of the proof of FnExactIsFairCard: no condition of its own. -/
import Derived.Test.YtogomlkoocbhcaaGreatDoorAb4
set_option linter.unusedVariables false
set_option linter.unusedSimpArgs false
open Go
namespace Go.Proofs.YtogomlkoocbhcaaGreatDoor.Ab
structure Gw_Terrain where
 mk ::
 Name : ByteArray
 Cost : (List Int)
 Shift : Int
 Height : Int
 Blocks : Bool
def gw_Terrain (x : Gw_Terrain) : D := .agg [.str x.Name, sl 1 I x.Cost, I x.Shift, I x.Height, .bool x.Blocks]
structure Gw_Kind where
 mk ::
 Name : ByteArray
 Strength : Int
 Moves : Int
 Steps : Int
 Zone : Bool
 View : Int
def gw_Kind (x : Gw_Kind) : D := .agg [.str x.Name, I x.Strength, I x.Moves, I x.Steps, .bool x.Zone, I x.View]
structure Gw_Rules where
 mk ::
 Terrains : (List Gw_Terrain)
 Kinds : (List Gw_Kind)
 Stack : Int
 River : Int
 Road : Int
 Supply : Int
 Turns : Int
def gw_Rules (x : Gw_Rules) : D := .agg [sl 5 gw_Terrain x.Terrains, sl 6 gw_Kind x.Kinds, I x.Stack, I x.River, I x.Road, I x.Supply, I x.Turns]
structure Gw_Map where
 mk ::
 Width : Int
 Height : Int
 Terrain : (List Int)
 Rivers : (List Int)
 Roads : (List Int)
def gw_Map (x : Gw_Map) : D := .agg [I x.Width, I x.Height, sl 1 I x.Terrain, sl 1 I x.Rivers, sl 1 I x.Roads]
structure Gw_Board where
 mk ::
 Rules : Gw_Rules
 Map : Gw_Map
def gw_Board (x : Gw_Board) : D := .agg [sl 5 gw_Terrain x.Rules.Terrains, sl 6 gw_Kind x.Rules.Kinds, I x.Rules.Stack, I x.Rules.River, I x.Rules.Road, I x.Rules.Supply, I x.Rules.Turns, I x.Map.Width, I x.Map.Height, sl 1 I x.Map.Terrain, sl 1 I x.Map.Rivers, sl 1 I x.Map.Roads]
structure Gw_Odds where
 mk ::
 Num : Int
 Den : Int
def gw_Odds (x : Gw_Odds) : D := .agg [I x.Num, I x.Den]
structure Gw_CombatTable where
 mk ::
 Columns : (List Gw_Odds)
 Dice : Int
 Results : (List (List Int))
def gw_CombatTable (x : Gw_CombatTable) : D := .agg [sl 2 gw_Odds x.Columns, I x.Dice, sl 1 (sl 1 I) x.Results]
structure Gw_Unit where
 mk ::
 Side : Int
 Kind : Int
 At : Int
 Steps : Int
def gw_Unit (x : Gw_Unit) : D := .agg [I x.Side, I x.Kind, I x.At, I x.Steps]
structure Gw_State where
 mk ::
 Turn : Int
 Weather : Int
 Units : (List Gw_Unit)
def gw_State (x : Gw_State) : D := .agg [I x.Turn, I x.Weather, sl 4 gw_Unit x.Units]
structure Gw_Goal where
 mk ::
 At : Int
 Points : Int
def gw_Goal (x : Gw_Goal) : D := .agg [I x.At, I x.Points]
structure Gw_Conditions where
 mk ::
 Goals : (List Gw_Goal)
 Step : Int
 Margin : Int
def gw_Conditions (x : Gw_Conditions) : D := .agg [sl 2 gw_Goal x.Goals, I x.Step, I x.Margin]
structure Gw_Scenario where
 mk ::
 Name : ByteArray
 Board : Gw_Board
 Table : Gw_CombatTable
 Start : Gw_State
 Conditions : Gw_Conditions
 First : (List Int)
 Other : (List Int)
def gw_Scenario (x : Gw_Scenario) : D := .agg [.str x.Name, sl 5 gw_Terrain x.Board.Rules.Terrains, sl 6 gw_Kind x.Board.Rules.Kinds, I x.Board.Rules.Stack, I x.Board.Rules.River, I x.Board.Rules.Road, I x.Board.Rules.Supply, I x.Board.Rules.Turns, I x.Board.Map.Width, I x.Board.Map.Height, sl 1 I x.Board.Map.Terrain, sl 1 I x.Board.Map.Rivers, sl 1 I x.Board.Map.Roads, sl 2 gw_Odds x.Table.Columns, I x.Table.Dice, sl 1 (sl 1 I) x.Table.Results, I x.Start.Turn, I x.Start.Weather, sl 4 gw_Unit x.Start.Units, sl 2 gw_Goal x.Conditions.Goals, I x.Conditions.Step, I x.Conditions.Margin, sl 1 I x.First, sl 1 I x.Other]
structure Gi_Terrain where
 mk ::
 Name : ByteArray
 Cost : (List Int)
 Shift : Int
 Height : Int
 Blocks : Bool
def gi_Terrain (x : Gi_Terrain) : D := .agg [.str x.Name, sl 1 I x.Cost, I x.Shift, I x.Height, .bool x.Blocks]
def goi_Terrain (x : Gi_Terrain) : D := .agg [.str x.Name, ow 1 I x.Cost, I x.Shift, I x.Height, .bool x.Blocks]
structure Gi_Kind where
 mk ::
 Name : ByteArray
 Strength : Int
 Moves : Int
 Steps : Int
 Zone : Bool
 View : Int
def gi_Kind (x : Gi_Kind) : D := .agg [.str x.Name, I x.Strength, I x.Moves, I x.Steps, .bool x.Zone, I x.View]
structure Gi_Rules where
 mk ::
 Terrains : (List Gi_Terrain)
 Kinds : (List Gi_Kind)
 Stack : Int
 River : Int
 Road : Int
 Supply : Int
 Turns : Int
def gi_Rules (x : Gi_Rules) : D := .agg [sl 5 gi_Terrain x.Terrains, sl 6 gi_Kind x.Kinds, I x.Stack, I x.River, I x.Road, I x.Supply, I x.Turns]
structure Gi_Map where
 mk ::
 Width : Int
 Height : Int
 Terrain : (List Int)
 Rivers : (List Int)
 Roads : (List Int)
def gi_Map (x : Gi_Map) : D := .agg [I x.Width, I x.Height, sl 1 I x.Terrain, sl 1 I x.Rivers, sl 1 I x.Roads]
structure Gi_Board where
 mk ::
 Rules : Gi_Rules
 Map : Gi_Map
def gi_Board (x : Gi_Board) : D := .agg [sl 5 gi_Terrain x.Rules.Terrains, sl 6 gi_Kind x.Rules.Kinds, I x.Rules.Stack, I x.Rules.River, I x.Rules.Road, I x.Rules.Supply, I x.Rules.Turns, I x.Map.Width, I x.Map.Height, sl 1 I x.Map.Terrain, sl 1 I x.Map.Rivers, sl 1 I x.Map.Roads]
structure Gi_Odds where
 mk ::
 Num : Int
 Den : Int
def gi_Odds (x : Gi_Odds) : D := .agg [I x.Num, I x.Den]
structure Gi_CombatTable where
 mk ::
 Columns : (List Gi_Odds)
 Dice : Int
 Results : (List (List Int))
def gi_CombatTable (x : Gi_CombatTable) : D := .agg [sl 2 gi_Odds x.Columns, I x.Dice, sl 1 (sl 1 I) x.Results]
structure Gi_Unit where
 mk ::
 Side : Int
 Kind : Int
 At : Int
 Steps : Int
def gi_Unit (x : Gi_Unit) : D := .agg [I x.Side, I x.Kind, I x.At, I x.Steps]
structure Gi_State where
 mk ::
 Turn : Int
 Weather : Int
 Units : (List Gi_Unit)
def gi_State (x : Gi_State) : D := .agg [I x.Turn, I x.Weather, sl 4 gi_Unit x.Units]
structure Gi_Goal where
 mk ::
 At : Int
 Points : Int
def gi_Goal (x : Gi_Goal) : D := .agg [I x.At, I x.Points]
structure Gi_Conditions where
 mk ::
 Goals : (List Gi_Goal)
 Step : Int
 Margin : Int
def gi_Conditions (x : Gi_Conditions) : D := .agg [sl 2 gi_Goal x.Goals, I x.Step, I x.Margin]
structure Gi_Scenario where
 mk ::
 Name : ByteArray
 Board : Gi_Board
 Table : Gi_CombatTable
 Start : Gi_State
 Conditions : Gi_Conditions
 First : (List Int)
 Other : (List Int)
def gi_Scenario (x : Gi_Scenario) : D := .agg [.str x.Name, sl 5 gi_Terrain x.Board.Rules.Terrains, sl 6 gi_Kind x.Board.Rules.Kinds, I x.Board.Rules.Stack, I x.Board.Rules.River, I x.Board.Rules.Road, I x.Board.Rules.Supply, I x.Board.Rules.Turns, I x.Board.Map.Width, I x.Board.Map.Height, sl 1 I x.Board.Map.Terrain, sl 1 I x.Board.Map.Rivers, sl 1 I x.Board.Map.Roads, sl 2 gi_Odds x.Table.Columns, I x.Table.Dice, sl 1 (sl 1 I) x.Table.Results, I x.Start.Turn, I x.Start.Weather, sl 4 gi_Unit x.Start.Units, sl 2 gi_Goal x.Conditions.Goals, I x.Conditions.Step, I x.Conditions.Margin, sl 1 I x.First, sl 1 I x.Other]
structure Gi_Hex where
 mk ::
 Q : Int
 R : Int
def gi_Hex (x : Gi_Hex) : D := .agg [I x.Q, I x.R]
structure GA2I where
 mk ::
 c0 : Int
 c1 : Int
def gA2I (x : GA2I) : D := .agg [I x.c0, I x.c1]
structure GA6i_Hex where
 mk ::
 c0 : Gi_Hex
 c1 : Gi_Hex
 c2 : Gi_Hex
 c3 : Gi_Hex
 c4 : Gi_Hex
 c5 : Gi_Hex
def gA6i_Hex (x : GA6i_Hex) : D := .agg [I x.c0.Q, I x.c0.R, I x.c1.Q, I x.c1.R, I x.c2.Q, I x.c2.R, I x.c3.Q, I x.c3.R, I x.c4.Q, I x.c4.R, I x.c5.Q, I x.c5.R]
def gv0 : List Gi_Hex := [⟨1, 0⟩, ⟨1, (-1)⟩, ⟨0, (-1)⟩, ⟨(-1), 0⟩, ⟨(-1), 1⟩, ⟨0, 1⟩]
def gc0 : List D := [.agg (gv0.flatMap fun y => (gi_Hex y).cells)]
def gv102 : List Int := [1, 10, 100, 1000, 10000, 100000, 1000000, 10000000, 100000000, 1000000000, 10000000000, 100000000000, 1000000000000, 10000000000000, 100000000000000, 1000000000000000, 10000000000000000, 100000000000000000, 1000000000000000000, 10000000000000000000]
def gc102 : List D := [.agg (gv102.flatMap fun y => ((D.int .u64) y).cells)]
noncomputable def Dw_szIntS (a0 : (List Int)) (a1 : Int) : Option (Int) :=
 if (IntKind.wrap .i64 (a1 - ((a0.length : Nat) : Int))) < 0 then
 some (-1)
 else
 some (IntKind.wrap .i64 (a1 - ((a0.length : Nat) : Int)))
noncomputable def Dw_szTerrain (a0 : Gw_Terrain) (a1 : Int) : Option (Int) :=
 if (IntKind.wrap .i64 (a1 - ((ByteArray.size a0.Name : Nat) : Int))) < 0 then
 some (-1)
 else
 Option.bind (Dw_szIntS a0.Cost (IntKind.wrap .i64 (a1 - ((ByteArray.size a0.Name : Nat) : Int)))) fun r2 =>
 if r2 < 0 then
 some (-1)
 else
 some r2
inductive Sw_szTerrainS where
 | h1 (va0 : (List Gw_Terrain)) (left1 : Int) (i2 : Int)
noncomputable def Bw_szTerrainS : Sw_szTerrainS → Option (Sw_szTerrainS ⊕ (Int))
 | .h1 va0 left1 i2 =>
  if i2 < ((va0.length : Nat) : Int) then
  if 0 ≤ i2 then
  Option.bind (va0[(Int.toNat i2)]?) fun x3 =>
  Option.bind (Dw_szTerrain x3 left1) fun r4 =>
  if r4 < 0 then
  some (.inr (-1))
  else
  some (.inl (.h1 va0 r4 (IntKind.wrap .i64 (i2 + 1))))
  else none
  else
  some (.inr left1)
noncomputable def Dw_szTerrainS (a0 : (List Gw_Terrain)) (a1 : Int) : Option (Int) :=
 if (IntKind.wrap .i64 (a1 - ((a0.length : Nat) : Int))) < 0 then
 some (-1)
 else
 loop Bw_szTerrainS (.h1 a0 (IntKind.wrap .i64 (a1 - ((a0.length : Nat) : Int))) 0)
noncomputable def Dw_szKind (a0 : Gw_Kind) (a1 : Int) : Option (Int) :=
 if (IntKind.wrap .i64 (a1 - ((ByteArray.size a0.Name : Nat) : Int))) < 0 then
 some (-1)
 else
 some (IntKind.wrap .i64 (a1 - ((ByteArray.size a0.Name : Nat) : Int)))
inductive Sw_szKindS where
 | h1 (va0 : (List Gw_Kind)) (left1 : Int) (i2 : Int)
noncomputable def Bw_szKindS : Sw_szKindS → Option (Sw_szKindS ⊕ (Int))
 | .h1 va0 left1 i2 =>
  if i2 < ((va0.length : Nat) : Int) then
  if 0 ≤ i2 then
  Option.bind (va0[(Int.toNat i2)]?) fun x3 =>
  Option.bind (Dw_szKind x3 left1) fun r4 =>
  if r4 < 0 then
  some (.inr (-1))
  else
  some (.inl (.h1 va0 r4 (IntKind.wrap .i64 (i2 + 1))))
  else none
  else
  some (.inr left1)
noncomputable def Dw_szKindS (a0 : (List Gw_Kind)) (a1 : Int) : Option (Int) :=
 if (IntKind.wrap .i64 (a1 - ((a0.length : Nat) : Int))) < 0 then
 some (-1)
 else
 loop Bw_szKindS (.h1 a0 (IntKind.wrap .i64 (a1 - ((a0.length : Nat) : Int))) 0)
noncomputable def Dw_szRules (a0 : Gw_Rules) (a1 : Int) : Option (Int) :=
 Option.bind (Dw_szTerrainS a0.Terrains a1) fun r1 =>
 if r1 < 0 then
 some (-1)
 else
 Option.bind (Dw_szKindS a0.Kinds r1) fun r3 =>
 if r3 < 0 then
 some (-1)
 else
 some r3
noncomputable def Dw_szMap (a0 : Gw_Map) (a1 : Int) : Option (Int) :=
 Option.bind (Dw_szIntS a0.Terrain a1) fun r1 =>
 if r1 < 0 then
 some (-1)
 else
 Option.bind (Dw_szIntS a0.Rivers r1) fun r3 =>
 if r3 < 0 then
 some (-1)
 else
 Option.bind (Dw_szIntS a0.Roads r3) fun r5 =>
 if r5 < 0 then
 some (-1)
 else
 some r5
noncomputable def Dw_szBoard (a0 : Gw_Board) (a1 : Int) : Option (Int) :=
 Option.bind (Dw_szRules a0.Rules a1) fun r1 =>
 if r1 < 0 then
 some (-1)
 else
 Option.bind (Dw_szMap a0.Map r1) fun r3 =>
 if r3 < 0 then
 some (-1)
 else
 some r3
noncomputable def Dw_szOddsS (a0 : (List Gw_Odds)) (a1 : Int) : Option (Int) :=
 if (IntKind.wrap .i64 (a1 - ((a0.length : Nat) : Int))) < 0 then
 some (-1)
 else
 some (IntKind.wrap .i64 (a1 - ((a0.length : Nat) : Int)))
inductive Sw_szIntSS where
 | h1 (va0 : (List (List Int))) (left1 : Int) (i2 : Int)
noncomputable def Bw_szIntSS : Sw_szIntSS → Option (Sw_szIntSS ⊕ (Int))
 | .h1 va0 left1 i2 =>
  if i2 < ((va0.length : Nat) : Int) then
  if 0 ≤ i2 then
  Option.bind (va0[(Int.toNat i2)]?) fun x3 =>
  Option.bind (Dw_szIntS x3 left1) fun r4 =>
  if r4 < 0 then
  some (.inr (-1))
  else
  some (.inl (.h1 va0 r4 (IntKind.wrap .i64 (i2 + 1))))
  else none
  else
  some (.inr left1)
noncomputable def Dw_szIntSS (a0 : (List (List Int))) (a1 : Int) : Option (Int) :=
 if (IntKind.wrap .i64 (a1 - ((a0.length : Nat) : Int))) < 0 then
 some (-1)
 else
 loop Bw_szIntSS (.h1 a0 (IntKind.wrap .i64 (a1 - ((a0.length : Nat) : Int))) 0)
noncomputable def Dw_szCombatTable (a0 : Gw_CombatTable) (a1 : Int) : Option (Int) :=
 Option.bind (Dw_szOddsS a0.Columns a1) fun r1 =>
 if r1 < 0 then
 some (-1)
 else
 Option.bind (Dw_szIntSS a0.Results r1) fun r3 =>
 if r3 < 0 then
 some (-1)
 else
 some r3
noncomputable def Dw_szUnitS (a0 : (List Gw_Unit)) (a1 : Int) : Option (Int) :=
 if (IntKind.wrap .i64 (a1 - ((a0.length : Nat) : Int))) < 0 then
 some (-1)
 else
 some (IntKind.wrap .i64 (a1 - ((a0.length : Nat) : Int)))
noncomputable def Dw_szState (a0 : Gw_State) (a1 : Int) : Option (Int) :=
 Option.bind (Dw_szUnitS a0.Units a1) fun r1 =>
 if r1 < 0 then
 some (-1)
 else
 some r1
noncomputable def Dw_szGoalS (a0 : (List Gw_Goal)) (a1 : Int) : Option (Int) :=
 if (IntKind.wrap .i64 (a1 - ((a0.length : Nat) : Int))) < 0 then
 some (-1)
 else
 some (IntKind.wrap .i64 (a1 - ((a0.length : Nat) : Int)))
noncomputable def Dw_szConditions (a0 : Gw_Conditions) (a1 : Int) : Option (Int) :=
 Option.bind (Dw_szGoalS a0.Goals a1) fun r1 =>
 if r1 < 0 then
 some (-1)
 else
 some r1
noncomputable def Dw_szScenario (a0 : Gw_Scenario) (a1 : Int) : Option (Int) :=
 if (IntKind.wrap .i64 (a1 - ((ByteArray.size a0.Name : Nat) : Int))) < 0 then
 some (-1)
 else
 Option.bind (Dw_szBoard a0.Board (IntKind.wrap .i64 (a1 - ((ByteArray.size a0.Name : Nat) : Int)))) fun r2 =>
 if r2 < 0 then
 some (-1)
 else
 Option.bind (Dw_szCombatTable a0.Table r2) fun r4 =>
 if r4 < 0 then
 some (-1)
 else
 Option.bind (Dw_szState a0.Start r4) fun r6 =>
 if r6 < 0 then
 some (-1)
 else
 Option.bind (Dw_szConditions a0.Conditions r6) fun r8 =>
 if r8 < 0 then
 some (-1)
 else
 Option.bind (Dw_szIntS a0.First r8) fun r10 =>
 if r10 < 0 then
 some (-1)
 else
 Option.bind (Dw_szIntS a0.Other r10) fun r12 =>
 if r12 < 0 then
 some (-1)
 else
 some r12
inductive Sw_toIntS where
 | h1 (va0 : (List Int)) (i1 : Int) (l2 : (List Int))
noncomputable def Bw_toIntS : Sw_toIntS → Option (Sw_toIntS ⊕ ((List Int)))
 | .h1 va0 i1 l2 =>
  if i1 < ((va0.length : Nat) : Int) then
  if 0 ≤ i1 then
  Option.bind (va0[(Int.toNat i1)]?) fun x3 =>
  if 0 ≤ i1 then
  Option.bind (l2[(Int.toNat i1)]?) fun x5 =>
  some (.inl (.h1 va0 (IntKind.wrap .i64 (i1 + 1)) (List.set l2 (Int.toNat i1) x3)))
  else none
  else none
  else
  some (.inr l2)
noncomputable def Dw_toIntS (a0 : (List Int)) : Option ((List Int)) :=
 if Int.toNat ((a0.length : Nat) : Int) * 8 ≤ 140737488355328 then
 loop Bw_toIntS (.h1 a0 0 (List.replicate (Int.toNat ((a0.length : Nat) : Int)) (0 : Int)))
 else none
noncomputable def Dw_toTerrain (a0 : Gw_Terrain) : Option (Gi_Terrain) :=
 Option.bind (Dw_toIntS a0.Cost) fun r1 =>
 some (Gi_Terrain.mk a0.Name r1 a0.Shift a0.Height a0.Blocks)
inductive Sw_toTerrainS where
 | h1 (va0 : (List Gw_Terrain)) (i1 : Int) (l2 : (List Gi_Terrain))
noncomputable def Bw_toTerrainS : Sw_toTerrainS → Option (Sw_toTerrainS ⊕ ((List Gi_Terrain)))
 | .h1 va0 i1 l2 =>
  if i1 < ((va0.length : Nat) : Int) then
  if 0 ≤ i1 then
  Option.bind (va0[(Int.toNat i1)]?) fun x3 =>
  Option.bind (Dw_toTerrain x3) fun r4 =>
  if 0 ≤ i1 then
  Option.bind (l2[(Int.toNat i1)]?) fun x6 =>
  some (.inl (.h1 va0 (IntKind.wrap .i64 (i1 + 1)) (List.set l2 (Int.toNat i1) r4)))
  else none
  else none
  else
  some (.inr l2)
noncomputable def Dw_toTerrainS (a0 : (List Gw_Terrain)) : Option ((List Gi_Terrain)) :=
 if Int.toNat ((a0.length : Nat) : Int) * 64 ≤ 140737488355328 then
 loop Bw_toTerrainS (.h1 a0 0 (List.replicate (Int.toNat ((a0.length : Nat) : Int)) (Gi_Terrain.mk ⟨#[]⟩ [] 0 0 false)))
 else none
noncomputable def Dw_toKind (a0 : Gw_Kind) : Option (Gi_Kind) :=
 some (Gi_Kind.mk a0.Name a0.Strength a0.Moves a0.Steps a0.Zone a0.View)
inductive Sw_toKindS where
 | h1 (va0 : (List Gw_Kind)) (i1 : Int) (l2 : (List Gi_Kind))
noncomputable def Bw_toKindS : Sw_toKindS → Option (Sw_toKindS ⊕ ((List Gi_Kind)))
 | .h1 va0 i1 l2 =>
  if i1 < ((va0.length : Nat) : Int) then
  if 0 ≤ i1 then
  Option.bind (va0[(Int.toNat i1)]?) fun x3 =>
  Option.bind (Dw_toKind x3) fun r4 =>
  if 0 ≤ i1 then
  Option.bind (l2[(Int.toNat i1)]?) fun x6 =>
  some (.inl (.h1 va0 (IntKind.wrap .i64 (i1 + 1)) (List.set l2 (Int.toNat i1) r4)))
  else none
  else none
  else
  some (.inr l2)
noncomputable def Dw_toKindS (a0 : (List Gw_Kind)) : Option ((List Gi_Kind)) :=
 if Int.toNat ((a0.length : Nat) : Int) * 56 ≤ 140737488355328 then
 loop Bw_toKindS (.h1 a0 0 (List.replicate (Int.toNat ((a0.length : Nat) : Int)) (Gi_Kind.mk ⟨#[]⟩ 0 0 0 false 0)))
 else none
noncomputable def Dw_toRules (a0 : Gw_Rules) : Option (Gi_Rules) :=
 Option.bind (Dw_toTerrainS a0.Terrains) fun r1 =>
 Option.bind (Dw_toKindS a0.Kinds) fun r2 =>
 some (Gi_Rules.mk r1 r2 a0.Stack a0.River a0.Road a0.Supply a0.Turns)
noncomputable def Dw_toMap (a0 : Gw_Map) : Option (Gi_Map) :=
 Option.bind (Dw_toIntS a0.Terrain) fun r1 =>
 Option.bind (Dw_toIntS a0.Rivers) fun r2 =>
 Option.bind (Dw_toIntS a0.Roads) fun r3 =>
 some (Gi_Map.mk a0.Width a0.Height r1 r2 r3)
noncomputable def Dw_toBoard (a0 : Gw_Board) : Option (Gi_Board) :=
 Option.bind (Dw_toRules a0.Rules) fun r1 =>
 Option.bind (Dw_toMap a0.Map) fun r2 =>
 some (Gi_Board.mk r1 r2)
noncomputable def Dw_toOdds (a0 : Gw_Odds) : Option (Gi_Odds) :=
 some (Gi_Odds.mk a0.Num a0.Den)
inductive Sw_toOddsS where
 | h1 (va0 : (List Gw_Odds)) (i1 : Int) (l2 : (List Gi_Odds))
noncomputable def Bw_toOddsS : Sw_toOddsS → Option (Sw_toOddsS ⊕ ((List Gi_Odds)))
 | .h1 va0 i1 l2 =>
  if i1 < ((va0.length : Nat) : Int) then
  if 0 ≤ i1 then
  Option.bind (va0[(Int.toNat i1)]?) fun x3 =>
  Option.bind (Dw_toOdds x3) fun r4 =>
  if 0 ≤ i1 then
  Option.bind (l2[(Int.toNat i1)]?) fun x6 =>
  some (.inl (.h1 va0 (IntKind.wrap .i64 (i1 + 1)) (List.set l2 (Int.toNat i1) r4)))
  else none
  else none
  else
  some (.inr l2)
noncomputable def Dw_toOddsS (a0 : (List Gw_Odds)) : Option ((List Gi_Odds)) :=
 if Int.toNat ((a0.length : Nat) : Int) * 16 ≤ 140737488355328 then
 loop Bw_toOddsS (.h1 a0 0 (List.replicate (Int.toNat ((a0.length : Nat) : Int)) (Gi_Odds.mk 0 0)))
 else none
inductive Sw_toIntSS where
 | h1 (va0 : (List (List Int))) (i1 : Int) (l2 : (List (List Int)))
noncomputable def Bw_toIntSS : Sw_toIntSS → Option (Sw_toIntSS ⊕ ((List (List Int))))
 | .h1 va0 i1 l2 =>
  if i1 < ((va0.length : Nat) : Int) then
  if 0 ≤ i1 then
  Option.bind (va0[(Int.toNat i1)]?) fun x3 =>
  Option.bind (Dw_toIntS x3) fun r4 =>
  if 0 ≤ i1 then
  Option.bind (l2[(Int.toNat i1)]?) fun x6 =>
  some (.inl (.h1 va0 (IntKind.wrap .i64 (i1 + 1)) (List.set l2 (Int.toNat i1) r4)))
  else none
  else none
  else
  some (.inr l2)
noncomputable def Dw_toIntSS (a0 : (List (List Int))) : Option ((List (List Int))) :=
 if Int.toNat ((a0.length : Nat) : Int) * 24 ≤ 140737488355328 then
 loop Bw_toIntSS (.h1 a0 0 (List.replicate (Int.toNat ((a0.length : Nat) : Int)) ([] : (List Int))))
 else none
noncomputable def Dw_toCombatTable (a0 : Gw_CombatTable) : Option (Gi_CombatTable) :=
 Option.bind (Dw_toOddsS a0.Columns) fun r1 =>
 Option.bind (Dw_toIntSS a0.Results) fun r2 =>
 some (Gi_CombatTable.mk r1 a0.Dice r2)
noncomputable def Dw_toUnit (a0 : Gw_Unit) : Option (Gi_Unit) :=
 some (Gi_Unit.mk a0.Side a0.Kind a0.At a0.Steps)
inductive Sw_toUnitS where
 | h1 (va0 : (List Gw_Unit)) (i1 : Int) (l2 : (List Gi_Unit))
noncomputable def Bw_toUnitS : Sw_toUnitS → Option (Sw_toUnitS ⊕ ((List Gi_Unit)))
 | .h1 va0 i1 l2 =>
  if i1 < ((va0.length : Nat) : Int) then
  if 0 ≤ i1 then
  Option.bind (va0[(Int.toNat i1)]?) fun x3 =>
  Option.bind (Dw_toUnit x3) fun r4 =>
  if 0 ≤ i1 then
  Option.bind (l2[(Int.toNat i1)]?) fun x6 =>
  some (.inl (.h1 va0 (IntKind.wrap .i64 (i1 + 1)) (List.set l2 (Int.toNat i1) r4)))
  else none
  else none
  else
  some (.inr l2)
noncomputable def Dw_toUnitS (a0 : (List Gw_Unit)) : Option ((List Gi_Unit)) :=
 if Int.toNat ((a0.length : Nat) : Int) * 32 ≤ 140737488355328 then
 loop Bw_toUnitS (.h1 a0 0 (List.replicate (Int.toNat ((a0.length : Nat) : Int)) (Gi_Unit.mk 0 0 0 0)))
 else none
noncomputable def Dw_toState (a0 : Gw_State) : Option (Gi_State) :=
 Option.bind (Dw_toUnitS a0.Units) fun r1 =>
 some (Gi_State.mk a0.Turn a0.Weather r1)
noncomputable def Dw_toGoal (a0 : Gw_Goal) : Option (Gi_Goal) :=
 some (Gi_Goal.mk a0.At a0.Points)
inductive Sw_toGoalS where
 | h1 (va0 : (List Gw_Goal)) (i1 : Int) (l2 : (List Gi_Goal))
noncomputable def Bw_toGoalS : Sw_toGoalS → Option (Sw_toGoalS ⊕ ((List Gi_Goal)))
 | .h1 va0 i1 l2 =>
  if i1 < ((va0.length : Nat) : Int) then
  if 0 ≤ i1 then
  Option.bind (va0[(Int.toNat i1)]?) fun x3 =>
  Option.bind (Dw_toGoal x3) fun r4 =>
  if 0 ≤ i1 then
  Option.bind (l2[(Int.toNat i1)]?) fun x6 =>
  some (.inl (.h1 va0 (IntKind.wrap .i64 (i1 + 1)) (List.set l2 (Int.toNat i1) r4)))
  else none
  else none
  else
  some (.inr l2)
noncomputable def Dw_toGoalS (a0 : (List Gw_Goal)) : Option ((List Gi_Goal)) :=
 if Int.toNat ((a0.length : Nat) : Int) * 16 ≤ 140737488355328 then
 loop Bw_toGoalS (.h1 a0 0 (List.replicate (Int.toNat ((a0.length : Nat) : Int)) (Gi_Goal.mk 0 0)))
 else none
noncomputable def Dw_toConditions (a0 : Gw_Conditions) : Option (Gi_Conditions) :=
 Option.bind (Dw_toGoalS a0.Goals) fun r1 =>
 some (Gi_Conditions.mk r1 a0.Step a0.Margin)
noncomputable def Dw_toScenario (a0 : Gw_Scenario) : Option (Gi_Scenario) :=
 Option.bind (Dw_toBoard a0.Board) fun r1 =>
 Option.bind (Dw_toCombatTable a0.Table) fun r2 =>
 Option.bind (Dw_toState a0.Start) fun r3 =>
 Option.bind (Dw_toConditions a0.Conditions) fun r4 =>
 Option.bind (Dw_toIntS a0.First) fun r5 =>
 Option.bind (Dw_toIntS a0.Other) fun r6 =>
 some (Gi_Scenario.mk a0.Name r1 r2 r3 r4 r5 r6)
noncomputable def Ds_l1In (a0 : Int) (a1 : Int) (a2 : Int) : Option (Bool) :=
 if a0 ≥ a1 then
 some (decide (a0 ≤ a2))
 else
 some false
inductive Ss_rName where
 | h1 (s0 : ByteArray) (i1 : Int)
noncomputable def Bs_rName : Ss_rName → Option (Ss_rName ⊕ (Bool))
 | .h1 s0 i1 =>
  if i1 < ((ByteArray.size s0 : Nat) : Int) then
  if 0 ≤ i1 then
  if i1 < (ByteArray.size s0 : Int) then
  if ((byteAt s0 (Int.toNat i1) : Nat) : Int) < 97 then
  some (.inr false)
  else
  if 0 ≤ i1 then
  if i1 < (ByteArray.size s0 : Int) then
  if ((byteAt s0 (Int.toNat i1) : Nat) : Int) > 122 then
  some (.inr false)
  else
  some (.inl (.h1 s0 (IntKind.wrap .i64 (i1 + 1))))
  else none
  else none
  else none
  else none
  else
  Option.bind (Ds_l1In ((ByteArray.size s0 : Nat) : Int) 1 8) fun r2 =>
  some (.inr r2)
noncomputable def Ds_rName (a0 : ByteArray) : Option (Bool) :=
 loop Bs_rName (.h1 a0 0)
inductive Ss_rTerrain where
 | h1 (name0 : ByteArray) (t1 : (List Gi_Terrain)) (t2 : Int) (t3 : Int)
noncomputable def Bs_rTerrain : Ss_rTerrain → Option (Ss_rTerrain ⊕ (Int))
 | .h1 name0 t1 t2 t3 =>
  if t3 < t2 then
  if 0 ≤ t3 then
  Option.bind (t1[(Int.toNat t3)]?) fun x3 =>
  if x3.Name = name0 then
  some (.inr t3)
  else
  some (.inl (.h1 name0 t1 t2 (IntKind.wrap .i64 (t3 + 1))))
  else none
  else
  some (.inr (-1))
noncomputable def Ds_rTerrain (a0 : (List Gi_Terrain)) (a1 : ByteArray) : Option (Int) :=
 loop Bs_rTerrain (.h1 a1 a0 ((a0.length : Nat) : Int) 0)
inductive Ss_l1All where
 | h1 (lo0 : Int) (vhi1 : Int) (t2 : (List Int)) (t3 : Int) (t4 : Int)
noncomputable def Bs_l1All : Ss_l1All → Option (Ss_l1All ⊕ (Bool))
 | .h1 lo0 vhi1 t2 t3 t4 =>
  if t4 < t3 then
  if 0 ≤ t4 then
  Option.bind (t2[(Int.toNat t4)]?) fun x3 =>
  Option.bind (Ds_l1In x3 lo0 vhi1) fun r4 =>
  if r4 = true then
  some (.inl (.h1 lo0 vhi1 t2 t3 (IntKind.wrap .i64 (t4 + 1))))
  else
  some (.inr false)
  else none
  else
  some (.inr true)
noncomputable def Ds_l1All (a0 : (List Int)) (a1 : Int) (a2 : Int) : Option (Bool) :=
 loop Bs_l1All (.h1 a1 a2 a0 ((a0.length : Nat) : Int) 0)
inductive Ss_rKind where
 | h1 (name0 : ByteArray) (t1 : (List Gi_Kind)) (t2 : Int) (t3 : Int)
noncomputable def Bs_rKind : Ss_rKind → Option (Ss_rKind ⊕ (Int))
 | .h1 name0 t1 t2 t3 =>
  if t3 < t2 then
  if 0 ≤ t3 then
  Option.bind (t1[(Int.toNat t3)]?) fun x3 =>
  if x3.Name = name0 then
  some (.inr t3)
  else
  some (.inl (.h1 name0 t1 t2 (IntKind.wrap .i64 (t3 + 1))))
  else none
  else
  some (.inr (-1))
noncomputable def Ds_rKind (a0 : (List Gi_Kind)) (a1 : ByteArray) : Option (Int) :=
 loop Bs_rKind (.h1 a1 a0 ((a0.length : Nat) : Int) 0)
inductive Ss_rGood where
 | h1 (t0 : (List Gi_Terrain)) (t1 : Int) (t2 : Int) (b3 : Gi_Rules)
 | h2 (t0 : (List Gi_Kind)) (t1 : Int) (t2 : Int) (b3 : Gi_Rules)
noncomputable def Bs_rGood : Ss_rGood → Option (Ss_rGood ⊕ (Bool))
 | .h1 t0 t1 t2 b3 =>
  if t2 < t1 then
  if 0 ≤ t2 then
  Option.bind (t0[(Int.toNat t2)]?) fun x3 =>
  Option.bind (Ds_rName x3.Name) fun r4 =>
  if r4 = true then
  Option.bind (Ds_rTerrain b3.Terrains x3.Name) fun r6 =>
  if (r6 : Int) = t2 then
  if (((x3.Cost.length : Nat) : Int) : Int) = ((b3.Kinds.length : Nat) : Int) then
  Option.bind (Ds_l1All x3.Cost 0 9) fun r9 =>
  if r9 = true then
  Option.bind (Ds_l1In x3.Shift (-3) 3) fun r11 =>
  if r11 = true then
  Option.bind (Ds_l1In x3.Height 0 3) fun r13 =>
  if r13 = true then
  some (.inl (.h1 t0 t1 (IntKind.wrap .i64 (t2 + 1)) b3))
  else
  some (.inr false)
  else
  some (.inr false)
  else
  some (.inr false)
  else
  some (.inr false)
  else
  some (.inr false)
  else
  some (.inr false)
  else none
  else
  some (.inl (.h2 b3.Kinds ((b3.Kinds.length : Nat) : Int) 0 b3))
 | .h2 t0 t1 t2 b3 =>
  if t2 < t1 then
  if 0 ≤ t2 then
  Option.bind (t0[(Int.toNat t2)]?) fun x3 =>
  Option.bind (Ds_rName x3.Name) fun r4 =>
  if r4 = true then
  Option.bind (Ds_rKind b3.Kinds x3.Name) fun r6 =>
  if (r6 : Int) = t2 then
  Option.bind (Ds_l1In x3.Strength 1 9) fun r8 =>
  if r8 = true then
  Option.bind (Ds_l1In x3.Moves 0 9) fun r10 =>
  if r10 = true then
  Option.bind (Ds_l1In x3.Steps 1 4) fun r12 =>
  if r12 = true then
  Option.bind (Ds_l1In x3.View 0 4) fun r14 =>
  if r14 = true then
  some (.inl (.h2 t0 t1 (IntKind.wrap .i64 (t2 + 1)) b3))
  else
  some (.inr false)
  else
  some (.inr false)
  else
  some (.inr false)
  else
  some (.inr false)
  else
  some (.inr false)
  else
  some (.inr false)
  else none
  else
  Option.bind (Ds_l1In b3.Stack 1 4) fun r2 =>
  if r2 = true then
  Option.bind (Ds_l1In b3.River 0 9) fun r4 =>
  if r4 = true then
  Option.bind (Ds_l1In b3.Road 1 9) fun r6 =>
  if r6 = true then
  Option.bind (Ds_l1In b3.Supply 0 20) fun r8 =>
  if r8 = true then
  Option.bind (Ds_l1In b3.Turns 1 30) fun r10 =>
  some (.inr r10)
  else
  some (.inr false)
  else
  some (.inr false)
  else
  some (.inr false)
  else
  some (.inr false)
noncomputable def Ds_rGood (a0 : Gi_Rules) : Option (Bool) :=
 Option.bind (Ds_l1In ((a0.Terrains.length : Nat) : Int) 1 6) fun r1 =>
 if r1 = true then
 Option.bind (Ds_l1In ((a0.Kinds.length : Nat) : Int) 1 4) fun r3 =>
 if r3 = true then
 loop Bs_rGood (.h1 a0.Terrains ((a0.Terrains.length : Nat) : Int) 0 a0)
 else
 some false
 else
 some false
noncomputable def Ds_mSize (a0 : Gi_Map) : Option (Int) :=
 some (IntKind.wrap .i64 (a0.Width * a0.Height))
noncomputable def Ds_mHex (a0 : Gi_Map) (a1 : Int) : Option (Gi_Hex) :=
 if ¬ a0.Width = 0 then
 if ¬ a0.Width = 0 then
 some (Gi_Hex.mk (Int.tmod a1 a0.Width) (IntKind.wrap .i64 (Int.tdiv a1 a0.Width)))
 else none
 else none
noncomputable def Ds_hStep (a0 : Gi_Hex) (a1 : Int) : Option (Gi_Hex) :=
 if 0 ≤ a1 then
 Option.bind ([1, 1, 0, (-1), (-1), 0][(Int.toNat a1)]?) fun x2 =>
 if 0 ≤ a1 then
 Option.bind ([0, (-1), (-1), 0, 1, 1][(Int.toNat a1)]?) fun x4 =>
 some (Gi_Hex.mk (IntKind.wrap .i64 (a0.Q + x2)) (IntKind.wrap .i64 (a0.R + x4)))
 else none
 else none
noncomputable def Ds_mIndex (a0 : Gi_Map) (a1 : Gi_Hex) : Option (Int) :=
 Option.bind (Ds_l1In a1.Q 0 (IntKind.wrap .i64 (a0.Width - 1))) fun r1 =>
 if r1 = true then
 Option.bind (Ds_l1In a1.R 0 (IntKind.wrap .i64 (a0.Height - 1))) fun r3 =>
 if r3 = true then
 some (IntKind.wrap .i64 ((IntKind.wrap .i64 (a1.R * a0.Width)) + a1.Q))
 else
 some (-1)
 else
 some (-1)
noncomputable def Ds_mNext (a0 : Gi_Map) (a1 : Int) (a2 : Int) : Option (Int) :=
 Option.bind (Ds_mHex a0 a1) fun r1 =>
 Option.bind (Ds_hStep r1 a2) fun r2 =>
 Option.bind (Ds_mIndex a0 r2) fun r3 =>
 some r3
inductive Ss_l1Rising where
 | h1 (l0 : (List Int)) (lo1 : Int) (vhi2 : Int) (t3 : (List Int)) (t4 : Int) (t5 : Int)
noncomputable def Bs_l1Rising : Ss_l1Rising → Option (Ss_l1Rising ⊕ (Bool))
 | .h1 l0 lo1 vhi2 t3 t4 t5 =>
  if t5 < t4 then
  if 0 ≤ t5 then
  Option.bind (t3[(Int.toNat t5)]?) fun x3 =>
  Option.bind (Ds_l1In x3 lo1 vhi2) fun r4 =>
  if r4 = true then
  if t5 > 0 then
  if 0 ≤ (IntKind.wrap .i64 (t5 - 1)) then
  Option.bind (l0[(Int.toNat (IntKind.wrap .i64 (t5 - 1)))]?) fun x8 =>
  if x8 ≥ x3 then
  some (.inr false)
  else
  some (.inl (.h1 l0 lo1 vhi2 t3 t4 (IntKind.wrap .i64 (t5 + 1))))
  else none
  else
  some (.inl (.h1 l0 lo1 vhi2 t3 t4 (IntKind.wrap .i64 (t5 + 1))))
  else
  some (.inr false)
  else none
  else
  some (.inr true)
noncomputable def Ds_l1Rising (a0 : (List Int)) (a1 : Int) (a2 : Int) : Option (Bool) :=
 loop Bs_l1Rising (.h1 a0 a1 a2 a0 ((a0.length : Nat) : Int) 0)
inductive Ss_mEdges where
 | h1 (l0 : (List Int)) (t1 : (List Int)) (t2 : Int) (t3 : Int) (b4 : Gi_Map)
noncomputable def Bs_mEdges : Ss_mEdges → Option (Ss_mEdges ⊕ (Bool))
 | .h1 l0 t1 t2 t3 b4 =>
  if t3 < t2 then
  if 0 ≤ t3 then
  Option.bind (t1[(Int.toNat t3)]?) fun x3 =>
  Option.bind (Ds_mSize b4) fun r4 =>
  Option.bind (Ds_l1In x3 0 (IntKind.wrap .i64 ((IntKind.wrap .i64 (3 * r4)) - 1))) fun r5 =>
  if r5 = true then
  Option.bind (Ds_mNext b4 (IntKind.wrap .i64 (Int.tdiv x3 3)) (Int.tmod x3 3)) fun r7 =>
  if r7 < 0 then
  some (.inr false)
  else
  some (.inl (.h1 l0 t1 t2 (IntKind.wrap .i64 (t3 + 1)) b4))
  else
  some (.inr false)
  else none
  else
  Option.bind (Ds_mSize b4) fun r2 =>
  Option.bind (Ds_l1Rising l0 0 (IntKind.wrap .i64 ((IntKind.wrap .i64 (3 * r2)) - 1))) fun r3 =>
  some (.inr r3)
noncomputable def Ds_mEdges (a0 : Gi_Map) (a1 : (List Int)) : Option (Bool) :=
 loop Bs_mEdges (.h1 a1 a1 ((a1.length : Nat) : Int) 0 a0)
noncomputable def Ds_mGood (a0 : Gi_Map) : Option (Bool) :=
 Option.bind (Ds_l1In a0.Width 1 10) fun r1 =>
 if r1 = true then
 Option.bind (Ds_l1In a0.Height 1 10) fun r3 =>
 if r3 = true then
 Option.bind (Ds_mSize a0) fun r5 =>
 if (((a0.Terrain.length : Nat) : Int) : Int) = r5 then
 Option.bind (Ds_l1All a0.Terrain 0 5) fun r7 =>
 if r7 = true then
 Option.bind (Ds_mEdges a0 a0.Rivers) fun r9 =>
 if r9 = true then
 Option.bind (Ds_mEdges a0 a0.Roads) fun r11 =>
 some r11
 else
 some false
 else
 some false
 else
 some false
 else
 some false
 else
 some false
noncomputable def Ds_bGood (a0 : Gi_Board) : Option (Bool) :=
 Option.bind (Ds_rGood a0.Rules) fun r1 =>
 if r1 = true then
 Option.bind (Ds_mGood a0.Map) fun r3 =>
 if r3 = true then
 Option.bind (Ds_l1All a0.Map.Terrain 0 (IntKind.wrap .i64 (((a0.Rules.Terrains.length : Nat) : Int) - 1))) fun r5 =>
 some r5
 else
 some false
 else
 some false
noncomputable def Ds_kRows (a0 : Int) : Option (Int) :=
 some (IntKind.wrap .i64 ((IntKind.wrap .i64 (5 * a0)) + 1))
inductive Ss_kGood where
 | h1 (t0 : (List Gi_Odds)) (t1 : Int) (t2 : Int) (b3 : Gi_CombatTable)
 | h2 (t0 : (List (List Int))) (t1 : Int) (t2 : Int) (b3 : Gi_CombatTable)
noncomputable def Bs_kGood : Ss_kGood → Option (Ss_kGood ⊕ (Bool))
 | .h1 t0 t1 t2 b3 =>
  if t2 < t1 then
  if 0 ≤ t2 then
  Option.bind (t0[(Int.toNat t2)]?) fun x3 =>
  Option.bind (Ds_l1In x3.Num 1 20) fun r4 =>
  if r4 = true then
  Option.bind (Ds_l1In x3.Den 1 20) fun r6 =>
  if r6 = true then
  if t2 > 0 then
  if 0 ≤ (IntKind.wrap .i64 (t2 - 1)) then
  Option.bind (b3.Columns[(Int.toNat (IntKind.wrap .i64 (t2 - 1)))]?) fun x10 =>
  if 0 ≤ (IntKind.wrap .i64 (t2 - 1)) then
  Option.bind (b3.Columns[(Int.toNat (IntKind.wrap .i64 (t2 - 1)))]?) fun x12 =>
  if (IntKind.wrap .i64 (x10.Num * x3.Den)) ≥ (IntKind.wrap .i64 (x3.Num * x12.Den)) then
  some (.inr false)
  else
  some (.inl (.h1 t0 t1 (IntKind.wrap .i64 (t2 + 1)) b3))
  else none
  else none
  else
  some (.inl (.h1 t0 t1 (IntKind.wrap .i64 (t2 + 1)) b3))
  else
  some (.inr false)
  else
  some (.inr false)
  else none
  else
  some (.inl (.h2 b3.Results ((b3.Results.length : Nat) : Int) 0 b3))
 | .h2 t0 t1 t2 b3 =>
  if t2 < t1 then
  if 0 ≤ t2 then
  Option.bind (t0[(Int.toNat t2)]?) fun x3 =>
  if (((x3.length : Nat) : Int) : Int) = ((b3.Columns.length : Nat) : Int) then
  Option.bind (Ds_l1All x3 0 7) fun r5 =>
  if r5 = true then
  some (.inl (.h2 t0 t1 (IntKind.wrap .i64 (t2 + 1)) b3))
  else
  some (.inr false)
  else
  some (.inr false)
  else none
  else
  some (.inr true)
noncomputable def Ds_kGood (a0 : Gi_CombatTable) : Option (Bool) :=
 Option.bind (Ds_l1In ((a0.Columns.length : Nat) : Int) 1 8) fun r1 =>
 if r1 = true then
 Option.bind (Ds_l1In a0.Dice 1 2) fun r3 =>
 if r3 = true then
 Option.bind (Ds_kRows a0.Dice) fun r5 =>
 if (((a0.Results.length : Nat) : Int) : Int) = r5 then
 loop Bs_kGood (.h1 a0.Columns ((a0.Columns.length : Nat) : Int) 0 a0)
 else
 some false
 else
 some false
 else
 some false
noncomputable def Ds_bTerrain (a0 : Gi_Board) (a1 : Int) : Option (Gi_Terrain) :=
 if 0 ≤ a1 then
 Option.bind (a0.Map.Terrain[(Int.toNat a1)]?) fun x2 =>
 if 0 ≤ x2 then
 Option.bind (a0.Rules.Terrains[(Int.toNat x2)]?) fun x4 =>
 some x4
 else none
 else none
noncomputable def Ds_bCost (a0 : Gi_Board) (a1 : Int) (a2 : Int) : Option (Int) :=
 Option.bind (Ds_bTerrain a0 a2) fun r1 =>
 if 0 ≤ a1 then
 Option.bind (r1.Cost[(Int.toNat a1)]?) fun x3 =>
 some x3
 else none
noncomputable def Ds_sUnit (a0 : Gi_Board) (a1 : Gi_Unit) : Option (Bool) :=
 Option.bind (Ds_l1In a1.Side 0 1) fun r1 =>
 if r1 = true then
 Option.bind (Ds_l1In a1.Kind 0 (IntKind.wrap .i64 (((a0.Rules.Kinds.length : Nat) : Int) - 1))) fun r3 =>
 if r3 = true then
 if 0 ≤ a1.Kind then
 Option.bind (a0.Rules.Kinds[(Int.toNat a1.Kind)]?) fun x6 =>
 Option.bind (Ds_l1In a1.Steps 0 x6.Steps) fun r7 =>
 if r7 = true then
 if (a1.At : Int) = (-1) then
 some true
 else
 if a1.Steps > 0 then
 Option.bind (Ds_mSize a0.Map) fun r11 =>
 Option.bind (Ds_l1In a1.At 0 (IntKind.wrap .i64 (r11 - 1))) fun r12 =>
 if r12 = true then
 Option.bind (Ds_bCost a0 a1.Kind a1.At) fun r14 =>
 some (decide (r14 > 0))
 else
 some false
 else
 some false
 else
 some false
 else none
 else
 some false
 else
 some false
inductive Ss_sAt where
 | h1 (i0 : Int) (side1 : Int) (t2 : (List Gi_Unit)) (t3 : Int) (t4 : Int) (l5 : (List Int))
noncomputable def Bs_sAt : Ss_sAt → Option (Ss_sAt ⊕ ((List Int)))
 | .h1 i0 side1 t2 t3 t4 l5 =>
  if t4 < t3 then
  if 0 ≤ t4 then
  Option.bind (t2[(Int.toNat t4)]?) fun x3 =>
  if (x3.At : Int) = i0 then
  if (x3.Side : Int) = side1 then
  if (l5 ++ [t4]).length * 8 ≤ 70368744177664 then
  some (.inl (.h1 i0 side1 t2 t3 (IntKind.wrap .i64 (t4 + 1)) (l5 ++ [t4])))
  else none
  else
  some (.inl (.h1 i0 side1 t2 t3 (IntKind.wrap .i64 (t4 + 1)) l5))
  else
  some (.inl (.h1 i0 side1 t2 t3 (IntKind.wrap .i64 (t4 + 1)) l5))
  else none
  else
  some (.inr l5)
noncomputable def Ds_sAt (a0 : Gi_State) (a1 : Int) (a2 : Int) : Option ((List Int)) :=
 loop Bs_sAt (.h1 a1 a2 a0.Units ((a0.Units.length : Nat) : Int) 0 ([] : List Int))
inductive Ss_sGood where
 | h1 (t0 : (List Gi_Unit)) (t1 : Int) (t2 : Int) (b3 : Gi_Board) (b4 : Gi_State)
 | h2 (t0 : (List Gi_Unit)) (t1 : Int) (t2 : Int) (b3 : Gi_Board) (b4 : Gi_State)
noncomputable def Bs_sGood : Ss_sGood → Option (Ss_sGood ⊕ (Bool))
 | .h1 t0 t1 t2 b3 b4 =>
  if t2 < t1 then
  if 0 ≤ t2 then
  Option.bind (t0[(Int.toNat t2)]?) fun x3 =>
  Option.bind (Ds_sUnit b3 x3) fun r4 =>
  if r4 = true then
  some (.inl (.h1 t0 t1 (IntKind.wrap .i64 (t2 + 1)) b3 b4))
  else
  some (.inr false)
  else none
  else
  some (.inl (.h2 b4.Units ((b4.Units.length : Nat) : Int) 0 b3 b4))
 | .h2 t0 t1 t2 b3 b4 =>
  if t2 < t1 then
  if 0 ≤ t2 then
  Option.bind (t0[(Int.toNat t2)]?) fun x3 =>
  if x3.At ≥ 0 then
  Option.bind (Ds_sAt b4 x3.At (IntKind.wrap .i64 (1 - x3.Side))) fun r5 =>
  if ((r5.length : Nat) : Int) > 0 then
  some (.inr false)
  else
  Option.bind (Ds_sAt b4 x3.At x3.Side) fun r7 =>
  if ((r7.length : Nat) : Int) > b3.Rules.Stack then
  some (.inr false)
  else
  some (.inl (.h2 t0 t1 (IntKind.wrap .i64 (t2 + 1)) b3 b4))
  else
  some (.inl (.h2 t0 t1 (IntKind.wrap .i64 (t2 + 1)) b3 b4))
  else none
  else
  some (.inr true)
noncomputable def Ds_sGood (a0 : Gi_Board) (a1 : Gi_State) : Option (Bool) :=
 Option.bind (Ds_bGood a0) fun r1 =>
 if r1 = true then
 Option.bind (Ds_l1In a1.Turn 0 a0.Rules.Turns) fun r3 =>
 if r3 = true then
 Option.bind (Ds_l1In a1.Weather 0 2) fun r5 =>
 if r5 = true then
 if ((a1.Units.length : Nat) : Int) > 12 then
 some false
 else
 loop Bs_sGood (.h1 a1.Units ((a1.Units.length : Nat) : Int) 0 a0 a1)
 else
 some false
 else
 some false
 else
 some false
inductive Ss_vcGood where
 | h1 (t0 : (List Gi_Goal)) (t1 : Int) (t2 : Int) (b3 : Gi_Board) (b4 : Gi_Conditions)
noncomputable def Bs_vcGood : Ss_vcGood → Option (Ss_vcGood ⊕ (Bool))
 | .h1 t0 t1 t2 b3 b4 =>
  if t2 < t1 then
  if 0 ≤ t2 then
  Option.bind (t0[(Int.toNat t2)]?) fun x3 =>
  Option.bind (Ds_mSize b3.Map) fun r4 =>
  Option.bind (Ds_l1In x3.At 0 (IntKind.wrap .i64 (r4 - 1))) fun r5 =>
  if r5 = true then
  Option.bind (Ds_l1In x3.Points 1 20) fun r7 =>
  if r7 = true then
  if t2 > 0 then
  if 0 ≤ (IntKind.wrap .i64 (t2 - 1)) then
  Option.bind (b4.Goals[(Int.toNat (IntKind.wrap .i64 (t2 - 1)))]?) fun x11 =>
  if x11.At ≥ x3.At then
  some (.inr false)
  else
  some (.inl (.h1 t0 t1 (IntKind.wrap .i64 (t2 + 1)) b3 b4))
  else none
  else
  some (.inl (.h1 t0 t1 (IntKind.wrap .i64 (t2 + 1)) b3 b4))
  else
  some (.inr false)
  else
  some (.inr false)
  else none
  else
  some (.inr true)
noncomputable def Ds_vcGood (a0 : Gi_Board) (a1 : Gi_Conditions) : Option (Bool) :=
 Option.bind (Ds_bGood a0) fun r1 =>
 if r1 = true then
 if ((a1.Goals.length : Nat) : Int) > 12 then
 some false
 else
 Option.bind (Ds_l1In a1.Step 0 9) fun r4 =>
 if r4 = true then
 Option.bind (Ds_l1In a1.Margin 0 200) fun r6 =>
 if r6 = true then
 loop Bs_vcGood (.h1 a1.Goals ((a1.Goals.length : Nat) : Int) 0 a0 a1)
 else
 some false
 else
 some false
 else
 some false
noncomputable def Ds_jSources (a0 : Gi_Board) (a1 : (List Int)) : Option (Bool) :=
 if ((a1.length : Nat) : Int) ≤ 6 then
 Option.bind (Ds_mSize a0.Map) fun r2 =>
 Option.bind (Ds_l1Rising a1 0 (IntKind.wrap .i64 (r2 - 1))) fun r3 =>
 some r3
 else
 some false
noncomputable def Ds_snCode (a0 : Gi_Scenario) : Option (Int) :=
 Option.bind (Ds_rName a0.Name) fun r1 =>
 if r1 = true then
 Option.bind (Ds_bGood a0.Board) fun r3 =>
 if r3 = true then
 Option.bind (Ds_kGood a0.Table) fun r5 =>
 if r5 = true then
 Option.bind (Ds_sGood a0.Board a0.Start) fun r7 =>
 if r7 = true then
 Option.bind (Ds_vcGood a0.Board a0.Conditions) fun r9 =>
 if r9 = true then
 Option.bind (Ds_jSources a0.Board a0.First) fun r11 =>
 if r11 = true then
 Option.bind (Ds_jSources a0.Board a0.Other) fun r13 =>
 if r13 = true then
 some 0
 else
 some 6
 else
 some 6
 else
 some 5
 else
 some 4
 else
 some 3
 else
 some 2
 else
 some 1
noncomputable def Ds_snGood (a0 : Gi_Scenario) : Option (Bool) :=
 Option.bind (Ds_snCode a0) fun r1 =>
 some ((r1 : Int) == 0)
noncomputable def Ds_l1Own (a0 : (List Int)) : Option ((List Int)) :=
 if a0.length * 8 ≤ 70368744177664 then
 some a0
 else none
inductive Ss_rOwn where
 | h1 (t0 : (List Gi_Terrain)) (t1 : Int) (t2 : Int) (b3 : Gi_Rules) (b4 : Int) (b5 : Int) (b6 : Int) (b7 : Int) (b8 : Int) (b9 : (List Gi_Kind)) (b10 : Int) (b11 : Int) (b12 : Int) (b13 : Int) (b14 : Int)
 | h2 (t0 : (List Gi_Terrain)) (t1 : Int) (t2 : Int) (b3 : Gi_Rules) (b4 : Int) (b5 : Int) (b6 : Int) (b7 : Int) (b8 : Int) (b9 : (List Gi_Kind)) (b10 : Int) (b11 : Int) (b12 : Int) (b13 : Int) (b14 : Int) (l15 : (List Gi_Terrain))
noncomputable def Bs_rOwn : Ss_rOwn → Option (Ss_rOwn ⊕ (Gi_Rules))
 | .h1 t0 t1 t2 b3 b4 b5 b6 b7 b8 b9 b10 b11 b12 b13 b14 =>
  if t2 < t1 then
  if 0 ≤ t2 then
  Option.bind (t0[(Int.toNat t2)]?) fun x3 =>
  Option.bind (Ds_l1Own x3.Cost) fun r4 =>
  if [(Gi_Terrain.mk x3.Name r4 x3.Shift x3.Height x3.Blocks)].length * 64 ≤ 70368744177664 then
  some (.inl (.h2 t0 t1 (IntKind.wrap .i64 (t2 + 1)) b3 b4 b5 b6 b7 b8 b9 b10 b11 b12 b13 b14 [(Gi_Terrain.mk x3.Name r4 x3.Shift x3.Height x3.Blocks)]))
  else none
  else none
  else
  if b3.Kinds.length * 56 ≤ 70368744177664 then
  some (.inr (Gi_Rules.mk [] b3.Kinds b10 b11 b12 b13 b14))
  else none
 | .h2 t0 t1 t2 b3 b4 b5 b6 b7 b8 b9 b10 b11 b12 b13 b14 l15 =>
  if t2 < t1 then
  if 0 ≤ t2 then
  Option.bind (t0[(Int.toNat t2)]?) fun x3 =>
  Option.bind (Ds_l1Own x3.Cost) fun r4 =>
  if (l15 ++ [(Gi_Terrain.mk x3.Name r4 x3.Shift x3.Height x3.Blocks)]).length * 64 ≤ 70368744177664 then
  some (.inl (.h2 t0 t1 (IntKind.wrap .i64 (t2 + 1)) b3 b4 b5 b6 b7 b8 b9 b10 b11 b12 b13 b14 (l15 ++ [(Gi_Terrain.mk x3.Name r4 x3.Shift x3.Height x3.Blocks)])))
  else none
  else none
  else
  if b3.Kinds.length * 56 ≤ 70368744177664 then
  some (.inr (Gi_Rules.mk l15 b3.Kinds b10 b11 b12 b13 b14))
  else none
noncomputable def Ds_rOwn (a0 : Gi_Rules) : Option (Gi_Rules) :=
 loop Bs_rOwn (.h1 a0.Terrains ((a0.Terrains.length : Nat) : Int) 0 a0 0 0 0 0 0 a0.Kinds a0.Stack a0.River a0.Road a0.Supply a0.Turns)
noncomputable def Ds_mOwn (a0 : Gi_Map) : Option (Gi_Map) :=
 Option.bind (Ds_l1Own a0.Terrain) fun r1 =>
 Option.bind (Ds_l1Own a0.Rivers) fun r2 =>
 Option.bind (Ds_l1Own a0.Roads) fun r3 =>
 some (Gi_Map.mk a0.Width a0.Height r1 r2 r3)
inductive Ss_kOwn where
 | h1 (t0 : (List (List Int))) (t1 : Int) (t2 : Int) (b3 : Int) (b4 : Int) (l5 : (List Gi_Odds))
 | h2 (t0 : (List (List Int))) (t1 : Int) (t2 : Int) (b3 : Int) (b4 : Int) (l5 : (List Gi_Odds)) (l6 : (List (List Int)))
noncomputable def Bs_kOwn : Ss_kOwn → Option (Ss_kOwn ⊕ (Gi_CombatTable))
 | .h1 t0 t1 t2 b3 b4 l5 =>
  if t2 < t1 then
  if 0 ≤ t2 then
  Option.bind (t0[(Int.toNat t2)]?) fun x3 =>
  Option.bind (Ds_l1Own x3) fun r4 =>
  if [r4].length * 24 ≤ 70368744177664 then
  some (.inl (.h2 t0 t1 (IntKind.wrap .i64 (t2 + 1)) b3 b4 l5 [r4]))
  else none
  else none
  else
  some (.inr (Gi_CombatTable.mk l5 b4 []))
 | .h2 t0 t1 t2 b3 b4 l5 l6 =>
  if t2 < t1 then
  if 0 ≤ t2 then
  Option.bind (t0[(Int.toNat t2)]?) fun x3 =>
  Option.bind (Ds_l1Own x3) fun r4 =>
  if (l6 ++ [r4]).length * 24 ≤ 70368744177664 then
  some (.inl (.h2 t0 t1 (IntKind.wrap .i64 (t2 + 1)) b3 b4 l5 (l6 ++ [r4])))
  else none
  else none
  else
  some (.inr (Gi_CombatTable.mk l5 b4 l6))
noncomputable def Ds_kOwn (a0 : Gi_CombatTable) : Option (Gi_CombatTable) :=
 if a0.Columns.length * 16 ≤ 70368744177664 then
 loop Bs_kOwn (.h1 a0.Results ((a0.Results.length : Nat) : Int) 0 0 a0.Dice a0.Columns)
 else none
noncomputable def Ds_sOwn (a0 : Gi_State) : Option (Gi_State) :=
 if a0.Units.length * 32 ≤ 70368744177664 then
 some a0
 else none
noncomputable def Ds_snOwn (a0 : Gi_Scenario) : Option (Gi_Scenario) :=
 Option.bind (Ds_rOwn a0.Board.Rules) fun r1 =>
 Option.bind (Ds_mOwn a0.Board.Map) fun r2 =>
 Option.bind (Ds_kOwn a0.Table) fun r3 =>
 Option.bind (Ds_sOwn a0.Start) fun r4 =>
 if a0.Conditions.Goals.length * 16 ≤ 70368744177664 then
 Option.bind (Ds_l1Own a0.First) fun r6 =>
 Option.bind (Ds_l1Own a0.Other) fun r7 =>
 some (Gi_Scenario.mk a0.Name (Gi_Board.mk r1 r2) r3 r4 a0.Conditions r6 r7)
 else none
noncomputable def Ds_mMirrorIndex (a0 : Gi_Map) (a1 : Int) : Option (Int) :=
 Option.bind (Ds_mHex a0 a1) fun r1 =>
 some (IntKind.wrap .i64 ((IntKind.wrap .i64 (r1.Q * a0.Height)) + r1.R))
noncomputable def Ds_mEdge (a0 : Gi_Map) (a1 : Int) (a2 : Int) : Option (Int) :=
 if a2 < 3 then
 some (IntKind.wrap .i64 ((IntKind.wrap .i64 (3 * a1)) + a2))
 else
 Option.bind (Ds_mNext a0 a1 a2) fun r2 =>
 some (IntKind.wrap .i64 ((IntKind.wrap .i64 ((IntKind.wrap .i64 (3 * r2)) + a2)) - 3))
inductive Ss_l1Put_c0 where
 | h1 (n0 : Int) (k1 : Int) (l2 : (List Int))
noncomputable def Bs_l1Put_c0 : Ss_l1Put_c0 → Option (Ss_l1Put_c0 ⊕ ((List Int)))
 | .h1 n0 k1 l2 =>
  if k1 < ((l2.length : Nat) : Int) then
  if 0 ≤ k1 then
  Option.bind (l2[(Int.toNat k1)]?) fun x3 =>
  if x3 < n0 then
  some (.inl (.h1 n0 (IntKind.wrap .i64 (k1 + 1)) l2))
  else
  if k1 < ((l2.length : Nat) : Int) then
  if 0 ≤ k1 then
  Option.bind (l2[(Int.toNat k1)]?) fun x7 =>
  if (x7 : Int) = n0 then
  some (.inr l2)
  else
  if (0 : Int) ≤ k1 then
  if (k1 : Int) ≤ ((l2.length : Nat) : Int) then
  if (List.take ((Int.toNat k1) - 0) (List.drop 0 l2)).length * 8 ≤ 70368744177664 then
  if ((List.take ((Int.toNat k1) - 0) (List.drop 0 l2)) ++ [n0]).length * 8 ≤ 70368744177664 then
  if (0 : Int) ≤ k1 then
  if (k1 : Int) ≤ ((l2.length : Nat) : Int) then
  if (((List.take ((Int.toNat k1) - 0) (List.drop 0 l2)) ++ [n0]) ++ (List.take (l2.length - (Int.toNat k1)) (List.drop (Int.toNat k1) l2))).length * 8 ≤ 70368744177664 then
  some (.inr (((List.take ((Int.toNat k1) - 0) (List.drop 0 l2)) ++ [n0]) ++ (List.take (l2.length - (Int.toNat k1)) (List.drop (Int.toNat k1) l2))))
  else none
  else none
  else none
  else none
  else none
  else none
  else none
  else none
  else
  if (0 : Int) ≤ k1 then
  if (k1 : Int) ≤ ((l2.length : Nat) : Int) then
  if (List.take ((Int.toNat k1) - 0) (List.drop 0 l2)).length * 8 ≤ 70368744177664 then
  if ((List.take ((Int.toNat k1) - 0) (List.drop 0 l2)) ++ [n0]).length * 8 ≤ 70368744177664 then
  if (0 : Int) ≤ k1 then
  if (k1 : Int) ≤ ((l2.length : Nat) : Int) then
  if (((List.take ((Int.toNat k1) - 0) (List.drop 0 l2)) ++ [n0]) ++ (List.take (l2.length - (Int.toNat k1)) (List.drop (Int.toNat k1) l2))).length * 8 ≤ 70368744177664 then
  some (.inr (((List.take ((Int.toNat k1) - 0) (List.drop 0 l2)) ++ [n0]) ++ (List.take (l2.length - (Int.toNat k1)) (List.drop (Int.toNat k1) l2))))
  else none
  else none
  else none
  else none
  else none
  else none
  else none
  else none
  else
  if k1 < ((l2.length : Nat) : Int) then
  if 0 ≤ k1 then
  Option.bind (l2[(Int.toNat k1)]?) fun x4 =>
  if (x4 : Int) = n0 then
  some (.inr l2)
  else
  if (0 : Int) ≤ k1 then
  if (k1 : Int) ≤ ((l2.length : Nat) : Int) then
  if (List.take ((Int.toNat k1) - 0) (List.drop 0 l2)).length * 8 ≤ 70368744177664 then
  if ((List.take ((Int.toNat k1) - 0) (List.drop 0 l2)) ++ [n0]).length * 8 ≤ 70368744177664 then
  if (0 : Int) ≤ k1 then
  if (k1 : Int) ≤ ((l2.length : Nat) : Int) then
  if (((List.take ((Int.toNat k1) - 0) (List.drop 0 l2)) ++ [n0]) ++ (List.take (l2.length - (Int.toNat k1)) (List.drop (Int.toNat k1) l2))).length * 8 ≤ 70368744177664 then
  some (.inr (((List.take ((Int.toNat k1) - 0) (List.drop 0 l2)) ++ [n0]) ++ (List.take (l2.length - (Int.toNat k1)) (List.drop (Int.toNat k1) l2))))
  else none
  else none
  else none
  else none
  else none
  else none
  else none
  else none
  else
  if (0 : Int) ≤ k1 then
  if (k1 : Int) ≤ ((l2.length : Nat) : Int) then
  if (List.take ((Int.toNat k1) - 0) (List.drop 0 l2)).length * 8 ≤ 70368744177664 then
  if ((List.take ((Int.toNat k1) - 0) (List.drop 0 l2)) ++ [n0]).length * 8 ≤ 70368744177664 then
  if (0 : Int) ≤ k1 then
  if (k1 : Int) ≤ ((l2.length : Nat) : Int) then
  if (((List.take ((Int.toNat k1) - 0) (List.drop 0 l2)) ++ [n0]) ++ (List.take (l2.length - (Int.toNat k1)) (List.drop (Int.toNat k1) l2))).length * 8 ≤ 70368744177664 then
  some (.inr (((List.take ((Int.toNat k1) - 0) (List.drop 0 l2)) ++ [n0]) ++ (List.take (l2.length - (Int.toNat k1)) (List.drop (Int.toNat k1) l2))))
  else none
  else none
  else none
  else none
  else none
  else none
  else none
noncomputable def Ds_l1Put_c0 (a0 : (List Int)) (a1 : Int) : Option ((List Int)) :=
 loop Bs_l1Put_c0 (.h1 a1 0 a0)
inductive Ss_mMirrorEdges where
 | h1 (t0 : (List Int)) (t1 : Int) (t2 : Int) (b3 : Gi_Map) (b4 : Gi_Map) (l5 : (List Int))
noncomputable def Bs_mMirrorEdges : Ss_mMirrorEdges → Option (Ss_mMirrorEdges ⊕ ((List Int)))
 | .h1 t0 t1 t2 b3 b4 l5 =>
  if t2 < t1 then
  if 0 ≤ t2 then
  Option.bind (t0[(Int.toNat t2)]?) fun x3 =>
  Option.bind (Ds_mMirrorIndex b3 (IntKind.wrap .i64 (Int.tdiv x3 3))) fun r4 =>
  Option.bind (Ds_mEdge b4 r4 (IntKind.wrap .i64 (5 - (Int.tmod x3 3)))) fun r5 =>
  Option.bind (Ds_l1Put_c0 l5 r5) fun r6 =>
  some (.inl (.h1 t0 t1 (IntKind.wrap .i64 (t2 + 1)) b3 b4 r6))
  else none
  else
  some (.inr l5)
noncomputable def Ds_mMirrorEdges (a0 : Gi_Map) (a1 : Gi_Map) (a2 : (List Int)) : Option ((List Int)) :=
 loop Bs_mMirrorEdges (.h1 a2 ((a2.length : Nat) : Int) 0 a0 a1 ([] : List Int))
inductive Ss_mMirror where
 | h1 (t0 : (List Int)) (t1 : Int) (t2 : Int) (b3 : Gi_Map) (b4 : Int) (b5 : Int) (b6 : Int) (b7 : Int) (l8 : (List Int))
noncomputable def Bs_mMirror : Ss_mMirror → Option (Ss_mMirror ⊕ (Gi_Map))
 | .h1 t0 t1 t2 b3 b4 b5 b6 b7 l8 =>
  if t2 < t1 then
  if 0 ≤ t2 then
  Option.bind (t0[(Int.toNat t2)]?) fun x3 =>
  Option.bind (Ds_mMirrorIndex b3 t2) fun r4 =>
  if 0 ≤ r4 then
  Option.bind (l8[(Int.toNat r4)]?) fun x6 =>
  some (.inl (.h1 t0 t1 (IntKind.wrap .i64 (t2 + 1)) b3 b4 b5 b6 b7 (List.set l8 (Int.toNat r4) x3)))
  else none
  else none
  else
  Option.bind (Ds_mMirrorEdges b3 (Gi_Map.mk b6 b7 l8 [] []) b3.Rivers) fun r2 =>
  Option.bind (Ds_mMirrorEdges b3 (Gi_Map.mk b6 b7 l8 r2 []) b3.Roads) fun r3 =>
  some (.inr (Gi_Map.mk b6 b7 l8 r2 r3))
noncomputable def Ds_mMirror (a0 : Gi_Map) : Option (Gi_Map) :=
 Option.bind (Ds_mSize a0) fun r1 =>
 if 0 ≤ r1 then
 if Int.toNat r1 * 8 ≤ 140737488355328 then
 loop Bs_mMirror (.h1 a0.Terrain ((a0.Terrain.length : Nat) : Int) 0 a0 0 0 a0.Height a0.Width (List.replicate (Int.toNat r1) (0 : Int)))
 else none
 else none
inductive Ss_snHexes where
 | h1 (t0 : (List Int)) (t1 : Int) (t2 : Int) (b3 : Gi_Map) (l4 : (List Int))
noncomputable def Bs_snHexes : Ss_snHexes → Option (Ss_snHexes ⊕ ((List Int)))
 | .h1 t0 t1 t2 b3 l4 =>
  if t2 < t1 then
  if 0 ≤ t2 then
  Option.bind (t0[(Int.toNat t2)]?) fun x3 =>
  Option.bind (Ds_mMirrorIndex b3 x3) fun r4 =>
  Option.bind (Ds_l1Put_c0 l4 r4) fun r5 =>
  some (.inl (.h1 t0 t1 (IntKind.wrap .i64 (t2 + 1)) b3 r5))
  else none
  else
  some (.inr l4)
noncomputable def Ds_snHexes (a0 : Gi_Map) (a1 : (List Int)) : Option ((List Int)) :=
 loop Bs_snHexes (.h1 a1 ((a1.length : Nat) : Int) 0 a0 ([] : List Int))
inductive Ss_snMirror where
 | h1 (t0 : Int) (t1 : Int) (b2 : Gi_Scenario) (b3 : ByteArray) (b4 : Int) (b5 : Int) (b6 : Int) (b7 : Int) (b8 : Int) (b9 : Int) (b10 : Int) (b11 : Int) (b12 : Int) (b13 : Int) (b14 : Int) (b15 : Int) (b16 : Gi_Map) (b17 : ByteArray) (b18 : Int) (b19 : Int) (b20 : Int) (b21 : Int) (b22 : Int) (b23 : Int) (b24 : Int) (b25 : Int) (b26 : Int) (b27 : Int) (b28 : Int) (b29 : Int) (l30 : (List Gi_Unit)) (l31 : (List Gi_Terrain)) (l32 : (List Gi_Kind)) (l33 : (List Int)) (l34 : (List Int)) (l35 : (List Int)) (l36 : (List Gi_Odds)) (l37 : (List (List Int))) (l38 : (List Gi_Goal)) (l39 : (List Int)) (l40 : (List Int))
 | h2 (t0 : (List Gi_Goal)) (t1 : Int) (t2 : Int) (b3 : Gi_Scenario) (b4 : ByteArray) (b5 : Int) (b6 : Int) (b7 : Int) (b8 : Int) (b9 : Int) (b10 : Int) (b11 : Int) (b12 : Int) (b13 : Int) (b14 : Int) (b15 : Int) (b16 : Int) (b17 : Gi_Map) (b18 : ByteArray) (b19 : Int) (b20 : Int) (b21 : Int) (b22 : Int) (b23 : Int) (b24 : Int) (b25 : Int) (b26 : Int) (b27 : Int) (b28 : Int) (b29 : Int) (b30 : Int) (l31 : (List Int)) (l32 : (List Gi_Terrain)) (l33 : (List Gi_Kind)) (l34 : (List Int)) (l35 : (List Int)) (l36 : (List Int)) (l37 : (List Gi_Odds)) (l38 : (List (List Int))) (l39 : (List Gi_Unit)) (l40 : (List Int)) (l41 : (List Int))
 | h3 (t0 : Int) (t1 : Int) (b2 : Gi_Scenario) (b3 : ByteArray) (b4 : Int) (b5 : Int) (b6 : Int) (b7 : Int) (b8 : Int) (b9 : Int) (b10 : Int) (b11 : Int) (b12 : Int) (b13 : Int) (b14 : Int) (b15 : Int) (b16 : Gi_Map) (b17 : ByteArray) (b18 : Int) (b19 : Int) (b20 : Int) (b21 : Int) (b22 : Int) (b23 : Int) (b24 : Int) (b25 : Int) (b26 : Int) (b27 : Int) (b28 : Int) (b29 : Int) (l30 : (List Int)) (l31 : (List Gi_Terrain)) (l32 : (List Gi_Kind)) (l33 : (List Int)) (l34 : (List Int)) (l35 : (List Int)) (l36 : (List Gi_Odds)) (l37 : (List (List Int))) (l38 : (List Gi_Unit)) (l39 : (List Int)) (l40 : (List Int))
 | h4 (i0 : Int) (t1 : Int) (t2 : Int) (t3 : (List Gi_Goal)) (t4 : Int) (t5 : Int) (b6 : Gi_Scenario) (b7 : ByteArray) (b8 : Int) (b9 : Int) (b10 : Int) (b11 : Int) (b12 : Int) (b13 : Int) (b14 : Int) (b15 : Int) (b16 : Int) (b17 : Int) (b18 : Int) (b19 : Int) (b20 : Gi_Map) (b21 : ByteArray) (b22 : Int) (b23 : Int) (b24 : Int) (b25 : Int) (b26 : Int) (b27 : Int) (b28 : Int) (b29 : Int) (b30 : Int) (b31 : Int) (b32 : Int) (b33 : Int) (l34 : (List Int)) (l35 : (List Gi_Terrain)) (l36 : (List Gi_Kind)) (l37 : (List Int)) (l38 : (List Int)) (l39 : (List Int)) (l40 : (List Gi_Odds)) (l41 : (List (List Int))) (l42 : (List Gi_Unit)) (l43 : (List Int)) (l44 : (List Int))
 | h5 (i0 : Int) (t1 : Int) (t2 : Int) (t3 : (List Gi_Goal)) (t4 : Int) (t5 : Int) (b6 : Gi_Scenario) (b7 : ByteArray) (b8 : Int) (b9 : Int) (b10 : Int) (b11 : Int) (b12 : Int) (b13 : Int) (b14 : Int) (b15 : Int) (b16 : Int) (b17 : Int) (b18 : Int) (b19 : Int) (b20 : Gi_Map) (b21 : ByteArray) (b22 : Int) (b23 : Int) (b24 : Int) (b25 : Int) (b26 : Int) (b27 : Int) (b28 : Int) (b29 : Int) (b30 : Int) (b31 : Int) (b32 : Int) (b33 : Int) (l34 : (List Int)) (l35 : (List Gi_Terrain)) (l36 : (List Gi_Kind)) (l37 : (List Int)) (l38 : (List Int)) (l39 : (List Int)) (l40 : (List Gi_Odds)) (l41 : (List (List Int))) (l42 : (List Gi_Unit)) (l43 : (List Gi_Goal)) (l44 : (List Int)) (l45 : (List Int))
 | h6 (t0 : Int) (t1 : Int) (b2 : Gi_Scenario) (b3 : ByteArray) (b4 : Int) (b5 : Int) (b6 : Int) (b7 : Int) (b8 : Int) (b9 : Int) (b10 : Int) (b11 : Int) (b12 : Int) (b13 : Int) (b14 : Int) (b15 : Int) (b16 : Gi_Map) (b17 : ByteArray) (b18 : Int) (b19 : Int) (b20 : Int) (b21 : Int) (b22 : Int) (b23 : Int) (b24 : Int) (b25 : Int) (b26 : Int) (b27 : Int) (b28 : Int) (b29 : Int) (l30 : (List Int)) (l31 : (List Gi_Terrain)) (l32 : (List Gi_Kind)) (l33 : (List Int)) (l34 : (List Int)) (l35 : (List Int)) (l36 : (List Gi_Odds)) (l37 : (List (List Int))) (l38 : (List Gi_Unit)) (l39 : (List Gi_Goal)) (l40 : (List Int)) (l41 : (List Int))
noncomputable def Bs_snMirror : Ss_snMirror → Option (Ss_snMirror ⊕ (Gi_Scenario))
 | .h1 t0 t1 b2 b3 b4 b5 b6 b7 b8 b9 b10 b11 b12 b13 b14 b15 b16 b17 b18 b19 b20 b21 b22 b23 b24 b25 b26 b27 b28 b29 l30 l31 l32 l33 l34 l35 l36 l37 l38 l39 l40 =>
  if t1 < t0 then
  if 0 ≤ t1 then
  Option.bind (l30[(Int.toNat t1)]?) fun x3 =>
  if x3.At ≥ 0 then
  Option.bind (Ds_mMirrorIndex b16 x3.At) fun r5 =>
  if 0 ≤ t1 then
  Option.bind (l30[(Int.toNat t1)]?) fun x7 =>
  some (.inl (.h1 t0 (IntKind.wrap .i64 (t1 + 1)) b2 b3 b4 b5 b6 b7 b8 b9 b10 b11 b12 b13 b14 b15 b16 b17 b18 b19 b20 b21 b22 b23 b24 b25 b26 b27 b28 b29 (List.set l30 (Int.toNat t1) (Gi_Unit.mk x7.Side x7.Kind r5 x7.Steps)) l31 l32 l33 l34 l35 l36 l37 l38 l39 l40))
  else none
  else
  some (.inl (.h1 t0 (IntKind.wrap .i64 (t1 + 1)) b2 b3 b4 b5 b6 b7 b8 b9 b10 b11 b12 b13 b14 b15 b16 b17 b18 b19 b20 b21 b22 b23 b24 b25 b26 b27 b28 b29 l30 l31 l32 l33 l34 l35 l36 l37 l38 l39 l40))
  else none
  else
  some (.inl (.h2 b2.Conditions.Goals ((b2.Conditions.Goals.length : Nat) : Int) 0 b2 b3 b4 b5 b6 b7 b8 b9 b10 b11 b12 b13 b14 b15 b16 b17 b18 b19 b20 b21 b22 b23 b24 b25 b26 b27 b28 b29 ([] : List Int) l31 l32 l33 l34 l35 l36 l37 l30 l39 l40))
 | .h2 t0 t1 t2 b3 b4 b5 b6 b7 b8 b9 b10 b11 b12 b13 b14 b15 b16 b17 b18 b19 b20 b21 b22 b23 b24 b25 b26 b27 b28 b29 b30 l31 l32 l33 l34 l35 l36 l37 l38 l39 l40 l41 =>
  if t2 < t1 then
  if 0 ≤ t2 then
  Option.bind (t0[(Int.toNat t2)]?) fun x3 =>
  if (l31 ++ [x3.At]).length * 8 ≤ 70368744177664 then
  some (.inl (.h2 t0 t1 (IntKind.wrap .i64 (t2 + 1)) b3 b4 b5 b6 b7 b8 b9 b10 b11 b12 b13 b14 b15 b16 b17 b18 b19 b20 b21 b22 b23 b24 b25 b26 b27 b28 b29 b30 (l31 ++ [x3.At]) l32 l33 l34 l35 l36 l37 l38 l39 l40 l41))
  else none
  else none
  else
  Option.bind (Ds_snHexes b17 l31) fun r2 =>
  some (.inl (.h3 ((r2.length : Nat) : Int) 0 b3 b4 b5 b6 b7 b8 b9 b10 b11 b12 b13 b14 b15 b16 b17 b18 b19 b20 b21 b22 b23 b24 b25 b26 b27 b28 b29 b30 r2 l32 l33 l34 l35 l36 l37 l38 l39 l40 l41))
 | .h3 t0 t1 b2 b3 b4 b5 b6 b7 b8 b9 b10 b11 b12 b13 b14 b15 b16 b17 b18 b19 b20 b21 b22 b23 b24 b25 b26 b27 b28 b29 l30 l31 l32 l33 l34 l35 l36 l37 l38 l39 l40 =>
  if t1 < t0 then
  if 0 ≤ t1 then
  Option.bind (l30[(Int.toNat t1)]?) fun x3 =>
  some (.inl (.h4 x3 t0 t1 b2.Conditions.Goals ((b2.Conditions.Goals.length : Nat) : Int) 0 b2 b3 b4 b5 b6 b7 b8 b9 b10 b11 b12 b13 b14 b15 b16 b17 b18 b19 b20 b21 b22 b23 b24 b25 b26 b27 b28 b29 l30 l31 l32 l33 l34 l35 l36 l37 l38 l39 l40))
  else none
  else
  Option.bind (Ds_snHexes b16 b2.First) fun r2 =>
  Option.bind (Ds_snHexes b16 b2.Other) fun r3 =>
  some (.inr (Gi_Scenario.mk b17 (Gi_Board.mk (Gi_Rules.mk l31 l32 b18 b19 b20 b21 b22) (Gi_Map.mk b23 b24 l33 l34 l35)) (Gi_CombatTable.mk l36 b25 l37) (Gi_State.mk b26 b27 l38) (Gi_Conditions.mk [] b28 b29) r2 r3))
 | .h4 i0 t1 t2 t3 t4 t5 b6 b7 b8 b9 b10 b11 b12 b13 b14 b15 b16 b17 b18 b19 b20 b21 b22 b23 b24 b25 b26 b27 b28 b29 b30 b31 b32 b33 l34 l35 l36 l37 l38 l39 l40 l41 l42 l43 l44 =>
  if t5 < t4 then
  if 0 ≤ t5 then
  Option.bind (t3[(Int.toNat t5)]?) fun x3 =>
  Option.bind (Ds_mMirrorIndex b20 x3.At) fun r4 =>
  if (r4 : Int) = i0 then
  if [(Gi_Goal.mk i0 x3.Points)].length * 16 ≤ 70368744177664 then
  some (.inl (.h5 i0 t1 t2 t3 t4 (IntKind.wrap .i64 (t5 + 1)) b6 b7 b8 b9 b10 b11 b12 b13 b14 b15 b16 b17 b18 b19 b20 b21 b22 b23 b24 b25 b26 b27 b28 b29 b30 b31 b32 b33 l34 l35 l36 l37 l38 l39 l40 l41 l42 [(Gi_Goal.mk i0 x3.Points)] l43 l44))
  else none
  else
  some (.inl (.h4 i0 t1 t2 t3 t4 (IntKind.wrap .i64 (t5 + 1)) b6 b7 b8 b9 b10 b11 b12 b13 b14 b15 b16 b17 b18 b19 b20 b21 b22 b23 b24 b25 b26 b27 b28 b29 b30 b31 b32 b33 l34 l35 l36 l37 l38 l39 l40 l41 l42 l43 l44))
  else none
  else
  some (.inl (.h3 t1 (IntKind.wrap .i64 (t2 + 1)) b6 b7 b8 b9 b10 b11 b12 b13 b14 b15 b16 b17 b18 b19 b20 b21 b22 b23 b24 b25 b26 b27 b28 b29 b30 b31 b32 b33 l34 l35 l36 l37 l38 l39 l40 l41 l42 l43 l44))
 | .h5 i0 t1 t2 t3 t4 t5 b6 b7 b8 b9 b10 b11 b12 b13 b14 b15 b16 b17 b18 b19 b20 b21 b22 b23 b24 b25 b26 b27 b28 b29 b30 b31 b32 b33 l34 l35 l36 l37 l38 l39 l40 l41 l42 l43 l44 l45 =>
  if t5 < t4 then
  if 0 ≤ t5 then
  Option.bind (t3[(Int.toNat t5)]?) fun x3 =>
  Option.bind (Ds_mMirrorIndex b20 x3.At) fun r4 =>
  if (r4 : Int) = i0 then
  if (l43 ++ [(Gi_Goal.mk i0 x3.Points)]).length * 16 ≤ 70368744177664 then
  some (.inl (.h5 i0 t1 t2 t3 t4 (IntKind.wrap .i64 (t5 + 1)) b6 b7 b8 b9 b10 b11 b12 b13 b14 b15 b16 b17 b18 b19 b20 b21 b22 b23 b24 b25 b26 b27 b28 b29 b30 b31 b32 b33 l34 l35 l36 l37 l38 l39 l40 l41 l42 (l43 ++ [(Gi_Goal.mk i0 x3.Points)]) l44 l45))
  else none
  else
  some (.inl (.h5 i0 t1 t2 t3 t4 (IntKind.wrap .i64 (t5 + 1)) b6 b7 b8 b9 b10 b11 b12 b13 b14 b15 b16 b17 b18 b19 b20 b21 b22 b23 b24 b25 b26 b27 b28 b29 b30 b31 b32 b33 l34 l35 l36 l37 l38 l39 l40 l41 l42 l43 l44 l45))
  else none
  else
  some (.inl (.h6 t1 (IntKind.wrap .i64 (t2 + 1)) b6 b7 b8 b9 b10 b11 b12 b13 b14 b15 b16 b17 b18 b19 b20 b21 b22 b23 b24 b25 b26 b27 b28 b29 b30 b31 b32 b33 l34 l35 l36 l37 l38 l39 l40 l41 l42 l43 l44 l45))
 | .h6 t0 t1 b2 b3 b4 b5 b6 b7 b8 b9 b10 b11 b12 b13 b14 b15 b16 b17 b18 b19 b20 b21 b22 b23 b24 b25 b26 b27 b28 b29 l30 l31 l32 l33 l34 l35 l36 l37 l38 l39 l40 l41 =>
  if t1 < t0 then
  if 0 ≤ t1 then
  Option.bind (l30[(Int.toNat t1)]?) fun x3 =>
  some (.inl (.h5 x3 t0 t1 b2.Conditions.Goals ((b2.Conditions.Goals.length : Nat) : Int) 0 b2 b3 b4 b5 b6 b7 b8 b9 b10 b11 b12 b13 b14 b15 b16 b17 b18 b19 b20 b21 b22 b23 b24 b25 b26 b27 b28 b29 l30 l31 l32 l33 l34 l35 l36 l37 l38 l39 l40 l41))
  else none
  else
  Option.bind (Ds_snHexes b16 b2.First) fun r2 =>
  Option.bind (Ds_snHexes b16 b2.Other) fun r3 =>
  some (.inr (Gi_Scenario.mk b17 (Gi_Board.mk (Gi_Rules.mk l31 l32 b18 b19 b20 b21 b22) (Gi_Map.mk b23 b24 l33 l34 l35)) (Gi_CombatTable.mk l36 b25 l37) (Gi_State.mk b26 b27 l38) (Gi_Conditions.mk l39 b28 b29) r2 r3))
noncomputable def Ds_snMirror (a0 : Gi_Scenario) : Option (Gi_Scenario) :=
 Option.bind (Ds_snOwn a0) fun r1 =>
 Option.bind (Ds_mMirror a0.Board.Map) fun r2 =>
 loop Bs_snMirror (.h1 ((r1.Start.Units.length : Nat) : Int) 0 a0 ⟨#[]⟩ 0 0 0 0 0 0 0 0 0 0 0 0 a0.Board.Map r1.Name r1.Board.Rules.Stack r1.Board.Rules.River r1.Board.Rules.Road r1.Board.Rules.Supply r1.Board.Rules.Turns r2.Width r2.Height r1.Table.Dice r1.Start.Turn r1.Start.Weather r1.Conditions.Step r1.Conditions.Margin r1.Start.Units r1.Board.Rules.Terrains r1.Board.Rules.Kinds r2.Terrain r2.Rivers r2.Roads r1.Table.Columns r1.Table.Results r1.Conditions.Goals r1.First r1.Other)
inductive Ss_snSwap where
 | h1 (t0 : Int) (t1 : Int) (b2 : Gi_Scenario) (b3 : ByteArray) (b4 : Int) (b5 : Int) (b6 : Int) (b7 : Int) (b8 : Int) (b9 : Int) (b10 : Int) (b11 : Int) (b12 : Int) (b13 : Int) (b14 : Int) (b15 : Int) (b16 : ByteArray) (b17 : Int) (b18 : Int) (b19 : Int) (b20 : Int) (b21 : Int) (b22 : Int) (b23 : Int) (b24 : Int) (b25 : Int) (b26 : Int) (b27 : Int) (b28 : Int) (l29 : (List Gi_Terrain)) (l30 : (List Gi_Kind)) (l31 : (List Int)) (l32 : (List Int)) (l33 : (List Int)) (l34 : (List Gi_Odds)) (l35 : (List (List Int))) (l36 : (List Gi_Unit)) (l37 : (List Gi_Goal)) (l38 : (List Int)) (l39 : (List Int))
noncomputable def Bs_snSwap : Ss_snSwap → Option (Ss_snSwap ⊕ (Gi_Scenario))
 | .h1 t0 t1 b2 b3 b4 b5 b6 b7 b8 b9 b10 b11 b12 b13 b14 b15 b16 b17 b18 b19 b20 b21 b22 b23 b24 b25 b26 b27 b28 l29 l30 l31 l32 l33 l34 l35 l36 l37 l38 l39 =>
  if t1 < t0 then
  if 0 ≤ t1 then
  Option.bind (l36[(Int.toNat t1)]?) fun x3 =>
  if 0 ≤ t1 then
  Option.bind (l36[(Int.toNat t1)]?) fun x5 =>
  some (.inl (.h1 t0 (IntKind.wrap .i64 (t1 + 1)) b2 b3 b4 b5 b6 b7 b8 b9 b10 b11 b12 b13 b14 b15 b16 b17 b18 b19 b20 b21 b22 b23 b24 b25 b26 b27 b28 l29 l30 l31 l32 l33 l34 l35 (List.set l36 (Int.toNat t1) (Gi_Unit.mk (IntKind.wrap .i64 (1 - x3.Side)) x5.Kind x5.At x5.Steps)) l37 l38 l39))
  else none
  else none
  else
  Option.bind (Ds_l1Own b2.Other) fun r2 =>
  Option.bind (Ds_l1Own b2.First) fun r3 =>
  some (.inr (Gi_Scenario.mk b16 (Gi_Board.mk (Gi_Rules.mk l29 l30 b17 b18 b19 b20 b21) (Gi_Map.mk b22 b23 l31 l32 l33)) (Gi_CombatTable.mk l34 b24 l35) (Gi_State.mk b25 b26 l36) (Gi_Conditions.mk l37 b27 b28) r2 r3))
noncomputable def Ds_snSwap (a0 : Gi_Scenario) : Option (Gi_Scenario) :=
 Option.bind (Ds_snOwn a0) fun r1 =>
 loop Bs_snSwap (.h1 ((r1.Start.Units.length : Nat) : Int) 0 a0 ⟨#[]⟩ 0 0 0 0 0 0 0 0 0 0 0 0 r1.Name r1.Board.Rules.Stack r1.Board.Rules.River r1.Board.Rules.Road r1.Board.Rules.Supply r1.Board.Rules.Turns r1.Board.Map.Width r1.Board.Map.Height r1.Table.Dice r1.Start.Turn r1.Start.Weather r1.Conditions.Step r1.Conditions.Margin r1.Board.Rules.Terrains r1.Board.Rules.Kinds r1.Board.Map.Terrain r1.Board.Map.Rivers r1.Board.Map.Roads r1.Table.Columns r1.Table.Results r1.Start.Units r1.Conditions.Goals r1.First r1.Other)
inductive Ss_snCount where
 | h1 (n0 : Int) (t1 : (List Gi_Unit)) (t2 : Int) (t3 : Int) (b4 : Gi_Unit)
noncomputable def Bs_snCount : Ss_snCount → Option (Ss_snCount ⊕ (Int))
 | .h1 n0 t1 t2 t3 b4 =>
  if t3 < t2 then
  if 0 ≤ t3 then
  Option.bind (t1[(Int.toNat t3)]?) fun x3 =>
  if ((x3.Side == b4.Side) && ((x3.Kind == b4.Kind) && ((x3.At == b4.At) && (x3.Steps == b4.Steps)))) = true then
  some (.inl (.h1 (IntKind.wrap .i64 (n0 + 1)) t1 t2 (IntKind.wrap .i64 (t3 + 1)) b4))
  else
  some (.inl (.h1 n0 t1 t2 (IntKind.wrap .i64 (t3 + 1)) b4))
  else none
  else
  some (.inr n0)
noncomputable def Ds_snCount (a0 : (List Gi_Unit)) (a1 : Gi_Unit) : Option (Int) :=
 loop Bs_snCount (.h1 0 a0 ((a0.length : Nat) : Int) 0 a1)
noncomputable def Fs_l1Num (rec_ : Int → Option (ByteArray)) (a0 : Int) : Option (ByteArray) :=
 if a0 < 10 then
 if ∀ x ∈ [(IntKind.wrap .u8 (IntKind.wrap .i64 (48 + a0)))], 0 ≤ x ∧ x < 256 then
 some (bytesOf [(IntKind.wrap .u8 (IntKind.wrap .i64 (48 + a0)))])
 else none
 else
 Option.bind (rec_ (IntKind.wrap .i64 (Int.tdiv a0 10))) fun r2 =>
 if ∀ x ∈ [(IntKind.wrap .u8 (IntKind.wrap .i64 (48 + (Int.tmod a0 10))))], 0 ≤ x ∧ x < 256 then
 if ByteArray.size r2 + ByteArray.size (bytesOf [(IntKind.wrap .u8 (IntKind.wrap .i64 (48 + (Int.tmod a0 10))))]) ≤ 9223372036854775807 then
 some (r2 ++ (bytesOf [(IntKind.wrap .u8 (IntKind.wrap .i64 (48 + (Int.tmod a0 10))))]))
 else none
 else none
noncomputable def Ds_l1Num : Nat → Int → Option (ByteArray)
 | 0 => fun _ => none
 | n_ + 1 => Fs_l1Num (Ds_l1Num n_)
inductive Ss_mList where
 | h1 (word0 : ByteArray) (t1 : (List Int)) (t2 : Int) (t3 : Int)
noncomputable def Bs_mList : Ss_mList → Option (Ss_mList ⊕ (ByteArray))
 | .h1 word0 t1 t2 t3 =>
  if t3 < t2 then
  if 0 ≤ t3 then
  Option.bind (t1[(Int.toNat t3)]?) fun x3 =>
  Option.bind (Ds_l1Num 100 x3) fun r4 =>
  if ByteArray.size ⟨#[32]⟩ + ByteArray.size r4 ≤ 9223372036854775807 then
  if ByteArray.size word0 + ByteArray.size (⟨#[32]⟩ ++ r4) ≤ 9223372036854775807 then
  some (.inl (.h1 (word0 ++ (⟨#[32]⟩ ++ r4)) t1 t2 (IntKind.wrap .i64 (t3 + 1))))
  else none
  else none
  else none
  else
  if ByteArray.size word0 + ByteArray.size ⟨#[10]⟩ ≤ 9223372036854775807 then
  some (.inr (word0 ++ ⟨#[10]⟩))
  else none
noncomputable def Ds_mList (a0 : ByteArray) (a1 : (List Int)) : Option (ByteArray) :=
 loop Bs_mList (.h1 a0 a1 ((a1.length : Nat) : Int) 0)
inductive Ss_mText where
 | h1 (s0 : ByteArray) (t1 : (List Int)) (t2 : Int) (t3 : Int) (b4 : Gi_Map)
noncomputable def Bs_mText : Ss_mText → Option (Ss_mText ⊕ (ByteArray))
 | .h1 s0 t1 t2 t3 b4 =>
  if t3 < t2 then
  if 0 ≤ t3 then
  Option.bind (t1[(Int.toNat t3)]?) fun x3 =>
  Option.bind (Ds_l1Num 100 x3) fun r4 =>
  if ByteArray.size s0 + ByteArray.size r4 ≤ 9223372036854775807 then
  if ¬ b4.Width = 0 then
  if ((Int.tmod t3 b4.Width) : Int) = (IntKind.wrap .i64 (b4.Width - 1)) then
  if ByteArray.size (s0 ++ r4) + ByteArray.size ⟨#[10]⟩ ≤ 9223372036854775807 then
  some (.inl (.h1 ((s0 ++ r4) ++ ⟨#[10]⟩) t1 t2 (IntKind.wrap .i64 (t3 + 1)) b4))
  else none
  else
  some (.inl (.h1 (s0 ++ r4) t1 t2 (IntKind.wrap .i64 (t3 + 1)) b4))
  else none
  else none
  else none
  else
  Option.bind (Ds_mList ⟨#[114, 105, 118, 101, 114, 115]⟩ b4.Rivers) fun r2 =>
  if ByteArray.size s0 + ByteArray.size r2 ≤ 9223372036854775807 then
  Option.bind (Ds_mList ⟨#[114, 111, 97, 100, 115]⟩ b4.Roads) fun r4 =>
  if ByteArray.size (s0 ++ r2) + ByteArray.size r4 ≤ 9223372036854775807 then
  some (.inr ((s0 ++ r2) ++ r4))
  else none
  else none
noncomputable def Ds_mText (a0 : Gi_Map) : Option (ByteArray) :=
 Option.bind (Ds_l1Num 100 a0.Width) fun r1 =>
 if ByteArray.size ⟨#[109, 97, 112, 32]⟩ + ByteArray.size r1 ≤ 9223372036854775807 then
 if ByteArray.size (⟨#[109, 97, 112, 32]⟩ ++ r1) + ByteArray.size ⟨#[32]⟩ ≤ 9223372036854775807 then
 Option.bind (Ds_l1Num 100 a0.Height) fun r4 =>
 if ByteArray.size ((⟨#[109, 97, 112, 32]⟩ ++ r1) ++ ⟨#[32]⟩) + ByteArray.size r4 ≤ 9223372036854775807 then
 if ByteArray.size (((⟨#[109, 97, 112, 32]⟩ ++ r1) ++ ⟨#[32]⟩) ++ r4) + ByteArray.size ⟨#[10]⟩ ≤ 9223372036854775807 then
 loop Bs_mText (.h1 ((((⟨#[109, 97, 112, 32]⟩ ++ r1) ++ ⟨#[32]⟩) ++ r4) ++ ⟨#[10]⟩) a0.Terrain ((a0.Terrain.length : Nat) : Int) 0 a0)
 else none
 else none
 else none
 else none
inductive Ss_snGoals where
 | h1 (b0 : (List Gi_Goal)) (t1 : (List Gi_Goal)) (t2 : Int) (t3 : Int)
noncomputable def Bs_snGoals : Ss_snGoals → Option (Ss_snGoals ⊕ (Bool))
 | .h1 b0 t1 t2 t3 =>
  if t3 < t2 then
  if 0 ≤ t3 then
  Option.bind (t1[(Int.toNat t3)]?) fun x3 =>
  if 0 ≤ t3 then
  Option.bind (b0[(Int.toNat t3)]?) fun x5 =>
  if (!((x3.At == x5.At) && (x3.Points == x5.Points))) = true then
  some (.inr false)
  else
  some (.inl (.h1 b0 t1 t2 (IntKind.wrap .i64 (t3 + 1))))
  else none
  else none
  else
  some (.inr true)
noncomputable def Ds_snGoals (a0 : (List Gi_Goal)) (a1 : (List Gi_Goal)) : Option (Bool) :=
 if (((a0.length : Nat) : Int) : Int) = ((a1.length : Nat) : Int) then
 loop Bs_snGoals (.h1 a1 a0 ((a0.length : Nat) : Int) 0)
 else
 some false
inductive Ss_l1Same where
 | h1 (va0 : (List Int)) (b1 : (List Int)) (t2 : Int) (t3 : Int)
noncomputable def Bs_l1Same : Ss_l1Same → Option (Ss_l1Same ⊕ (Bool))
 | .h1 va0 b1 t2 t3 =>
  if t3 < t2 then
  if 0 ≤ t3 then
  Option.bind (va0[(Int.toNat t3)]?) fun x3 =>
  if 0 ≤ t3 then
  Option.bind (b1[(Int.toNat t3)]?) fun x5 =>
  if (x3 : Int) = x5 then
  some (.inl (.h1 va0 b1 t2 (IntKind.wrap .i64 (t3 + 1))))
  else
  some (.inr false)
  else none
  else none
  else
  some (.inr true)
noncomputable def Ds_l1Same (a0 : (List Int)) (a1 : (List Int)) : Option (Bool) :=
 if (((a0.length : Nat) : Int) : Int) = ((a1.length : Nat) : Int) then
 loop Bs_l1Same (.h1 a0 a1 ((a0.length : Nat) : Int) 0)
 else
 some false
inductive Ss_IsFair where
 | h1 (t0 : (List Gi_Unit)) (t1 : Int) (t2 : Int) (b3 : Gi_Scenario) (b4 : ByteArray) (b5 : Int) (b6 : Int) (b7 : Int) (b8 : Int) (b9 : Int) (b10 : Int) (b11 : Int) (b12 : Int) (b13 : Int) (b14 : Int) (b15 : Int) (b16 : Int) (l17 : (List Gi_Terrain)) (l18 : (List Gi_Kind)) (l19 : (List Int)) (l20 : (List Int)) (l21 : (List Int)) (l22 : (List Gi_Odds)) (l23 : (List (List Int))) (l24 : (List Gi_Unit)) (l25 : (List Gi_Goal)) (l26 : (List Int)) (l27 : (List Int))
noncomputable def Bs_IsFair : Ss_IsFair → Option (Ss_IsFair ⊕ (Bool × Bool))
 | .h1 t0 t1 t2 b3 b4 b5 b6 b7 b8 b9 b10 b11 b12 b13 b14 b15 b16 l17 l18 l19 l20 l21 l22 l23 l24 l25 l26 l27 =>
  if t2 < t1 then
  if 0 ≤ t2 then
  Option.bind (t0[(Int.toNat t2)]?) fun x3 =>
  Option.bind (Ds_snCount b3.Start.Units x3) fun r4 =>
  Option.bind (Ds_snCount l24 x3) fun r5 =>
  if (r4 : Int) = r5 then
  some (.inl (.h1 t0 t1 (IntKind.wrap .i64 (t2 + 1)) b3 b4 b5 b6 b7 b8 b9 b10 b11 b12 b13 b14 b15 b16 l17 l18 l19 l20 l21 l22 l23 l24 l25 l26 l27))
  else
  some (.inr (false, true))
  else none
  else
  Option.bind (Ds_mText b3.Board.Map) fun r2 =>
  Option.bind (Ds_mText (Gi_Map.mk b10 b11 l19 l20 l21)) fun r3 =>
  if r2 = r3 then
  Option.bind (Ds_snGoals b3.Conditions.Goals l25) fun r5 =>
  if r5 = true then
  Option.bind (Ds_l1Same b3.First l26) fun r7 =>
  if r7 = true then
  Option.bind (Ds_l1Same b3.Other l27) fun r9 =>
  some (.inr (r9, true))
  else
  some (.inr (false, true))
  else
  some (.inr (false, true))
  else
  some (.inr (false, true))
noncomputable def Ds_IsFair (a0 : Gi_Scenario) : Option (Bool × Bool) :=
 Option.bind (Ds_snGood a0) fun r1 =>
 if r1 = true then
 Option.bind (Ds_snMirror a0) fun r3 =>
 Option.bind (Ds_snSwap r3) fun r4 =>
 loop Bs_IsFair (.h1 a0.Start.Units ((a0.Start.Units.length : Nat) : Int) 0 a0 r4.Name r4.Board.Rules.Stack r4.Board.Rules.River r4.Board.Rules.Road r4.Board.Rules.Supply r4.Board.Rules.Turns r4.Board.Map.Width r4.Board.Map.Height r4.Table.Dice r4.Start.Turn r4.Start.Weather r4.Conditions.Step r4.Conditions.Margin r4.Board.Rules.Terrains r4.Board.Rules.Kinds r4.Board.Map.Terrain r4.Board.Map.Rivers r4.Board.Map.Roads r4.Table.Columns r4.Table.Results r4.Start.Units r4.Conditions.Goals r4.First r4.Other)
 else
 some (false, false)
noncomputable def Di_inRange (a0 : Int) (a1 : Int) (a2 : Int) : Option (Bool) :=
 if a1 ≤ a0 then
 some (decide (a0 ≤ a2))
 else
 some false
inductive Si_isName where
 | h1 (s0 : ByteArray) (i1 : Int)
noncomputable def Bi_isName : Si_isName → Option (Si_isName ⊕ (Bool))
 | .h1 s0 i1 =>
  if i1 < ((ByteArray.size s0 : Nat) : Int) then
  if 0 ≤ i1 then
  if i1 < (ByteArray.size s0 : Int) then
  if ((byteAt s0 (Int.toNat i1) : Nat) : Int) < 97 then
  some (.inr false)
  else
  if 0 ≤ i1 then
  if i1 < (ByteArray.size s0 : Int) then
  if ((byteAt s0 (Int.toNat i1) : Nat) : Int) > 122 then
  some (.inr false)
  else
  some (.inl (.h1 s0 (IntKind.wrap .i64 (i1 + 1))))
  else none
  else none
  else none
  else none
  else
  Option.bind (Di_inRange ((ByteArray.size s0 : Nat) : Int) 1 8) fun r2 =>
  some (.inr r2)
noncomputable def Di_isName (a0 : ByteArray) : Option (Bool) :=
 loop Bi_isName (.h1 a0 0)
noncomputable def Di_goodTerrain_1 (a0 : Int) : Option (Bool) :=
 Option.bind (Di_inRange a0 0 9) fun r1 =>
 some (!r1)
inductive Sslices_IndexFunc_int_i_goodTerrain_1 where
 | h1 (s0 : (List Int)) (t1 : Int) (t2 : Int)
noncomputable def Bslices_IndexFunc_int_i_goodTerrain_1 : Sslices_IndexFunc_int_i_goodTerrain_1 → Option (Sslices_IndexFunc_int_i_goodTerrain_1 ⊕ (Int))
 | .h1 s0 t1 t2 =>
  if t2 < t1 then
  if 0 ≤ t2 then
  Option.bind (s0[(Int.toNat t2)]?) fun x3 =>
  Option.bind (Di_goodTerrain_1 x3) fun r4 =>
  if r4 = true then
  some (.inr t2)
  else
  some (.inl (.h1 s0 t1 (IntKind.wrap .i64 (t2 + 1))))
  else none
  else
  some (.inr (-1))
noncomputable def Dslices_IndexFunc_int_i_goodTerrain_1 (a0 : (List Int)) : Option (Int) :=
 loop Bslices_IndexFunc_int_i_goodTerrain_1 (.h1 a0 ((a0.length : Nat) : Int) 0)
noncomputable def Dslices_ContainsFunc_int_i_goodTerrain_1 (a0 : (List Int)) : Option (Bool) :=
 Option.bind (Dslices_IndexFunc_int_i_goodTerrain_1 a0) fun r1 =>
 some (decide (r1 ≥ 0))
noncomputable def Di_goodTerrain (a0 : Gi_Terrain) (a1 : Int) : Option (Bool) :=
 Option.bind (Di_isName a0.Name) fun r1 =>
 if r1 = true then
 if (((a0.Cost.length : Nat) : Int) : Int) = a1 then
 Option.bind (Di_inRange a0.Shift (-3) 3) fun r4 =>
 if r4 = true then
 Option.bind (Di_inRange a0.Height 0 3) fun r6 =>
 if r6 = true then
 Option.bind (Dslices_ContainsFunc_int_i_goodTerrain_1 a0.Cost) fun r8 =>
 some (!r8)
 else
 some false
 else
 some false
 else
 some false
 else
 some false
noncomputable def Di_terrainIndex_1 (a0 : Gi_Terrain) (a1 : ByteArray) : Option (Bool) :=
 some (a0.Name == a1)
inductive Sslices_IndexFunc_i_Terrain_i_terrainIndex_1 where
 | h1 (s0 : (List Gi_Terrain)) (f1 : ByteArray) (t2 : Int) (t3 : Int)
noncomputable def Bslices_IndexFunc_i_Terrain_i_terrainIndex_1 : Sslices_IndexFunc_i_Terrain_i_terrainIndex_1 → Option (Sslices_IndexFunc_i_Terrain_i_terrainIndex_1 ⊕ (Int))
 | .h1 s0 f1 t2 t3 =>
  if t3 < t2 then
  if 0 ≤ t3 then
  Option.bind (s0[(Int.toNat t3)]?) fun x3 =>
  Option.bind (Di_terrainIndex_1 x3 f1) fun r4 =>
  if r4 = true then
  some (.inr t3)
  else
  some (.inl (.h1 s0 f1 t2 (IntKind.wrap .i64 (t3 + 1))))
  else none
  else
  some (.inr (-1))
noncomputable def Dslices_IndexFunc_i_Terrain_i_terrainIndex_1 (a0 : (List Gi_Terrain)) (a100 : ByteArray) : Option (Int) :=
 loop Bslices_IndexFunc_i_Terrain_i_terrainIndex_1 (.h1 a0 a100 ((a0.length : Nat) : Int) 0)
noncomputable def Di_terrainIndex (a0 : (List Gi_Terrain)) (a1 : ByteArray) : Option (Int) :=
 Option.bind (Dslices_IndexFunc_i_Terrain_i_terrainIndex_1 a0 a1) fun r1 =>
 some r1
noncomputable def Di_goodKind (a0 : Gi_Kind) : Option (Bool) :=
 Option.bind (Di_isName a0.Name) fun r1 =>
 if r1 = true then
 Option.bind (Di_inRange a0.Strength 1 9) fun r3 =>
 if r3 = true then
 Option.bind (Di_inRange a0.Moves 0 9) fun r5 =>
 if r5 = true then
 Option.bind (Di_inRange a0.Steps 1 4) fun r7 =>
 if r7 = true then
 Option.bind (Di_inRange a0.View 0 4) fun r9 =>
 some r9
 else
 some false
 else
 some false
 else
 some false
 else
 some false
noncomputable def Di_kindIndex_1 (a0 : Gi_Kind) (a1 : ByteArray) : Option (Bool) :=
 some (a0.Name == a1)
inductive Sslices_IndexFunc_i_Kind_i_kindIndex_1 where
 | h1 (s0 : (List Gi_Kind)) (f1 : ByteArray) (t2 : Int) (t3 : Int)
noncomputable def Bslices_IndexFunc_i_Kind_i_kindIndex_1 : Sslices_IndexFunc_i_Kind_i_kindIndex_1 → Option (Sslices_IndexFunc_i_Kind_i_kindIndex_1 ⊕ (Int))
 | .h1 s0 f1 t2 t3 =>
  if t3 < t2 then
  if 0 ≤ t3 then
  Option.bind (s0[(Int.toNat t3)]?) fun x3 =>
  Option.bind (Di_kindIndex_1 x3 f1) fun r4 =>
  if r4 = true then
  some (.inr t3)
  else
  some (.inl (.h1 s0 f1 t2 (IntKind.wrap .i64 (t3 + 1))))
  else none
  else
  some (.inr (-1))
noncomputable def Dslices_IndexFunc_i_Kind_i_kindIndex_1 (a0 : (List Gi_Kind)) (a100 : ByteArray) : Option (Int) :=
 loop Bslices_IndexFunc_i_Kind_i_kindIndex_1 (.h1 a0 a100 ((a0.length : Nat) : Int) 0)
noncomputable def Di_kindIndex (a0 : (List Gi_Kind)) (a1 : ByteArray) : Option (Int) :=
 Option.bind (Dslices_IndexFunc_i_Kind_i_kindIndex_1 a0 a1) fun r1 =>
 some r1
inductive Si_IsRules where
 | h1 (t0 : (List Gi_Terrain)) (t1 : Int) (t2 : Int) (b3 : Gi_Rules)
 | h2 (t0 : (List Gi_Kind)) (t1 : Int) (t2 : Int) (b3 : Gi_Rules)
noncomputable def Bi_IsRules : Si_IsRules → Option (Si_IsRules ⊕ (Bool))
 | .h1 t0 t1 t2 b3 =>
  if t2 < t1 then
  if 0 ≤ t2 then
  Option.bind (t0[(Int.toNat t2)]?) fun x3 =>
  Option.bind (Di_goodTerrain x3 ((b3.Kinds.length : Nat) : Int)) fun r4 =>
  if r4 = true then
  Option.bind (Di_terrainIndex b3.Terrains x3.Name) fun r6 =>
  if (r6 : Int) = t2 then
  some (.inl (.h1 t0 t1 (IntKind.wrap .i64 (t2 + 1)) b3))
  else
  some (.inr false)
  else
  some (.inr false)
  else none
  else
  some (.inl (.h2 b3.Kinds ((b3.Kinds.length : Nat) : Int) 0 b3))
 | .h2 t0 t1 t2 b3 =>
  if t2 < t1 then
  if 0 ≤ t2 then
  Option.bind (t0[(Int.toNat t2)]?) fun x3 =>
  Option.bind (Di_goodKind x3) fun r4 =>
  if r4 = true then
  Option.bind (Di_kindIndex b3.Kinds x3.Name) fun r6 =>
  if (r6 : Int) = t2 then
  some (.inl (.h2 t0 t1 (IntKind.wrap .i64 (t2 + 1)) b3))
  else
  some (.inr false)
  else
  some (.inr false)
  else none
  else
  Option.bind (Di_inRange b3.Stack 1 4) fun r2 =>
  if r2 = true then
  Option.bind (Di_inRange b3.River 0 9) fun r4 =>
  if r4 = true then
  Option.bind (Di_inRange b3.Road 1 9) fun r6 =>
  if r6 = true then
  Option.bind (Di_inRange b3.Supply 0 20) fun r8 =>
  if r8 = true then
  Option.bind (Di_inRange b3.Turns 1 30) fun r10 =>
  some (.inr r10)
  else
  some (.inr false)
  else
  some (.inr false)
  else
  some (.inr false)
  else
  some (.inr false)
noncomputable def Di_IsRules (a0 : Gi_Rules) : Option (Bool) :=
 Option.bind (Di_inRange ((a0.Terrains.length : Nat) : Int) 1 6) fun r1 =>
 if r1 = true then
 Option.bind (Di_inRange ((a0.Kinds.length : Nat) : Int) 1 4) fun r3 =>
 if r3 = true then
 loop Bi_IsRules (.h1 a0.Terrains ((a0.Terrains.length : Nat) : Int) 0 a0)
 else
 some false
 else
 some false
noncomputable def Di_isIndex (a0 : Int) (a1 : Int) : Option (Bool) :=
 Option.bind (Di_inRange a0 0 (IntKind.wrap .i64 (a1 - 1))) fun r1 =>
 some r1
inductive Si_increasing where
 | h1 (list0 : (List Int)) (i1 : Int)
noncomputable def Bi_increasing : Si_increasing → Option (Si_increasing ⊕ (Bool))
 | .h1 list0 i1 =>
  if i1 < ((list0.length : Nat) : Int) then
  if 0 ≤ (IntKind.wrap .i64 (i1 - 1)) then
  Option.bind (list0[(Int.toNat (IntKind.wrap .i64 (i1 - 1)))]?) fun x3 =>
  if 0 ≤ i1 then
  Option.bind (list0[(Int.toNat i1)]?) fun x5 =>
  if x3 ≥ x5 then
  some (.inr false)
  else
  some (.inl (.h1 list0 (IntKind.wrap .i64 (i1 + 1))))
  else none
  else none
  else
  some (.inr true)
noncomputable def Di_increasing (a0 : (List Int)) : Option (Bool) :=
 loop Bi_increasing (.h1 a0 1)
noncomputable def Di_hexOf (a0 : Gi_Map) (a1 : Int) : Option (Gi_Hex) :=
 if ¬ a0.Width = 0 then
 if ¬ a0.Width = 0 then
 some (Gi_Hex.mk (Int.tmod a1 a0.Width) (IntKind.wrap .i64 (Int.tdiv a1 a0.Width)))
 else none
 else none
noncomputable def Di_stepBy (a0 : Gi_Hex) (a1 : Int) (a2 : Int) : Option (Gi_Hex) :=
 if 0 ≤ a1 then
 Option.bind (gv0[Int.toNat a1]?) fun x2 =>
 if 0 ≤ a1 then
 Option.bind (gv0[Int.toNat a1]?) fun x4 =>
 some (Gi_Hex.mk (IntKind.wrap .i64 (a0.Q + (IntKind.wrap .i64 (a2 * x2.Q)))) (IntKind.wrap .i64 (a0.R + (IntKind.wrap .i64 (a2 * x4.R)))))
 else none
 else none
noncomputable def Di_indexOf (a0 : Gi_Map) (a1 : Gi_Hex) : Option (Int) :=
 Option.bind (Di_isIndex a1.Q a0.Width) fun r1 =>
 if r1 = true then
 Option.bind (Di_isIndex a1.R a0.Height) fun r3 =>
 if r3 = true then
 some (IntKind.wrap .i64 ((IntKind.wrap .i64 (a1.R * a0.Width)) + a1.Q))
 else
 some (-1)
 else
 some (-1)
noncomputable def Di_nextTo (a0 : Gi_Map) (a1 : Int) (a2 : Int) : Option (Int) :=
 Option.bind (Di_hexOf a0 a1) fun r1 =>
 Option.bind (Di_stepBy r1 a2 1) fun r2 =>
 Option.bind (Di_indexOf a0 r2) fun r3 =>
 some r3
noncomputable def Di_isEdge (a0 : Gi_Map) (a1 : Int) : Option (Bool) :=
 Option.bind (Di_inRange a1 0 (IntKind.wrap .i64 ((IntKind.wrap .i64 ((IntKind.wrap .i64 (3 * a0.Width)) * a0.Height)) - 1))) fun r1 =>
 if r1 = true then
 Option.bind (Di_nextTo a0 (IntKind.wrap .i64 (Int.tdiv a1 3)) (Int.tmod a1 3)) fun r3 =>
 some (decide (r3 ≥ 0))
 else
 some false
inductive Si_IsMap where
 | h1 (t0 : (List Int)) (t1 : Int) (t2 : Int) (b3 : Gi_Map)
 | h2 (t0 : Int) (t1 : Int) (b2 : Gi_Map) (l3 : (List (List Int)))
 | h3 (t0 : Int) (t1 : Int) (t2 : (List Int)) (t3 : Int) (t4 : Int) (b5 : Gi_Map) (l6 : (List (List Int)))
noncomputable def Bi_IsMap : Si_IsMap → Option (Si_IsMap ⊕ (Bool))
 | .h1 t0 t1 t2 b3 =>
  if t2 < t1 then
  if 0 ≤ t2 then
  Option.bind (t0[(Int.toNat t2)]?) fun x3 =>
  Option.bind (Di_isIndex x3 6) fun r4 =>
  if r4 = true then
  some (.inl (.h1 t0 t1 (IntKind.wrap .i64 (t2 + 1)) b3))
  else
  some (.inr false)
  else none
  else
  some (.inl (.h2 (([b3.Rivers, b3.Roads].length : Nat) : Int) 0 b3 [b3.Rivers, b3.Roads]))
 | .h2 t0 t1 b2 l3 =>
  if t1 < t0 then
  if 0 ≤ t1 then
  Option.bind (l3[(Int.toNat t1)]?) fun x3 =>
  Option.bind (Di_increasing x3) fun r4 =>
  if r4 = true then
  some (.inl (.h3 t0 t1 x3 ((x3.length : Nat) : Int) 0 b2 l3))
  else
  some (.inr false)
  else none
  else
  some (.inr true)
 | .h3 t0 t1 t2 t3 t4 b5 l6 =>
  if t4 < t3 then
  if 0 ≤ t4 then
  Option.bind (t2[(Int.toNat t4)]?) fun x3 =>
  Option.bind (Di_isEdge b5 x3) fun r4 =>
  if r4 = true then
  some (.inl (.h3 t0 t1 t2 t3 (IntKind.wrap .i64 (t4 + 1)) b5 l6))
  else
  some (.inr false)
  else none
  else
  some (.inl (.h2 t0 (IntKind.wrap .i64 (t1 + 1)) b5 l6))
noncomputable def Di_IsMap (a0 : Gi_Map) : Option (Bool) :=
 Option.bind (Di_inRange a0.Width 1 10) fun r1 =>
 if r1 = true then
 Option.bind (Di_inRange a0.Height 1 10) fun r3 =>
 if r3 = true then
 if (((a0.Terrain.length : Nat) : Int) : Int) = (IntKind.wrap .i64 (a0.Width * a0.Height)) then
 loop Bi_IsMap (.h1 a0.Terrain ((a0.Terrain.length : Nat) : Int) 0 a0)
 else
 some false
 else
 some false
 else
 some false
noncomputable def Di_IsBoard_1 (a0 : Int) (a1 : Gi_Board) : Option (Bool) :=
 some (decide (a0 ≥ ((a1.Rules.Terrains.length : Nat) : Int)))
inductive Sslices_IndexFunc_int_i_IsBoard_1 where
 | h1 (s0 : (List Int)) (f1 : Gi_Board) (t2 : Int) (t3 : Int)
noncomputable def Bslices_IndexFunc_int_i_IsBoard_1 : Sslices_IndexFunc_int_i_IsBoard_1 → Option (Sslices_IndexFunc_int_i_IsBoard_1 ⊕ (Int))
 | .h1 s0 f1 t2 t3 =>
  if t3 < t2 then
  if 0 ≤ t3 then
  Option.bind (s0[(Int.toNat t3)]?) fun x3 =>
  Option.bind (Di_IsBoard_1 x3 f1) fun r4 =>
  if r4 = true then
  some (.inr t3)
  else
  some (.inl (.h1 s0 f1 t2 (IntKind.wrap .i64 (t3 + 1))))
  else none
  else
  some (.inr (-1))
noncomputable def Dslices_IndexFunc_int_i_IsBoard_1 (a0 : (List Int)) (a100 : Gi_Board) : Option (Int) :=
 loop Bslices_IndexFunc_int_i_IsBoard_1 (.h1 a0 a100 ((a0.length : Nat) : Int) 0)
noncomputable def Dslices_ContainsFunc_int_i_IsBoard_1 (a0 : (List Int)) (a100 : Gi_Board) : Option (Bool) :=
 Option.bind (Dslices_IndexFunc_int_i_IsBoard_1 a0 a100) fun r1 =>
 some (decide (r1 ≥ 0))
noncomputable def Di_IsBoard (a0 : Gi_Board) : Option (Bool) :=
 Option.bind (Di_IsRules a0.Rules) fun r1 =>
 if r1 = true then
 Option.bind (Di_IsMap a0.Map) fun r3 =>
 if r3 = true then
 Option.bind (Dslices_ContainsFunc_int_i_IsBoard_1 a0.Map.Terrain a0) fun r5 =>
 some (!r5)
 else
 some false
 else
 some false
noncomputable def Di_isResult (a0 : Int) : Option (Bool) :=
 Option.bind (Di_inRange a0 0 7) fun r1 =>
 some r1
noncomputable def Di_IsCombatTable_1 (a0 : Int) : Option (Bool) :=
 Option.bind (Di_isResult a0) fun r1 =>
 some (!r1)
inductive Sslices_IndexFunc_int_i_IsCombatTable_1 where
 | h1 (s0 : (List Int)) (t1 : Int) (t2 : Int)
noncomputable def Bslices_IndexFunc_int_i_IsCombatTable_1 : Sslices_IndexFunc_int_i_IsCombatTable_1 → Option (Sslices_IndexFunc_int_i_IsCombatTable_1 ⊕ (Int))
 | .h1 s0 t1 t2 =>
  if t2 < t1 then
  if 0 ≤ t2 then
  Option.bind (s0[(Int.toNat t2)]?) fun x3 =>
  Option.bind (Di_IsCombatTable_1 x3) fun r4 =>
  if r4 = true then
  some (.inr t2)
  else
  some (.inl (.h1 s0 t1 (IntKind.wrap .i64 (t2 + 1))))
  else none
  else
  some (.inr (-1))
noncomputable def Dslices_IndexFunc_int_i_IsCombatTable_1 (a0 : (List Int)) : Option (Int) :=
 loop Bslices_IndexFunc_int_i_IsCombatTable_1 (.h1 a0 ((a0.length : Nat) : Int) 0)
noncomputable def Dslices_ContainsFunc_int_i_IsCombatTable_1 (a0 : (List Int)) : Option (Bool) :=
 Option.bind (Dslices_IndexFunc_int_i_IsCombatTable_1 a0) fun r1 =>
 some (decide (r1 ≥ 0))
inductive Si_IsCombatTable where
 | h1 (t0 : (List Gi_Odds)) (t1 : Int) (t2 : Int) (b3 : Gi_CombatTable)
 | h2 (t0 : (List (List Int))) (t1 : Int) (t2 : Int) (b3 : Gi_CombatTable)
noncomputable def Bi_IsCombatTable : Si_IsCombatTable → Option (Si_IsCombatTable ⊕ (Bool))
 | .h1 t0 t1 t2 b3 =>
  if t2 < t1 then
  if 0 ≤ t2 then
  Option.bind (t0[(Int.toNat t2)]?) fun x3 =>
  Option.bind (Di_inRange x3.Num 1 20) fun r4 =>
  if r4 = true then
  Option.bind (Di_inRange x3.Den 1 20) fun r6 =>
  if r6 = true then
  if t2 > 0 then
  if 0 ≤ (IntKind.wrap .i64 (t2 - 1)) then
  Option.bind (b3.Columns[(Int.toNat (IntKind.wrap .i64 (t2 - 1)))]?) fun x10 =>
  if 0 ≤ (IntKind.wrap .i64 (t2 - 1)) then
  Option.bind (b3.Columns[(Int.toNat (IntKind.wrap .i64 (t2 - 1)))]?) fun x12 =>
  if (IntKind.wrap .i64 (x10.Num * x3.Den)) ≥ (IntKind.wrap .i64 (x3.Num * x12.Den)) then
  some (.inr false)
  else
  some (.inl (.h1 t0 t1 (IntKind.wrap .i64 (t2 + 1)) b3))
  else none
  else none
  else
  some (.inl (.h1 t0 t1 (IntKind.wrap .i64 (t2 + 1)) b3))
  else
  some (.inr false)
  else
  some (.inr false)
  else none
  else
  some (.inl (.h2 b3.Results ((b3.Results.length : Nat) : Int) 0 b3))
 | .h2 t0 t1 t2 b3 =>
  if t2 < t1 then
  if 0 ≤ t2 then
  Option.bind (t0[(Int.toNat t2)]?) fun x3 =>
  if (((x3.length : Nat) : Int) : Int) = ((b3.Columns.length : Nat) : Int) then
  Option.bind (Dslices_ContainsFunc_int_i_IsCombatTable_1 x3) fun r5 =>
  if r5 = true then
  some (.inr false)
  else
  some (.inl (.h2 t0 t1 (IntKind.wrap .i64 (t2 + 1)) b3))
  else
  some (.inr false)
  else none
  else
  some (.inr true)
noncomputable def Di_IsCombatTable (a0 : Gi_CombatTable) : Option (Bool) :=
 Option.bind (Di_inRange ((a0.Columns.length : Nat) : Int) 1 8) fun r1 =>
 if r1 = true then
 Option.bind (Di_inRange a0.Dice 1 2) fun r3 =>
 if r3 = true then
 if (((a0.Results.length : Nat) : Int) : Int) = (IntKind.wrap .i64 ((IntKind.wrap .i64 (5 * a0.Dice)) + 1)) then
 loop Bi_IsCombatTable (.h1 a0.Columns ((a0.Columns.length : Nat) : Int) 0 a0)
 else
 some false
 else
 some false
 else
 some false
noncomputable def Di_sizeOf (a0 : Gi_Board) : Option (Int) :=
 some ((a0.Map.Terrain.length : Nat) : Int)
noncomputable def Di_isSide (a0 : Int) : Option (Bool) :=
 Option.bind (Di_inRange a0 0 1) fun r1 =>
 some r1
noncomputable def Di_terrainAt (a0 : Gi_Board) (a1 : Int) : Option (Gi_Terrain) :=
 if 0 ≤ a1 then
 Option.bind (a0.Map.Terrain[(Int.toNat a1)]?) fun x2 =>
 if 0 ≤ x2 then
 Option.bind (a0.Rules.Terrains[(Int.toNat x2)]?) fun x4 =>
 some x4
 else none
 else none
noncomputable def Di_enterCost (a0 : Gi_Board) (a1 : Int) (a2 : Int) : Option (Int) :=
 Option.bind (Di_terrainAt a0 a2) fun r1 =>
 if 0 ≤ a1 then
 Option.bind (r1.Cost[(Int.toNat a1)]?) fun x3 =>
 some x3
 else none
noncomputable def Di_goodUnit (a0 : Gi_Board) (a1 : Gi_Unit) : Option (Bool) :=
 Option.bind (Di_isSide a1.Side) fun r1 =>
 if r1 = true then
 Option.bind (Di_isIndex a1.Kind ((a0.Rules.Kinds.length : Nat) : Int)) fun r3 =>
 if r3 = true then
 if 0 ≤ a1.Kind then
 Option.bind (a0.Rules.Kinds[(Int.toNat a1.Kind)]?) fun x6 =>
 Option.bind (Di_inRange a1.Steps 0 x6.Steps) fun r7 =>
 if r7 = true then
 if (a1.At : Int) = (-1) then
 some true
 else
 if a1.Steps > 0 then
 Option.bind (Di_sizeOf a0) fun r11 =>
 Option.bind (Di_isIndex a1.At r11) fun r12 =>
 if r12 = true then
 Option.bind (Di_enterCost a0 a1.Kind a1.At) fun r14 =>
 some ((r14 : Int) != 0)
 else
 some false
 else
 some false
 else
 some false
 else none
 else
 some false
 else
 some false
inductive Si_goodState where
 | h1 (t0 : (List Gi_Unit)) (t1 : Int) (t2 : Int) (b3 : Gi_Board) (l4 : (List GA2I))
noncomputable def Bi_goodState : Si_goodState → Option (Si_goodState ⊕ (Bool))
 | .h1 t0 t1 t2 b3 l4 =>
  if t2 < t1 then
  if 0 ≤ t2 then
  Option.bind (t0[(Int.toNat t2)]?) fun x3 =>
  Option.bind (Di_goodUnit b3 x3) fun r4 =>
  if r4 = true then
  if x3.At < 0 then
  some (.inl (.h1 t0 t1 (IntKind.wrap .i64 (t2 + 1)) b3 l4))
  else
  if 0 ≤ x3.At then
  Option.bind (l4[(Int.toNat x3.At)]?) fun x8 =>
  if x3.Side = 0 then
  if 0 ≤ x3.At then
  Option.bind (l4[(Int.toNat x3.At)]?) fun x11 =>
  if 0 ≤ x3.At then
  Option.bind ((List.set l4 (Int.toNat x3.At) (GA2I.mk (IntKind.wrap .i64 (x8.c0 + 1)) x11.c1))[(Int.toNat x3.At)]?) fun x13 =>
  if (IntKind.wrap .i64 (1 - x3.Side)) = 0 then
  if x13.c0 > 0 then
  some (.inr false)
  else
  if 0 ≤ x3.At then
  Option.bind ((List.set l4 (Int.toNat x3.At) (GA2I.mk (IntKind.wrap .i64 (x8.c0 + 1)) x11.c1))[(Int.toNat x3.At)]?) fun x17 =>
  if x17.c0 > b3.Rules.Stack then
  some (.inr false)
  else
  some (.inl (.h1 t0 t1 (IntKind.wrap .i64 (t2 + 1)) b3 (List.set l4 (Int.toNat x3.At) (GA2I.mk (IntKind.wrap .i64 (x8.c0 + 1)) x11.c1))))
  else none
  else
  if (IntKind.wrap .i64 (1 - x3.Side)) = 1 then
  if x13.c1 > 0 then
  some (.inr false)
  else
  if 0 ≤ x3.At then
  Option.bind ((List.set l4 (Int.toNat x3.At) (GA2I.mk (IntKind.wrap .i64 (x8.c0 + 1)) x11.c1))[(Int.toNat x3.At)]?) fun x18 =>
  if x18.c0 > b3.Rules.Stack then
  some (.inr false)
  else
  some (.inl (.h1 t0 t1 (IntKind.wrap .i64 (t2 + 1)) b3 (List.set l4 (Int.toNat x3.At) (GA2I.mk (IntKind.wrap .i64 (x8.c0 + 1)) x11.c1))))
  else none
  else none
  else none
  else none
  else
  if x3.Side = 1 then
  if 0 ≤ x3.At then
  Option.bind (l4[(Int.toNat x3.At)]?) fun x12 =>
  if 0 ≤ x3.At then
  Option.bind ((List.set l4 (Int.toNat x3.At) (GA2I.mk x12.c0 (IntKind.wrap .i64 (x8.c1 + 1))))[(Int.toNat x3.At)]?) fun x14 =>
  if (IntKind.wrap .i64 (1 - x3.Side)) = 0 then
  if x14.c0 > 0 then
  some (.inr false)
  else
  if 0 ≤ x3.At then
  Option.bind ((List.set l4 (Int.toNat x3.At) (GA2I.mk x12.c0 (IntKind.wrap .i64 (x8.c1 + 1))))[(Int.toNat x3.At)]?) fun x18 =>
  if x18.c1 > b3.Rules.Stack then
  some (.inr false)
  else
  some (.inl (.h1 t0 t1 (IntKind.wrap .i64 (t2 + 1)) b3 (List.set l4 (Int.toNat x3.At) (GA2I.mk x12.c0 (IntKind.wrap .i64 (x8.c1 + 1))))))
  else none
  else
  if (IntKind.wrap .i64 (1 - x3.Side)) = 1 then
  if x14.c1 > 0 then
  some (.inr false)
  else
  if 0 ≤ x3.At then
  Option.bind ((List.set l4 (Int.toNat x3.At) (GA2I.mk x12.c0 (IntKind.wrap .i64 (x8.c1 + 1))))[(Int.toNat x3.At)]?) fun x19 =>
  if x19.c1 > b3.Rules.Stack then
  some (.inr false)
  else
  some (.inl (.h1 t0 t1 (IntKind.wrap .i64 (t2 + 1)) b3 (List.set l4 (Int.toNat x3.At) (GA2I.mk x12.c0 (IntKind.wrap .i64 (x8.c1 + 1))))))
  else none
  else none
  else none
  else none
  else none
  else none
  else
  some (.inr false)
  else none
  else
  some (.inr true)
noncomputable def Di_goodState (a0 : Gi_Board) (a1 : Gi_State) : Option (Bool) :=
 Option.bind (Di_inRange a1.Turn 0 a0.Rules.Turns) fun r1 =>
 if r1 = true then
 Option.bind (Di_inRange a1.Weather 0 2) fun r3 =>
 if r3 = true then
 if ((a1.Units.length : Nat) : Int) > 12 then
 some false
 else
 Option.bind (Di_sizeOf a0) fun r6 =>
 if 0 ≤ r6 then
 if Int.toNat r6 * 16 ≤ 140737488355328 then
 loop Bi_goodState (.h1 a1.Units ((a1.Units.length : Nat) : Int) 0 a0 (List.replicate (Int.toNat r6) (GA2I.mk 0 0)))
 else none
 else none
 else
 some false
 else
 some false
inductive Si_goodConditions where
 | h1 (t0 : (List Gi_Goal)) (t1 : Int) (t2 : Int) (b3 : Gi_Board) (b4 : Gi_Conditions)
noncomputable def Bi_goodConditions : Si_goodConditions → Option (Si_goodConditions ⊕ (Bool))
 | .h1 t0 t1 t2 b3 b4 =>
  if t2 < t1 then
  if 0 ≤ t2 then
  Option.bind (t0[(Int.toNat t2)]?) fun x3 =>
  Option.bind (Di_sizeOf b3) fun r4 =>
  Option.bind (Di_isIndex x3.At r4) fun r5 =>
  if r5 = true then
  Option.bind (Di_inRange x3.Points 1 20) fun r7 =>
  if r7 = true then
  if t2 > 0 then
  if 0 ≤ (IntKind.wrap .i64 (t2 - 1)) then
  Option.bind (b4.Goals[(Int.toNat (IntKind.wrap .i64 (t2 - 1)))]?) fun x11 =>
  if x11.At ≥ x3.At then
  some (.inr false)
  else
  some (.inl (.h1 t0 t1 (IntKind.wrap .i64 (t2 + 1)) b3 b4))
  else none
  else
  some (.inl (.h1 t0 t1 (IntKind.wrap .i64 (t2 + 1)) b3 b4))
  else
  some (.inr false)
  else
  some (.inr false)
  else none
  else
  some (.inr true)
noncomputable def Di_goodConditions (a0 : Gi_Board) (a1 : Gi_Conditions) : Option (Bool) :=
 if ((a1.Goals.length : Nat) : Int) > 12 then
 some false
 else
 Option.bind (Di_inRange a1.Step 0 9) fun r2 =>
 if r2 = true then
 Option.bind (Di_inRange a1.Margin 0 200) fun r4 =>
 if r4 = true then
 loop Bi_goodConditions (.h1 a1.Goals ((a1.Goals.length : Nat) : Int) 0 a0 a1)
 else
 some false
 else
 some false
noncomputable def Di_areSources_1 (a0 : Int) (a1 : Gi_Board) : Option (Bool) :=
 Option.bind (Di_sizeOf a1) fun r1 =>
 Option.bind (Di_isIndex a0 r1) fun r2 =>
 some (!r2)
inductive Sslices_IndexFunc_int_i_areSources_1 where
 | h1 (s0 : (List Int)) (f1 : Gi_Board) (t2 : Int) (t3 : Int)
noncomputable def Bslices_IndexFunc_int_i_areSources_1 : Sslices_IndexFunc_int_i_areSources_1 → Option (Sslices_IndexFunc_int_i_areSources_1 ⊕ (Int))
 | .h1 s0 f1 t2 t3 =>
  if t3 < t2 then
  if 0 ≤ t3 then
  Option.bind (s0[(Int.toNat t3)]?) fun x3 =>
  Option.bind (Di_areSources_1 x3 f1) fun r4 =>
  if r4 = true then
  some (.inr t3)
  else
  some (.inl (.h1 s0 f1 t2 (IntKind.wrap .i64 (t3 + 1))))
  else none
  else
  some (.inr (-1))
noncomputable def Dslices_IndexFunc_int_i_areSources_1 (a0 : (List Int)) (a100 : Gi_Board) : Option (Int) :=
 loop Bslices_IndexFunc_int_i_areSources_1 (.h1 a0 a100 ((a0.length : Nat) : Int) 0)
noncomputable def Dslices_ContainsFunc_int_i_areSources_1 (a0 : (List Int)) (a100 : Gi_Board) : Option (Bool) :=
 Option.bind (Dslices_IndexFunc_int_i_areSources_1 a0 a100) fun r1 =>
 some (decide (r1 ≥ 0))
noncomputable def Di_areSources (a0 : Gi_Board) (a1 : (List Int)) : Option (Bool) :=
 if ((a1.length : Nat) : Int) ≤ 6 then
 Option.bind (Di_increasing a1) fun r2 =>
 if r2 = true then
 Option.bind (Dslices_ContainsFunc_int_i_areSources_1 a1 a0) fun r4 =>
 some (!r4)
 else
 some false
 else
 some false
noncomputable def Di_ScenarioFault (a0 : Gi_Scenario) : Option (Int) :=
 Option.bind (Di_isName a0.Name) fun r1 =>
 if r1 = true then
 Option.bind (Di_IsBoard a0.Board) fun r3 =>
 if r3 = true then
 Option.bind (Di_IsCombatTable a0.Table) fun r5 =>
 if r5 = true then
 Option.bind (Di_goodState a0.Board a0.Start) fun r7 =>
 if r7 = true then
 Option.bind (Di_goodConditions a0.Board a0.Conditions) fun r9 =>
 if r9 = true then
 Option.bind (Di_areSources a0.Board a0.First) fun r11 =>
 if r11 = true then
 Option.bind (Di_areSources a0.Board a0.Other) fun r13 =>
 if r13 = true then
 some 0
 else
 some 6
 else
 some 6
 else
 some 5
 else
 some 4
 else
 some 3
 else
 some 2
 else
 some 1
noncomputable def Di_IsScenario (a0 : Gi_Scenario) : Option (Bool) :=
 Option.bind (Di_ScenarioFault a0) fun r1 =>
 some ((r1 : Int) == 0)
noncomputable def Dslices_Clone_int (a0 : (List Int)) : Option (List Int) := if List.length a0 * 8 ≤ 70368744177664 then some a0 else none
noncomputable def Dslices_Clone_i_Kind (a0 : (List Gi_Kind)) : Option (List Gi_Kind) := if List.length a0 * 56 ≤ 70368744177664 then some a0 else none
inductive Si_cloneRules where
 | h1 (t0 : (List Gi_Terrain)) (t1 : Int) (t2 : Int) (b3 : Gi_Rules) (b4 : Int) (b5 : Int) (b6 : Int) (b7 : Int) (b8 : Int) (l9 : (List Gi_Terrain))
noncomputable def Bi_cloneRules : Si_cloneRules → Option (Si_cloneRules ⊕ (Gi_Rules))
 | .h1 t0 t1 t2 b3 b4 b5 b6 b7 b8 l9 =>
  if t2 < t1 then
  if 0 ≤ t2 then
  Option.bind (t0[(Int.toNat t2)]?) fun x3 =>
  Option.bind (Dslices_Clone_int x3.Cost) fun r4 =>
  if (l9 ++ [(Gi_Terrain.mk x3.Name r4 x3.Shift x3.Height x3.Blocks)]).length * 64 ≤ 70368744177664 then
  some (.inl (.h1 t0 t1 (IntKind.wrap .i64 (t2 + 1)) b3 b4 b5 b6 b7 b8 (l9 ++ [(Gi_Terrain.mk x3.Name r4 x3.Shift x3.Height x3.Blocks)])))
  else none
  else none
  else
  Option.bind (Dslices_Clone_i_Kind b3.Kinds) fun r2 =>
  some (.inr (Gi_Rules.mk l9 r2 b3.Stack b3.River b3.Road b3.Supply b3.Turns))
noncomputable def Di_cloneRules (a0 : Gi_Rules) : Option (Gi_Rules) :=
 loop Bi_cloneRules (.h1 a0.Terrains ((a0.Terrains.length : Nat) : Int) 0 a0 0 0 0 0 0 ([] : List Gi_Terrain))
noncomputable def Di_cloneMap (a0 : Gi_Map) : Option (Gi_Map) :=
 Option.bind (Dslices_Clone_int a0.Terrain) fun r1 =>
 Option.bind (Dslices_Clone_int a0.Rivers) fun r2 =>
 Option.bind (Dslices_Clone_int a0.Roads) fun r3 =>
 some (Gi_Map.mk a0.Width a0.Height r1 r2 r3)
noncomputable def Di_cloneBoard (a0 : Gi_Board) : Option (Gi_Board) :=
 Option.bind (Di_cloneRules a0.Rules) fun r1 =>
 Option.bind (Di_cloneMap a0.Map) fun r2 =>
 some (Gi_Board.mk r1 r2)
noncomputable def Dslices_Clone_i_Odds (a0 : (List Gi_Odds)) : Option (List Gi_Odds) := if List.length a0 * 16 ≤ 70368744177664 then some a0 else none
inductive Si_cloneTable where
 | h1 (t0 : (List (List Int))) (t1 : Int) (t2 : Int) (b3 : Int) (b4 : Int) (l5 : (List Gi_Odds))
 | h2 (t0 : (List (List Int))) (t1 : Int) (t2 : Int) (b3 : Int) (b4 : Int) (l5 : (List Gi_Odds)) (l6 : (List (List Int)))
noncomputable def Bi_cloneTable : Si_cloneTable → Option (Si_cloneTable ⊕ (Gi_CombatTable))
 | .h1 t0 t1 t2 b3 b4 l5 =>
  if t2 < t1 then
  if 0 ≤ t2 then
  Option.bind (t0[(Int.toNat t2)]?) fun x3 =>
  Option.bind (Dslices_Clone_int x3) fun r4 =>
  if [r4].length * 24 ≤ 70368744177664 then
  some (.inl (.h2 t0 t1 (IntKind.wrap .i64 (t2 + 1)) b3 b4 l5 [r4]))
  else none
  else none
  else
  some (.inr (Gi_CombatTable.mk l5 b4 []))
 | .h2 t0 t1 t2 b3 b4 l5 l6 =>
  if t2 < t1 then
  if 0 ≤ t2 then
  Option.bind (t0[(Int.toNat t2)]?) fun x3 =>
  Option.bind (Dslices_Clone_int x3) fun r4 =>
  if (l6 ++ [r4]).length * 24 ≤ 70368744177664 then
  some (.inl (.h2 t0 t1 (IntKind.wrap .i64 (t2 + 1)) b3 b4 l5 (l6 ++ [r4])))
  else none
  else none
  else
  some (.inr (Gi_CombatTable.mk l5 b4 l6))
noncomputable def Di_cloneTable (a0 : Gi_CombatTable) : Option (Gi_CombatTable) :=
 Option.bind (Dslices_Clone_i_Odds a0.Columns) fun r1 =>
 loop Bi_cloneTable (.h1 a0.Results ((a0.Results.length : Nat) : Int) 0 0 a0.Dice r1)
noncomputable def Dslices_Clone_i_Unit (a0 : (List Gi_Unit)) : Option (List Gi_Unit) := if List.length a0 * 32 ≤ 70368744177664 then some a0 else none
noncomputable def Di_cloneState (a0 : Gi_State) : Option (Gi_State) :=
 Option.bind (Dslices_Clone_i_Unit a0.Units) fun r1 =>
 some (Gi_State.mk a0.Turn a0.Weather r1)
noncomputable def Dslices_Clone_i_Goal (a0 : (List Gi_Goal)) : Option (List Gi_Goal) := if List.length a0 * 16 ≤ 70368744177664 then some a0 else none
noncomputable def Di_cloneScenario (a0 : Gi_Scenario) : Option (Gi_Scenario) :=
 Option.bind (Di_cloneBoard a0.Board) fun r1 =>
 Option.bind (Di_cloneTable a0.Table) fun r2 =>
 Option.bind (Di_cloneState a0.Start) fun r3 =>
 Option.bind (Dslices_Clone_i_Goal a0.Conditions.Goals) fun r4 =>
 Option.bind (Dslices_Clone_int a0.First) fun r5 =>
 Option.bind (Dslices_Clone_int a0.Other) fun r6 =>
 some (Gi_Scenario.mk a0.Name r1 r2 r3 (Gi_Conditions.mk r4 a0.Conditions.Step a0.Conditions.Margin) r5 r6)
noncomputable def Di_mirrorIndex (a0 : Gi_Map) (a1 : Int) : Option (Int) :=
 if ¬ a0.Width = 0 then
 if ¬ a0.Width = 0 then
 some (IntKind.wrap .i64 ((IntKind.wrap .i64 ((Int.tmod a1 a0.Width) * a0.Height)) + (IntKind.wrap .i64 (Int.tdiv a1 a0.Width))))
 else none
 else none
noncomputable def Di_edgeOf (a0 : Gi_Map) (a1 : Int) (a2 : Int) : Option (Int) :=
 Option.bind (Di_nextTo a0 a1 a2) fun r1 =>
 if r1 < 0 then
 some (-1)
 else
 if a2 < 3 then
 some (IntKind.wrap .i64 ((IntKind.wrap .i64 (3 * a1)) + a2))
 else
 some (IntKind.wrap .i64 ((IntKind.wrap .i64 ((IntKind.wrap .i64 (3 * r1)) + a2)) - 3))
noncomputable def Dslices_Sort_int (a0 : (List Int)) : Option (List Int) := if (List.length a0 : Int) ≤ 1000000000000 then some (List.mergeSort a0 fun x y => decide (x ≤ y)) else none
inductive Si_mirrorMap_1 where
 | h1 (t0 : Gi_Map) (t1 : Gi_Map) (t2 : (List Int)) (t3 : Int) (t4 : Int) (l5 : (List Int))
noncomputable def Bi_mirrorMap_1 : Si_mirrorMap_1 → Option (Si_mirrorMap_1 ⊕ ((List Int)))
 | .h1 t0 t1 t2 t3 t4 l5 =>
  if t4 < t3 then
  if 0 ≤ t4 then
  Option.bind (t2[(Int.toNat t4)]?) fun x3 =>
  Option.bind (Di_mirrorIndex t1 (IntKind.wrap .i64 (Int.tdiv x3 3))) fun r4 =>
  Option.bind (Di_edgeOf t0 r4 (IntKind.wrap .i64 (5 - (Int.tmod x3 3)))) fun r5 =>
  if (l5 ++ [r5]).length * 8 ≤ 70368744177664 then
  some (.inl (.h1 t0 t1 t2 t3 (IntKind.wrap .i64 (t4 + 1)) (l5 ++ [r5])))
  else none
  else none
  else
  Option.bind (Dslices_Sort_int l5) fun r2 =>
  if r2.length = l5.length then
  some (.inr r2)
  else none
noncomputable def Di_mirrorMap_1 (a0 : (List Int)) (a1 : Gi_Map) (a2 : Gi_Map) : Option ((List Int)) :=
 loop Bi_mirrorMap_1 (.h1 a1 a2 a0 ((a0.length : Nat) : Int) 0 ([] : List Int))
inductive Si_mirrorMap where
 | h1 (t0 : (List Int)) (t1 : Int) (t2 : Int) (b3 : Gi_Map) (b4 : Int) (b5 : Int) (b6 : Int) (b7 : Int) (l8 : (List Int))
noncomputable def Bi_mirrorMap : Si_mirrorMap → Option (Si_mirrorMap ⊕ (Gi_Map))
 | .h1 t0 t1 t2 b3 b4 b5 b6 b7 l8 =>
  if t2 < t1 then
  if 0 ≤ t2 then
  Option.bind (t0[(Int.toNat t2)]?) fun x3 =>
  Option.bind (Di_mirrorIndex b3 t2) fun r4 =>
  if 0 ≤ r4 then
  Option.bind (l8[(Int.toNat r4)]?) fun x6 =>
  some (.inl (.h1 t0 t1 (IntKind.wrap .i64 (t2 + 1)) b3 b4 b5 b6 b7 (List.set l8 (Int.toNat r4) x3)))
  else none
  else none
  else
  Option.bind (Di_mirrorMap_1 b3.Rivers (Gi_Map.mk b6 b7 l8 [] []) b3) fun r2 =>
  Option.bind (Di_mirrorMap_1 b3.Roads (Gi_Map.mk b6 b7 l8 [] []) b3) fun r3 =>
  some (.inr (Gi_Map.mk b6 b7 l8 r2 r3))
noncomputable def Di_mirrorMap (a0 : Gi_Map) : Option (Gi_Map) :=
 if Int.toNat ((a0.Terrain.length : Nat) : Int) * 8 ≤ 140737488355328 then
 loop Bi_mirrorMap (.h1 a0.Terrain ((a0.Terrain.length : Nat) : Int) 0 a0 0 0 a0.Height a0.Width (List.replicate (Int.toNat ((a0.Terrain.length : Nat) : Int)) (0 : Int)))
 else none
noncomputable def Di_mirrorScenario_1 (a0 : Gi_Goal) (a1 : Gi_Goal) : Option (Int) :=
 some (IntKind.wrap .i64 (a0.At - a1.At))
noncomputable def Dslices_SortFunc_i_Goal_i_mirrorScenario_1 (a0 : (List Gi_Goal)) : Option (List Gi_Goal) := sortD Di_mirrorScenario_1 a0
inductive Si_mirrorPlaces where
 | h1 (t0 : (List Int)) (t1 : Int) (t2 : Int) (b3 : Gi_Map) (l4 : (List Int))
noncomputable def Bi_mirrorPlaces : Si_mirrorPlaces → Option (Si_mirrorPlaces ⊕ ((List Int)))
 | .h1 t0 t1 t2 b3 l4 =>
  if t2 < t1 then
  if 0 ≤ t2 then
  Option.bind (t0[(Int.toNat t2)]?) fun x3 =>
  Option.bind (Di_mirrorIndex b3 x3) fun r4 =>
  if (l4 ++ [r4]).length * 8 ≤ 70368744177664 then
  some (.inl (.h1 t0 t1 (IntKind.wrap .i64 (t2 + 1)) b3 (l4 ++ [r4])))
  else none
  else none
  else
  Option.bind (Dslices_Sort_int l4) fun r2 =>
  if r2.length = l4.length then
  some (.inr r2)
  else none
noncomputable def Di_mirrorPlaces (a0 : Gi_Map) (a1 : (List Int)) : Option ((List Int)) :=
 loop Bi_mirrorPlaces (.h1 a1 ((a1.length : Nat) : Int) 0 a0 ([] : List Int))
inductive Si_mirrorScenario where
 | h1 (t0 : (List Gi_Unit)) (t1 : Int) (t2 : Int) (b3 : Gi_Scenario) (b4 : ByteArray) (b5 : Int) (b6 : Int) (b7 : Int) (b8 : Int) (b9 : Int) (b10 : Int) (b11 : Int) (b12 : Int) (b13 : Int) (b14 : Int) (b15 : Int) (b16 : Int) (b17 : ByteArray) (b18 : Int) (b19 : Int) (b20 : Int) (b21 : Int) (b22 : Int) (b23 : Int) (b24 : Int) (b25 : Int) (b26 : Int) (b27 : Int) (b28 : Int) (b29 : Int) (l30 : (List Gi_Terrain)) (l31 : (List Gi_Kind)) (l32 : (List Int)) (l33 : (List Int)) (l34 : (List Int)) (l35 : (List Gi_Odds)) (l36 : (List (List Int))) (l37 : (List Gi_Unit)) (l38 : (List Gi_Goal)) (l39 : (List Int)) (l40 : (List Int))
 | h2 (t0 : (List Gi_Goal)) (t1 : Int) (t2 : Int) (b3 : Gi_Scenario) (b4 : ByteArray) (b5 : Int) (b6 : Int) (b7 : Int) (b8 : Int) (b9 : Int) (b10 : Int) (b11 : Int) (b12 : Int) (b13 : Int) (b14 : Int) (b15 : Int) (b16 : Int) (b17 : ByteArray) (b18 : Int) (b19 : Int) (b20 : Int) (b21 : Int) (b22 : Int) (b23 : Int) (b24 : Int) (b25 : Int) (b26 : Int) (b27 : Int) (b28 : Int) (b29 : Int) (l30 : (List Gi_Terrain)) (l31 : (List Gi_Kind)) (l32 : (List Int)) (l33 : (List Int)) (l34 : (List Int)) (l35 : (List Gi_Odds)) (l36 : (List (List Int))) (l37 : (List Gi_Unit)) (l38 : (List Gi_Goal)) (l39 : (List Int)) (l40 : (List Int))
noncomputable def Bi_mirrorScenario : Si_mirrorScenario → Option (Si_mirrorScenario ⊕ (Gi_Scenario))
 | .h1 t0 t1 t2 b3 b4 b5 b6 b7 b8 b9 b10 b11 b12 b13 b14 b15 b16 b17 b18 b19 b20 b21 b22 b23 b24 b25 b26 b27 b28 b29 l30 l31 l32 l33 l34 l35 l36 l37 l38 l39 l40 =>
  if t2 < t1 then
  if 0 ≤ t2 then
  Option.bind (t0[(Int.toNat t2)]?) fun x3 =>
  if x3.At ≥ 0 then
  Option.bind (Di_mirrorIndex b3.Board.Map x3.At) fun r5 =>
  if 0 ≤ t2 then
  Option.bind (l37[(Int.toNat t2)]?) fun x7 =>
  some (.inl (.h1 t0 t1 (IntKind.wrap .i64 (t2 + 1)) b3 b4 b5 b6 b7 b8 b9 b10 b11 b12 b13 b14 b15 b16 b17 b18 b19 b20 b21 b22 b23 b24 b25 b26 b27 b28 b29 l30 l31 l32 l33 l34 l35 l36 (List.set l37 (Int.toNat t2) (Gi_Unit.mk x7.Side x7.Kind r5 x7.Steps)) l38 l39 l40))
  else none
  else
  some (.inl (.h1 t0 t1 (IntKind.wrap .i64 (t2 + 1)) b3 b4 b5 b6 b7 b8 b9 b10 b11 b12 b13 b14 b15 b16 b17 b18 b19 b20 b21 b22 b23 b24 b25 b26 b27 b28 b29 l30 l31 l32 l33 l34 l35 l36 l37 l38 l39 l40))
  else none
  else
  some (.inl (.h2 b3.Conditions.Goals ((b3.Conditions.Goals.length : Nat) : Int) 0 b3 b4 b5 b6 b7 b8 b9 b10 b11 b12 b13 b14 b15 b16 b17 b18 b19 b20 b21 b22 b23 b24 b25 b26 b27 b28 b29 l30 l31 l32 l33 l34 l35 l36 l37 l38 l39 l40))
 | .h2 t0 t1 t2 b3 b4 b5 b6 b7 b8 b9 b10 b11 b12 b13 b14 b15 b16 b17 b18 b19 b20 b21 b22 b23 b24 b25 b26 b27 b28 b29 l30 l31 l32 l33 l34 l35 l36 l37 l38 l39 l40 =>
  if t2 < t1 then
  if 0 ≤ t2 then
  Option.bind (t0[(Int.toNat t2)]?) fun x3 =>
  Option.bind (Di_mirrorIndex b3.Board.Map x3.At) fun r4 =>
  if 0 ≤ t2 then
  Option.bind (l38[(Int.toNat t2)]?) fun x6 =>
  some (.inl (.h2 t0 t1 (IntKind.wrap .i64 (t2 + 1)) b3 b4 b5 b6 b7 b8 b9 b10 b11 b12 b13 b14 b15 b16 b17 b18 b19 b20 b21 b22 b23 b24 b25 b26 b27 b28 b29 l30 l31 l32 l33 l34 l35 l36 l37 (List.set l38 (Int.toNat t2) (Gi_Goal.mk r4 x6.Points)) l39 l40))
  else none
  else none
  else
  Option.bind (Dslices_SortFunc_i_Goal_i_mirrorScenario_1 l38) fun r2 =>
  if r2.length = l38.length then
  Option.bind (Di_mirrorPlaces b3.Board.Map b3.First) fun r4 =>
  Option.bind (Di_mirrorPlaces b3.Board.Map b3.Other) fun r5 =>
  some (.inr (Gi_Scenario.mk b17 (Gi_Board.mk (Gi_Rules.mk l30 l31 b18 b19 b20 b21 b22) (Gi_Map.mk b23 b24 l32 l33 l34)) (Gi_CombatTable.mk l35 b25 l36) (Gi_State.mk b26 b27 l37) (Gi_Conditions.mk r2 b28 b29) r4 r5))
  else none
noncomputable def Di_mirrorScenario (a0 : Gi_Scenario) : Option (Gi_Scenario) :=
 Option.bind (Di_cloneScenario a0) fun r1 =>
 Option.bind (Di_mirrorMap a0.Board.Map) fun r2 =>
 loop Bi_mirrorScenario (.h1 a0.Start.Units ((a0.Start.Units.length : Nat) : Int) 0 a0 ⟨#[]⟩ 0 0 0 0 0 0 0 0 0 0 0 0 r1.Name r1.Board.Rules.Stack r1.Board.Rules.River r1.Board.Rules.Road r1.Board.Rules.Supply r1.Board.Rules.Turns r2.Width r2.Height r1.Table.Dice r1.Start.Turn r1.Start.Weather r1.Conditions.Step r1.Conditions.Margin r1.Board.Rules.Terrains r1.Board.Rules.Kinds r2.Terrain r2.Rivers r2.Roads r1.Table.Columns r1.Table.Results r1.Start.Units r1.Conditions.Goals r1.First r1.Other)
inductive Si_swapScenario where
 | h1 (t0 : Int) (t1 : Int) (b2 : ByteArray) (b3 : Int) (b4 : Int) (b5 : Int) (b6 : Int) (b7 : Int) (b8 : Int) (b9 : Int) (b10 : Int) (b11 : Int) (b12 : Int) (b13 : Int) (b14 : Int) (b15 : ByteArray) (b16 : Int) (b17 : Int) (b18 : Int) (b19 : Int) (b20 : Int) (b21 : Int) (b22 : Int) (b23 : Int) (b24 : Int) (b25 : Int) (b26 : Int) (b27 : Int) (l28 : (List Gi_Terrain)) (l29 : (List Gi_Kind)) (l30 : (List Int)) (l31 : (List Int)) (l32 : (List Int)) (l33 : (List Gi_Odds)) (l34 : (List (List Int))) (l35 : (List Gi_Unit)) (l36 : (List Gi_Goal)) (l37 : (List Int)) (l38 : (List Int))
noncomputable def Bi_swapScenario : Si_swapScenario → Option (Si_swapScenario ⊕ (Gi_Scenario))
 | .h1 t0 t1 b2 b3 b4 b5 b6 b7 b8 b9 b10 b11 b12 b13 b14 b15 b16 b17 b18 b19 b20 b21 b22 b23 b24 b25 b26 b27 l28 l29 l30 l31 l32 l33 l34 l35 l36 l37 l38 =>
  if t1 < t0 then
  if 0 ≤ t1 then
  Option.bind (l35[(Int.toNat t1)]?) fun x3 =>
  if 0 ≤ t1 then
  Option.bind (l35[(Int.toNat t1)]?) fun x5 =>
  some (.inl (.h1 t0 (IntKind.wrap .i64 (t1 + 1)) b2 b3 b4 b5 b6 b7 b8 b9 b10 b11 b12 b13 b14 b15 b16 b17 b18 b19 b20 b21 b22 b23 b24 b25 b26 b27 l28 l29 l30 l31 l32 l33 l34 (List.set l35 (Int.toNat t1) (Gi_Unit.mk (IntKind.wrap .i64 (1 - x3.Side)) x5.Kind x5.At x5.Steps)) l36 l37 l38))
  else none
  else none
  else
  some (.inr (Gi_Scenario.mk b15 (Gi_Board.mk (Gi_Rules.mk l28 l29 b16 b17 b18 b19 b20) (Gi_Map.mk b21 b22 l30 l31 l32)) (Gi_CombatTable.mk l33 b23 l34) (Gi_State.mk b24 b25 l35) (Gi_Conditions.mk l36 b26 b27) l38 l37))
noncomputable def Di_swapScenario (a0 : Gi_Scenario) : Option (Gi_Scenario) :=
 Option.bind (Di_cloneScenario a0) fun r1 =>
 loop Bi_swapScenario (.h1 ((r1.Start.Units.length : Nat) : Int) 0 ⟨#[]⟩ 0 0 0 0 0 0 0 0 0 0 0 0 r1.Name r1.Board.Rules.Stack r1.Board.Rules.River r1.Board.Rules.Road r1.Board.Rules.Supply r1.Board.Rules.Turns r1.Board.Map.Width r1.Board.Map.Height r1.Table.Dice r1.Start.Turn r1.Start.Weather r1.Conditions.Step r1.Conditions.Margin r1.Board.Rules.Terrains r1.Board.Rules.Kinds r1.Board.Map.Terrain r1.Board.Map.Rivers r1.Board.Map.Roads r1.Table.Columns r1.Table.Results r1.Start.Units r1.Conditions.Goals r1.First r1.Other)
noncomputable def Dstrconv_Itoa (a0 : Int) : Option ByteArray := itoaD a0
noncomputable def Dstrings_Join (a0 : (List ByteArray)) (a1 : ByteArray) : Option ByteArray := joinD a0 a1
inductive Si_wordsText where
 | h1 (t0 : (List Int)) (t1 : Int) (t2 : Int) (l3 : (List ByteArray))
noncomputable def Bi_wordsText : Si_wordsText → Option (Si_wordsText ⊕ (ByteArray))
 | .h1 t0 t1 t2 l3 =>
  if t2 < t1 then
  if 0 ≤ t2 then
  Option.bind (t0[(Int.toNat t2)]?) fun x3 =>
  Option.bind (Dstrconv_Itoa x3) fun r4 =>
  if (l3 ++ [r4]).length * 16 ≤ 70368744177664 then
  some (.inl (.h1 t0 t1 (IntKind.wrap .i64 (t2 + 1)) (l3 ++ [r4])))
  else none
  else none
  else
  Option.bind (Dstrings_Join l3 ⟨#[32]⟩) fun r2 =>
  some (.inr r2)
noncomputable def Di_wordsText (a0 : ByteArray) (a1 : (List Int)) : Option (ByteArray) :=
 loop Bi_wordsText (.h1 a1 ((a1.length : Nat) : Int) 0 [a0])
inductive Si_mapText where
 | h1 (out0 : ByteArray) (t1 : (List Int)) (t2 : Int) (t3 : Int) (b4 : Gi_Map)
noncomputable def Bi_mapText : Si_mapText → Option (Si_mapText ⊕ (ByteArray))
 | .h1 out0 t1 t2 t3 b4 =>
  if t3 < t2 then
  if 0 ≤ t3 then
  Option.bind (t1[(Int.toNat t3)]?) fun x3 =>
  Option.bind (Dstrconv_Itoa x3) fun r4 =>
  if ByteArray.size out0 + ByteArray.size r4 ≤ 9223372036854775807 then
  if ¬ b4.Width = 0 then
  if ((Int.tmod t3 b4.Width) : Int) = (IntKind.wrap .i64 (b4.Width - 1)) then
  if ByteArray.size (out0 ++ r4) + ByteArray.size ⟨#[10]⟩ ≤ 9223372036854775807 then
  some (.inl (.h1 ((out0 ++ r4) ++ ⟨#[10]⟩) t1 t2 (IntKind.wrap .i64 (t3 + 1)) b4))
  else none
  else
  some (.inl (.h1 (out0 ++ r4) t1 t2 (IntKind.wrap .i64 (t3 + 1)) b4))
  else none
  else none
  else none
  else
  Option.bind (Di_wordsText ⟨#[114, 105, 118, 101, 114, 115]⟩ b4.Rivers) fun r2 =>
  if ByteArray.size out0 + ByteArray.size r2 ≤ 9223372036854775807 then
  if ByteArray.size (out0 ++ r2) + ByteArray.size ⟨#[10]⟩ ≤ 9223372036854775807 then
  Option.bind (Di_wordsText ⟨#[114, 111, 97, 100, 115]⟩ b4.Roads) fun r5 =>
  if ByteArray.size ((out0 ++ r2) ++ ⟨#[10]⟩) + ByteArray.size r5 ≤ 9223372036854775807 then
  if ByteArray.size (((out0 ++ r2) ++ ⟨#[10]⟩) ++ r5) + ByteArray.size ⟨#[10]⟩ ≤ 9223372036854775807 then
  some (.inr ((((out0 ++ r2) ++ ⟨#[10]⟩) ++ r5) ++ ⟨#[10]⟩))
  else none
  else none
  else none
  else none
noncomputable def Di_mapText (a0 : Gi_Map) : Option (ByteArray) :=
 Option.bind (Di_wordsText ⟨#[109, 97, 112]⟩ [a0.Width, a0.Height]) fun r1 =>
 if ByteArray.size r1 + ByteArray.size ⟨#[10]⟩ ≤ 9223372036854775807 then
 loop Bi_mapText (.h1 (r1 ++ ⟨#[10]⟩) a0.Terrain ((a0.Terrain.length : Nat) : Int) 0 a0)
 else none
inductive Sslices_Equal_i_Goal where
 | h1 (s10 : (List Gi_Goal)) (s21 : (List Gi_Goal)) (t2 : Int) (t3 : Int)
noncomputable def Bslices_Equal_i_Goal : Sslices_Equal_i_Goal → Option (Sslices_Equal_i_Goal ⊕ (Bool))
 | .h1 s10 s21 t2 t3 =>
  if t3 < t2 then
  if 0 ≤ t3 then
  Option.bind (s10[(Int.toNat t3)]?) fun x3 =>
  if 0 ≤ t3 then
  Option.bind (s21[(Int.toNat t3)]?) fun x5 =>
  if (!((x3.At == x5.At) && (x3.Points == x5.Points))) = true then
  some (.inr false)
  else
  some (.inl (.h1 s10 s21 t2 (IntKind.wrap .i64 (t3 + 1))))
  else none
  else none
  else
  some (.inr true)
noncomputable def Dslices_Equal_i_Goal (a0 : (List Gi_Goal)) (a1 : (List Gi_Goal)) : Option (Bool) :=
 if (((a0.length : Nat) : Int) : Int) = ((a1.length : Nat) : Int) then
 loop Bslices_Equal_i_Goal (.h1 a0 a1 ((a0.length : Nat) : Int) 0)
 else
 some false
inductive Sslices_Equal_int where
 | h1 (s10 : (List Int)) (s21 : (List Int)) (t2 : Int) (t3 : Int)
noncomputable def Bslices_Equal_int : Sslices_Equal_int → Option (Sslices_Equal_int ⊕ (Bool))
 | .h1 s10 s21 t2 t3 =>
  if t3 < t2 then
  if 0 ≤ t3 then
  Option.bind (s10[(Int.toNat t3)]?) fun x3 =>
  if 0 ≤ t3 then
  Option.bind (s21[(Int.toNat t3)]?) fun x5 =>
  if (x3 : Int) = x5 then
  some (.inl (.h1 s10 s21 t2 (IntKind.wrap .i64 (t3 + 1))))
  else
  some (.inr false)
  else none
  else none
  else
  some (.inr true)
noncomputable def Dslices_Equal_int (a0 : (List Int)) (a1 : (List Int)) : Option (Bool) :=
 if (((a0.length : Nat) : Int) : Int) = ((a1.length : Nat) : Int) then
 loop Bslices_Equal_int (.h1 a0 a1 ((a0.length : Nat) : Int) 0)
 else
 some false
noncomputable def Di_compareUnits (a0 : Gi_Unit) (a1 : Gi_Unit) : Option (Int) :=
 if (a0.At : Int) = a1.At then
 if (a0.Kind : Int) = a1.Kind then
 some (IntKind.wrap .i64 (a0.Steps - a1.Steps))
 else
 some (IntKind.wrap .i64 (a0.Kind - a1.Kind))
 else
 some (IntKind.wrap .i64 (a0.At - a1.At))
noncomputable def Di_sortedUnits_1 (a0 : Gi_Unit) (a1 : Gi_Unit) : Option (Int) :=
 if (a0.Side : Int) = a1.Side then
 Option.bind (Di_compareUnits a0 a1) fun r2 =>
 some r2
 else
 some (IntKind.wrap .i64 (a0.Side - a1.Side))
noncomputable def Dslices_SortFunc_i_Unit_i_sortedUnits_1 (a0 : (List Gi_Unit)) : Option (List Gi_Unit) := sortD Di_sortedUnits_1 a0
noncomputable def Di_sortedUnits (a0 : (List Gi_Unit)) : Option ((List Gi_Unit)) :=
 Option.bind (Dslices_Clone_i_Unit a0) fun r1 =>
 Option.bind (Dslices_SortFunc_i_Unit_i_sortedUnits_1 r1) fun r2 =>
 if r2.length = r1.length then
 some r2
 else none
inductive Sslices_Equal_i_Unit where
 | h1 (s10 : (List Gi_Unit)) (s21 : (List Gi_Unit)) (t2 : Int) (t3 : Int)
noncomputable def Bslices_Equal_i_Unit : Sslices_Equal_i_Unit → Option (Sslices_Equal_i_Unit ⊕ (Bool))
 | .h1 s10 s21 t2 t3 =>
  if t3 < t2 then
  if 0 ≤ t3 then
  Option.bind (s10[(Int.toNat t3)]?) fun x3 =>
  if 0 ≤ t3 then
  Option.bind (s21[(Int.toNat t3)]?) fun x5 =>
  if (!((x3.Side == x5.Side) && ((x3.Kind == x5.Kind) && ((x3.At == x5.At) && (x3.Steps == x5.Steps))))) = true then
  some (.inr false)
  else
  some (.inl (.h1 s10 s21 t2 (IntKind.wrap .i64 (t3 + 1))))
  else none
  else none
  else
  some (.inr true)
noncomputable def Dslices_Equal_i_Unit (a0 : (List Gi_Unit)) (a1 : (List Gi_Unit)) : Option (Bool) :=
 if (((a0.length : Nat) : Int) : Int) = ((a1.length : Nat) : Int) then
 loop Bslices_Equal_i_Unit (.h1 a0 a1 ((a0.length : Nat) : Int) 0)
 else
 some false
noncomputable def Di_IsFair (a0 : Gi_Scenario) : Option (Bool × Bool) :=
 Option.bind (Di_IsScenario a0) fun r1 =>
 if r1 = true then
 Option.bind (Di_mirrorScenario a0) fun r3 =>
 Option.bind (Di_swapScenario r3) fun r4 =>
 Option.bind (Di_mapText a0.Board.Map) fun r5 =>
 Option.bind (Di_mapText r4.Board.Map) fun r6 =>
 if r5 = r6 then
 Option.bind (Dslices_Equal_i_Goal a0.Conditions.Goals r4.Conditions.Goals) fun r8 =>
 if r8 = true then
 Option.bind (Dslices_Equal_int a0.First r4.First) fun r10 =>
 if r10 = true then
 Option.bind (Dslices_Equal_int a0.Other r4.Other) fun r12 =>
 if r12 = true then
 Option.bind (Di_sortedUnits a0.Start.Units) fun r14 =>
 Option.bind (Di_sortedUnits r4.Start.Units) fun r15 =>
 Option.bind (Dslices_Equal_i_Unit r14 r15) fun r16 =>
 some (r16, true)
 else
 some (false, true)
 else
 some (false, true)
 else
 some (false, true)
 else
 some (false, true)
 else
 some (false, false)
inductive Sw_eqIntS where
 | h1 (va0 : (List Int)) (b1 : (List Int)) (i2 : Int)
noncomputable def Bw_eqIntS : Sw_eqIntS → Option (Sw_eqIntS ⊕ (Bool))
 | .h1 va0 b1 i2 =>
  if i2 < ((va0.length : Nat) : Int) then
  if 0 ≤ i2 then
  Option.bind (va0[(Int.toNat i2)]?) fun x3 =>
  if 0 ≤ i2 then
  Option.bind (b1[(Int.toNat i2)]?) fun x5 =>
  if (x3 : Int) = x5 then
  some (.inl (.h1 va0 b1 (IntKind.wrap .i64 (i2 + 1))))
  else
  some (.inr false)
  else none
  else none
  else
  some (.inr true)
noncomputable def Dw_eqIntS (a0 : (List Int)) (a1 : (List Int)) : Option (Bool) :=
 if (((a0.length : Nat) : Int) : Int) = ((a1.length : Nat) : Int) then
 loop Bw_eqIntS (.h1 a0 a1 0)
 else
 some false
noncomputable def Dw_eqTerrain (a0 : Gi_Terrain) (a1 : Gi_Terrain) : Option (Bool) :=
 if a0.Name = a1.Name then
 Option.bind (Dw_eqIntS a0.Cost a1.Cost) fun r2 =>
 if r2 = true then
 if (a0.Shift : Int) = a1.Shift then
 if (a0.Height : Int) = a1.Height then
 if (!(a0.Blocks == a1.Blocks)) = true then
 some false
 else
 some true
 else
 some false
 else
 some false
 else
 some false
 else
 some false
inductive Sw_eqTerrainS where
 | h1 (va0 : (List Gi_Terrain)) (b1 : (List Gi_Terrain)) (i2 : Int)
noncomputable def Bw_eqTerrainS : Sw_eqTerrainS → Option (Sw_eqTerrainS ⊕ (Bool))
 | .h1 va0 b1 i2 =>
  if i2 < ((va0.length : Nat) : Int) then
  if 0 ≤ i2 then
  Option.bind (va0[(Int.toNat i2)]?) fun x3 =>
  if 0 ≤ i2 then
  Option.bind (b1[(Int.toNat i2)]?) fun x5 =>
  Option.bind (Dw_eqTerrain x3 x5) fun r6 =>
  if r6 = true then
  some (.inl (.h1 va0 b1 (IntKind.wrap .i64 (i2 + 1))))
  else
  some (.inr false)
  else none
  else none
  else
  some (.inr true)
noncomputable def Dw_eqTerrainS (a0 : (List Gi_Terrain)) (a1 : (List Gi_Terrain)) : Option (Bool) :=
 if (((a0.length : Nat) : Int) : Int) = ((a1.length : Nat) : Int) then
 loop Bw_eqTerrainS (.h1 a0 a1 0)
 else
 some false
noncomputable def Dw_eqKind (a0 : Gi_Kind) (a1 : Gi_Kind) : Option (Bool) :=
 if a0.Name = a1.Name then
 if (a0.Strength : Int) = a1.Strength then
 if (a0.Moves : Int) = a1.Moves then
 if (a0.Steps : Int) = a1.Steps then
 if (!(a0.Zone == a1.Zone)) = true then
 some false
 else
 if (a0.View : Int) = a1.View then
 some true
 else
 some false
 else
 some false
 else
 some false
 else
 some false
 else
 some false
inductive Sw_eqKindS where
 | h1 (va0 : (List Gi_Kind)) (b1 : (List Gi_Kind)) (i2 : Int)
noncomputable def Bw_eqKindS : Sw_eqKindS → Option (Sw_eqKindS ⊕ (Bool))
 | .h1 va0 b1 i2 =>
  if i2 < ((va0.length : Nat) : Int) then
  if 0 ≤ i2 then
  Option.bind (va0[(Int.toNat i2)]?) fun x3 =>
  if 0 ≤ i2 then
  Option.bind (b1[(Int.toNat i2)]?) fun x5 =>
  Option.bind (Dw_eqKind x3 x5) fun r6 =>
  if r6 = true then
  some (.inl (.h1 va0 b1 (IntKind.wrap .i64 (i2 + 1))))
  else
  some (.inr false)
  else none
  else none
  else
  some (.inr true)
noncomputable def Dw_eqKindS (a0 : (List Gi_Kind)) (a1 : (List Gi_Kind)) : Option (Bool) :=
 if (((a0.length : Nat) : Int) : Int) = ((a1.length : Nat) : Int) then
 loop Bw_eqKindS (.h1 a0 a1 0)
 else
 some false
noncomputable def Dw_eqRules (a0 : Gi_Rules) (a1 : Gi_Rules) : Option (Bool) :=
 Option.bind (Dw_eqTerrainS a0.Terrains a1.Terrains) fun r1 =>
 if r1 = true then
 Option.bind (Dw_eqKindS a0.Kinds a1.Kinds) fun r3 =>
 if r3 = true then
 if (a0.Stack : Int) = a1.Stack then
 if (a0.River : Int) = a1.River then
 if (a0.Road : Int) = a1.Road then
 if (a0.Supply : Int) = a1.Supply then
 if (a0.Turns : Int) = a1.Turns then
 some true
 else
 some false
 else
 some false
 else
 some false
 else
 some false
 else
 some false
 else
 some false
 else
 some false
noncomputable def Dw_eqMap (a0 : Gi_Map) (a1 : Gi_Map) : Option (Bool) :=
 if (a0.Width : Int) = a1.Width then
 if (a0.Height : Int) = a1.Height then
 Option.bind (Dw_eqIntS a0.Terrain a1.Terrain) fun r3 =>
 if r3 = true then
 Option.bind (Dw_eqIntS a0.Rivers a1.Rivers) fun r5 =>
 if r5 = true then
 Option.bind (Dw_eqIntS a0.Roads a1.Roads) fun r7 =>
 if r7 = true then
 some true
 else
 some false
 else
 some false
 else
 some false
 else
 some false
 else
 some false
noncomputable def Dw_eqBoard (a0 : Gi_Board) (a1 : Gi_Board) : Option (Bool) :=
 Option.bind (Dw_eqRules a0.Rules a1.Rules) fun r1 =>
 if r1 = true then
 Option.bind (Dw_eqMap a0.Map a1.Map) fun r3 =>
 if r3 = true then
 some true
 else
 some false
 else
 some false
noncomputable def Dw_eqOdds (a0 : Gi_Odds) (a1 : Gi_Odds) : Option (Bool) :=
 if (a0.Num : Int) = a1.Num then
 if (a0.Den : Int) = a1.Den then
 some true
 else
 some false
 else
 some false
inductive Sw_eqOddsS where
 | h1 (va0 : (List Gi_Odds)) (b1 : (List Gi_Odds)) (i2 : Int)
noncomputable def Bw_eqOddsS : Sw_eqOddsS → Option (Sw_eqOddsS ⊕ (Bool))
 | .h1 va0 b1 i2 =>
  if i2 < ((va0.length : Nat) : Int) then
  if 0 ≤ i2 then
  Option.bind (va0[(Int.toNat i2)]?) fun x3 =>
  if 0 ≤ i2 then
  Option.bind (b1[(Int.toNat i2)]?) fun x5 =>
  Option.bind (Dw_eqOdds x3 x5) fun r6 =>
  if r6 = true then
  some (.inl (.h1 va0 b1 (IntKind.wrap .i64 (i2 + 1))))
  else
  some (.inr false)
  else none
  else none
  else
  some (.inr true)
noncomputable def Dw_eqOddsS (a0 : (List Gi_Odds)) (a1 : (List Gi_Odds)) : Option (Bool) :=
 if (((a0.length : Nat) : Int) : Int) = ((a1.length : Nat) : Int) then
 loop Bw_eqOddsS (.h1 a0 a1 0)
 else
 some false
inductive Sw_eqIntSS where
 | h1 (va0 : (List (List Int))) (b1 : (List (List Int))) (i2 : Int)
noncomputable def Bw_eqIntSS : Sw_eqIntSS → Option (Sw_eqIntSS ⊕ (Bool))
 | .h1 va0 b1 i2 =>
  if i2 < ((va0.length : Nat) : Int) then
  if 0 ≤ i2 then
  Option.bind (va0[(Int.toNat i2)]?) fun x3 =>
  if 0 ≤ i2 then
  Option.bind (b1[(Int.toNat i2)]?) fun x5 =>
  Option.bind (Dw_eqIntS x3 x5) fun r6 =>
  if r6 = true then
  some (.inl (.h1 va0 b1 (IntKind.wrap .i64 (i2 + 1))))
  else
  some (.inr false)
  else none
  else none
  else
  some (.inr true)
noncomputable def Dw_eqIntSS (a0 : (List (List Int))) (a1 : (List (List Int))) : Option (Bool) :=
 if (((a0.length : Nat) : Int) : Int) = ((a1.length : Nat) : Int) then
 loop Bw_eqIntSS (.h1 a0 a1 0)
 else
 some false
noncomputable def Dw_eqCombatTable (a0 : Gi_CombatTable) (a1 : Gi_CombatTable) : Option (Bool) :=
 Option.bind (Dw_eqOddsS a0.Columns a1.Columns) fun r1 =>
 if r1 = true then
 if (a0.Dice : Int) = a1.Dice then
 Option.bind (Dw_eqIntSS a0.Results a1.Results) fun r4 =>
 if r4 = true then
 some true
 else
 some false
 else
 some false
 else
 some false
noncomputable def Dw_eqUnit (a0 : Gi_Unit) (a1 : Gi_Unit) : Option (Bool) :=
 if (a0.Side : Int) = a1.Side then
 if (a0.Kind : Int) = a1.Kind then
 if (a0.At : Int) = a1.At then
 if (a0.Steps : Int) = a1.Steps then
 some true
 else
 some false
 else
 some false
 else
 some false
 else
 some false
inductive Sw_eqUnitS where
 | h1 (va0 : (List Gi_Unit)) (b1 : (List Gi_Unit)) (i2 : Int)
noncomputable def Bw_eqUnitS : Sw_eqUnitS → Option (Sw_eqUnitS ⊕ (Bool))
 | .h1 va0 b1 i2 =>
  if i2 < ((va0.length : Nat) : Int) then
  if 0 ≤ i2 then
  Option.bind (va0[(Int.toNat i2)]?) fun x3 =>
  if 0 ≤ i2 then
  Option.bind (b1[(Int.toNat i2)]?) fun x5 =>
  Option.bind (Dw_eqUnit x3 x5) fun r6 =>
  if r6 = true then
  some (.inl (.h1 va0 b1 (IntKind.wrap .i64 (i2 + 1))))
  else
  some (.inr false)
  else none
  else none
  else
  some (.inr true)
noncomputable def Dw_eqUnitS (a0 : (List Gi_Unit)) (a1 : (List Gi_Unit)) : Option (Bool) :=
 if (((a0.length : Nat) : Int) : Int) = ((a1.length : Nat) : Int) then
 loop Bw_eqUnitS (.h1 a0 a1 0)
 else
 some false
noncomputable def Dw_eqState (a0 : Gi_State) (a1 : Gi_State) : Option (Bool) :=
 if (a0.Turn : Int) = a1.Turn then
 if (a0.Weather : Int) = a1.Weather then
 Option.bind (Dw_eqUnitS a0.Units a1.Units) fun r3 =>
 if r3 = true then
 some true
 else
 some false
 else
 some false
 else
 some false
noncomputable def Dw_eqGoal (a0 : Gi_Goal) (a1 : Gi_Goal) : Option (Bool) :=
 if (a0.At : Int) = a1.At then
 if (a0.Points : Int) = a1.Points then
 some true
 else
 some false
 else
 some false
inductive Sw_eqGoalS where
 | h1 (va0 : (List Gi_Goal)) (b1 : (List Gi_Goal)) (i2 : Int)
noncomputable def Bw_eqGoalS : Sw_eqGoalS → Option (Sw_eqGoalS ⊕ (Bool))
 | .h1 va0 b1 i2 =>
  if i2 < ((va0.length : Nat) : Int) then
  if 0 ≤ i2 then
  Option.bind (va0[(Int.toNat i2)]?) fun x3 =>
  if 0 ≤ i2 then
  Option.bind (b1[(Int.toNat i2)]?) fun x5 =>
  Option.bind (Dw_eqGoal x3 x5) fun r6 =>
  if r6 = true then
  some (.inl (.h1 va0 b1 (IntKind.wrap .i64 (i2 + 1))))
  else
  some (.inr false)
  else none
  else none
  else
  some (.inr true)
noncomputable def Dw_eqGoalS (a0 : (List Gi_Goal)) (a1 : (List Gi_Goal)) : Option (Bool) :=
 if (((a0.length : Nat) : Int) : Int) = ((a1.length : Nat) : Int) then
 loop Bw_eqGoalS (.h1 a0 a1 0)
 else
 some false
noncomputable def Dw_eqConditions (a0 : Gi_Conditions) (a1 : Gi_Conditions) : Option (Bool) :=
 Option.bind (Dw_eqGoalS a0.Goals a1.Goals) fun r1 =>
 if r1 = true then
 if (a0.Step : Int) = a1.Step then
 if (a0.Margin : Int) = a1.Margin then
 some true
 else
 some false
 else
 some false
 else
 some false
noncomputable def Dw_eqScenario (a0 : Gi_Scenario) (a1 : Gi_Scenario) : Option (Bool) :=
 if a0.Name = a1.Name then
 Option.bind (Dw_eqBoard a0.Board a1.Board) fun r2 =>
 if r2 = true then
 Option.bind (Dw_eqCombatTable a0.Table a1.Table) fun r4 =>
 if r4 = true then
 Option.bind (Dw_eqState a0.Start a1.Start) fun r6 =>
 if r6 = true then
 Option.bind (Dw_eqConditions a0.Conditions a1.Conditions) fun r8 =>
 if r8 = true then
 Option.bind (Dw_eqIntS a0.First a1.First) fun r10 =>
 if r10 = true then
 Option.bind (Dw_eqIntS a0.Other a1.Other) fun r12 =>
 if r12 = true then
 some true
 else
 some false
 else
 some false
 else
 some false
 else
 some false
 else
 some false
 else
 some false
 else
 some false
noncomputable def Dw_FnExactIsFair (a0 : Gw_Scenario) : Option (Bool) :=
 Option.bind (Dw_szScenario a0 1048576) fun r1 =>
 if r1 < 0 then
 some true
 else
 Option.bind (Dw_toScenario a0) fun r3 =>
 Option.bind (Ds_IsFair r3) fun r4 =>
 Option.bind (Dw_toScenario a0) fun r5 =>
 Option.bind (Di_IsFair r5) fun r6 =>
 if (!(r6.1 == r4.1)) = true then
 some false
 else
 if (!(r6.2 == r4.2)) = true then
 some false
 else
 Option.bind (Dw_toScenario a0) fun r9 =>
 Option.bind (Dw_eqScenario r5 r9) fun r10 =>
 if r10 = true then
 some true
 else
 some false
end Go.Proofs.YtogomlkoocbhcaaGreatDoor.Ab
