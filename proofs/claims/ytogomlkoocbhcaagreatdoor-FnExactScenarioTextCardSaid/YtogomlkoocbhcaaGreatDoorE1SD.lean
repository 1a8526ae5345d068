/- Part of the proof of FnExactScenarioTextCard: no condition of its own. -/
import Derived.Test.YtogomlkoocbhcaaGreatDoorAb4
set_option linter.unusedVariables false
set_option linter.unusedSimpArgs false
open Go
namespace Go.Proofs.YtogomlkoocbhcaaGreatDoor.Ab
structure Gw_Terrain where
 mk ::
 Name : ByteArray
 Cost : (List Int)
 Shift : Int
 Height : Int
 Blocks : Bool
def gw_Terrain (x : Gw_Terrain) : D := .agg [.str x.Name, sl 1 I x.Cost, I x.Shift, I x.Height, .bool x.Blocks]
structure Gw_Kind where
 mk ::
 Name : ByteArray
 Strength : Int
 Moves : Int
 Steps : Int
 Zone : Bool
 View : Int
def gw_Kind (x : Gw_Kind) : D := .agg [.str x.Name, I x.Strength, I x.Moves, I x.Steps, .bool x.Zone, I x.View]
structure Gw_Rules where
 mk ::
 Terrains : (List Gw_Terrain)
 Kinds : (List Gw_Kind)
 Stack : Int
 River : Int
 Road : Int
 Supply : Int
 Turns : Int
def gw_Rules (x : Gw_Rules) : D := .agg [sl 5 gw_Terrain x.Terrains, sl 6 gw_Kind x.Kinds, I x.Stack, I x.River, I x.Road, I x.Supply, I x.Turns]
structure Gw_Map where
 mk ::
 Width : Int
 Height : Int
 Terrain : (List Int)
 Rivers : (List Int)
 Roads : (List Int)
def gw_Map (x : Gw_Map) : D := .agg [I x.Width, I x.Height, sl 1 I x.Terrain, sl 1 I x.Rivers, sl 1 I x.Roads]
structure Gw_Board where
 mk ::
 Rules : Gw_Rules
 Map : Gw_Map
def gw_Board (x : Gw_Board) : D := .agg [sl 5 gw_Terrain x.Rules.Terrains, sl 6 gw_Kind x.Rules.Kinds, I x.Rules.Stack, I x.Rules.River, I x.Rules.Road, I x.Rules.Supply, I x.Rules.Turns, I x.Map.Width, I x.Map.Height, sl 1 I x.Map.Terrain, sl 1 I x.Map.Rivers, sl 1 I x.Map.Roads]
structure Gw_Odds where
 mk ::
 Num : Int
 Den : Int
def gw_Odds (x : Gw_Odds) : D := .agg [I x.Num, I x.Den]
structure Gw_CombatTable where
 mk ::
 Columns : (List Gw_Odds)
 Dice : Int
 Results : (List (List Int))
def gw_CombatTable (x : Gw_CombatTable) : D := .agg [sl 2 gw_Odds x.Columns, I x.Dice, sl 1 (sl 1 I) x.Results]
structure Gw_Unit where
 mk ::
 Side : Int
 Kind : Int
 At : Int
 Steps : Int
def gw_Unit (x : Gw_Unit) : D := .agg [I x.Side, I x.Kind, I x.At, I x.Steps]
structure Gw_State where
 mk ::
 Turn : Int
 Weather : Int
 Units : (List Gw_Unit)
def gw_State (x : Gw_State) : D := .agg [I x.Turn, I x.Weather, sl 4 gw_Unit x.Units]
structure Gw_Goal where
 mk ::
 At : Int
 Points : Int
def gw_Goal (x : Gw_Goal) : D := .agg [I x.At, I x.Points]
structure Gw_Conditions where
 mk ::
 Goals : (List Gw_Goal)
 Step : Int
 Margin : Int
def gw_Conditions (x : Gw_Conditions) : D := .agg [sl 2 gw_Goal x.Goals, I x.Step, I x.Margin]
structure Gw_Scenario where
 mk ::
 Name : ByteArray
 Board : Gw_Board
 Table : Gw_CombatTable
 Start : Gw_State
 Conditions : Gw_Conditions
 First : (List Int)
 Other : (List Int)
def gw_Scenario (x : Gw_Scenario) : D := .agg [.str x.Name, sl 5 gw_Terrain x.Board.Rules.Terrains, sl 6 gw_Kind x.Board.Rules.Kinds, I x.Board.Rules.Stack, I x.Board.Rules.River, I x.Board.Rules.Road, I x.Board.Rules.Supply, I x.Board.Rules.Turns, I x.Board.Map.Width, I x.Board.Map.Height, sl 1 I x.Board.Map.Terrain, sl 1 I x.Board.Map.Rivers, sl 1 I x.Board.Map.Roads, sl 2 gw_Odds x.Table.Columns, I x.Table.Dice, sl 1 (sl 1 I) x.Table.Results, I x.Start.Turn, I x.Start.Weather, sl 4 gw_Unit x.Start.Units, sl 2 gw_Goal x.Conditions.Goals, I x.Conditions.Step, I x.Conditions.Margin, sl 1 I x.First, sl 1 I x.Other]
structure Gi_Terrain where
 mk ::
 Name : ByteArray
 Cost : (List Int)
 Shift : Int
 Height : Int
 Blocks : Bool
def gi_Terrain (x : Gi_Terrain) : D := .agg [.str x.Name, sl 1 I x.Cost, I x.Shift, I x.Height, .bool x.Blocks]
def goi_Terrain (x : Gi_Terrain) : D := .agg [.str x.Name, ow 1 I x.Cost, I x.Shift, I x.Height, .bool x.Blocks]
structure Gi_Kind where
 mk ::
 Name : ByteArray
 Strength : Int
 Moves : Int
 Steps : Int
 Zone : Bool
 View : Int
def gi_Kind (x : Gi_Kind) : D := .agg [.str x.Name, I x.Strength, I x.Moves, I x.Steps, .bool x.Zone, I x.View]
structure Gi_Rules where
 mk ::
 Terrains : (List Gi_Terrain)
 Kinds : (List Gi_Kind)
 Stack : Int
 River : Int
 Road : Int
 Supply : Int
 Turns : Int
def gi_Rules (x : Gi_Rules) : D := .agg [sl 5 gi_Terrain x.Terrains, sl 6 gi_Kind x.Kinds, I x.Stack, I x.River, I x.Road, I x.Supply, I x.Turns]
structure Gi_Map where
 mk ::
 Width : Int
 Height : Int
 Terrain : (List Int)
 Rivers : (List Int)
 Roads : (List Int)
def gi_Map (x : Gi_Map) : D := .agg [I x.Width, I x.Height, sl 1 I x.Terrain, sl 1 I x.Rivers, sl 1 I x.Roads]
structure Gi_Board where
 mk ::
 Rules : Gi_Rules
 Map : Gi_Map
def gi_Board (x : Gi_Board) : D := .agg [sl 5 gi_Terrain x.Rules.Terrains, sl 6 gi_Kind x.Rules.Kinds, I x.Rules.Stack, I x.Rules.River, I x.Rules.Road, I x.Rules.Supply, I x.Rules.Turns, I x.Map.Width, I x.Map.Height, sl 1 I x.Map.Terrain, sl 1 I x.Map.Rivers, sl 1 I x.Map.Roads]
structure Gi_Odds where
 mk ::
 Num : Int
 Den : Int
def gi_Odds (x : Gi_Odds) : D := .agg [I x.Num, I x.Den]
structure Gi_CombatTable where
 mk ::
 Columns : (List Gi_Odds)
 Dice : Int
 Results : (List (List Int))
def gi_CombatTable (x : Gi_CombatTable) : D := .agg [sl 2 gi_Odds x.Columns, I x.Dice, sl 1 (sl 1 I) x.Results]
structure Gi_Unit where
 mk ::
 Side : Int
 Kind : Int
 At : Int
 Steps : Int
def gi_Unit (x : Gi_Unit) : D := .agg [I x.Side, I x.Kind, I x.At, I x.Steps]
structure Gi_State where
 mk ::
 Turn : Int
 Weather : Int
 Units : (List Gi_Unit)
def gi_State (x : Gi_State) : D := .agg [I x.Turn, I x.Weather, sl 4 gi_Unit x.Units]
structure Gi_Goal where
 mk ::
 At : Int
 Points : Int
def gi_Goal (x : Gi_Goal) : D := .agg [I x.At, I x.Points]
structure Gi_Conditions where
 mk ::
 Goals : (List Gi_Goal)
 Step : Int
 Margin : Int
def gi_Conditions (x : Gi_Conditions) : D := .agg [sl 2 gi_Goal x.Goals, I x.Step, I x.Margin]
structure Gi_Scenario where
 mk ::
 Name : ByteArray
 Board : Gi_Board
 Table : Gi_CombatTable
 Start : Gi_State
 Conditions : Gi_Conditions
 First : (List Int)
 Other : (List Int)
def gi_Scenario (x : Gi_Scenario) : D := .agg [.str x.Name, sl 5 gi_Terrain x.Board.Rules.Terrains, sl 6 gi_Kind x.Board.Rules.Kinds, I x.Board.Rules.Stack, I x.Board.Rules.River, I x.Board.Rules.Road, I x.Board.Rules.Supply, I x.Board.Rules.Turns, I x.Board.Map.Width, I x.Board.Map.Height, sl 1 I x.Board.Map.Terrain, sl 1 I x.Board.Map.Rivers, sl 1 I x.Board.Map.Roads, sl 2 gi_Odds x.Table.Columns, I x.Table.Dice, sl 1 (sl 1 I) x.Table.Results, I x.Start.Turn, I x.Start.Weather, sl 4 gi_Unit x.Start.Units, sl 2 gi_Goal x.Conditions.Goals, I x.Conditions.Step, I x.Conditions.Margin, sl 1 I x.First, sl 1 I x.Other]
structure Gi_Hex where
 mk ::
 Q : Int
 R : Int
def gi_Hex (x : Gi_Hex) : D := .agg [I x.Q, I x.R]
structure GA2I where
 mk ::
 c0 : Int
 c1 : Int
def gA2I (x : GA2I) : D := .agg [I x.c0, I x.c1]
structure GA5I where
 mk ::
 c0 : Int
 c1 : Int
 c2 : Int
 c3 : Int
 c4 : Int
def gA5I (x : GA5I) : D := .agg [I x.c0, I x.c1, I x.c2, I x.c3, I x.c4]
structure GA5S where
 mk ::
 c0 : ByteArray
 c1 : ByteArray
 c2 : ByteArray
 c3 : ByteArray
 c4 : ByteArray
def gA5S (x : GA5S) : D := .agg [.str x.c0, .str x.c1, .str x.c2, .str x.c3, .str x.c4]
structure GA6i_Hex where
 mk ::
 c0 : Gi_Hex
 c1 : Gi_Hex
 c2 : Gi_Hex
 c3 : Gi_Hex
 c4 : Gi_Hex
 c5 : Gi_Hex
def gA6i_Hex (x : GA6i_Hex) : D := .agg [I x.c0.Q, I x.c0.R, I x.c1.Q, I x.c1.R, I x.c2.Q, I x.c2.R, I x.c3.Q, I x.c3.R, I x.c4.Q, I x.c4.R, I x.c5.Q, I x.c5.R]
def gv100 : List ByteArray := [⟨#[115, 116, 97, 99, 107]⟩, ⟨#[114, 105, 118, 101, 114]⟩, ⟨#[114, 111, 97, 100]⟩, ⟨#[115, 117, 112, 112, 108, 121]⟩, ⟨#[116, 117, 114, 110, 115]⟩]
def gc100 : List D := [.agg (gv100.flatMap fun y => (D.str y).cells)]
def gv0 : List Gi_Hex := [⟨1, 0⟩, ⟨1, (-1)⟩, ⟨0, (-1)⟩, ⟨(-1), 0⟩, ⟨(-1), 1⟩, ⟨0, 1⟩]
def gc0 : List D := [.agg (gv0.flatMap fun y => (gi_Hex y).cells)]
def gv102 : List Int := [1, 10, 100, 1000, 10000, 100000, 1000000, 10000000, 100000000, 1000000000, 10000000000, 100000000000, 1000000000000, 10000000000000, 100000000000000, 1000000000000000, 10000000000000000, 100000000000000000, 1000000000000000000, 10000000000000000000]
def gc102 : List D := [.agg (gv102.flatMap fun y => ((D.int .u64) y).cells)]
noncomputable def Dw_szIntS (a0 : (List Int)) (a1 : Int) : Option (Int) :=
 if (IntKind.wrap .i64 (a1 - ((a0.length : Nat) : Int))) < 0 then
 some (-1)
 else
 some (IntKind.wrap .i64 (a1 - ((a0.length : Nat) : Int)))
noncomputable def Dw_szTerrain (a0 : Gw_Terrain) (a1 : Int) : Option (Int) :=
 if (IntKind.wrap .i64 (a1 - ((ByteArray.size a0.Name : Nat) : Int))) < 0 then
 some (-1)
 else
 Option.bind (Dw_szIntS a0.Cost (IntKind.wrap .i64 (a1 - ((ByteArray.size a0.Name : Nat) : Int)))) fun r2 =>
 if r2 < 0 then
 some (-1)
 else
 some r2
inductive Sw_szTerrainS where
 | h1 (va0 : (List Gw_Terrain)) (left1 : Int) (i2 : Int)
noncomputable def Bw_szTerrainS : Sw_szTerrainS → Option (Sw_szTerrainS ⊕ (Int))
 | .h1 va0 left1 i2 =>
  if i2 < ((va0.length : Nat) : Int) then
  if 0 ≤ i2 then
  Option.bind (va0[(Int.toNat i2)]?) fun x3 =>
  Option.bind (Dw_szTerrain x3 left1) fun r4 =>
  if r4 < 0 then
  some (.inr (-1))
  else
  some (.inl (.h1 va0 r4 (IntKind.wrap .i64 (i2 + 1))))
  else none
  else
  some (.inr left1)
noncomputable def Dw_szTerrainS (a0 : (List Gw_Terrain)) (a1 : Int) : Option (Int) :=
 if (IntKind.wrap .i64 (a1 - ((a0.length : Nat) : Int))) < 0 then
 some (-1)
 else
 loop Bw_szTerrainS (.h1 a0 (IntKind.wrap .i64 (a1 - ((a0.length : Nat) : Int))) 0)
noncomputable def Dw_szKind (a0 : Gw_Kind) (a1 : Int) : Option (Int) :=
 if (IntKind.wrap .i64 (a1 - ((ByteArray.size a0.Name : Nat) : Int))) < 0 then
 some (-1)
 else
 some (IntKind.wrap .i64 (a1 - ((ByteArray.size a0.Name : Nat) : Int)))
inductive Sw_szKindS where
 | h1 (va0 : (List Gw_Kind)) (left1 : Int) (i2 : Int)
noncomputable def Bw_szKindS : Sw_szKindS → Option (Sw_szKindS ⊕ (Int))
 | .h1 va0 left1 i2 =>
  if i2 < ((va0.length : Nat) : Int) then
  if 0 ≤ i2 then
  Option.bind (va0[(Int.toNat i2)]?) fun x3 =>
  Option.bind (Dw_szKind x3 left1) fun r4 =>
  if r4 < 0 then
  some (.inr (-1))
  else
  some (.inl (.h1 va0 r4 (IntKind.wrap .i64 (i2 + 1))))
  else none
  else
  some (.inr left1)
noncomputable def Dw_szKindS (a0 : (List Gw_Kind)) (a1 : Int) : Option (Int) :=
 if (IntKind.wrap .i64 (a1 - ((a0.length : Nat) : Int))) < 0 then
 some (-1)
 else
 loop Bw_szKindS (.h1 a0 (IntKind.wrap .i64 (a1 - ((a0.length : Nat) : Int))) 0)
noncomputable def Dw_szRules (a0 : Gw_Rules) (a1 : Int) : Option (Int) :=
 Option.bind (Dw_szTerrainS a0.Terrains a1) fun r1 =>
 if r1 < 0 then
 some (-1)
 else
 Option.bind (Dw_szKindS a0.Kinds r1) fun r3 =>
 if r3 < 0 then
 some (-1)
 else
 some r3
noncomputable def Dw_szMap (a0 : Gw_Map) (a1 : Int) : Option (Int) :=
 Option.bind (Dw_szIntS a0.Terrain a1) fun r1 =>
 if r1 < 0 then
 some (-1)
 else
 Option.bind (Dw_szIntS a0.Rivers r1) fun r3 =>
 if r3 < 0 then
 some (-1)
 else
 Option.bind (Dw_szIntS a0.Roads r3) fun r5 =>
 if r5 < 0 then
 some (-1)
 else
 some r5
noncomputable def Dw_szBoard (a0 : Gw_Board) (a1 : Int) : Option (Int) :=
 Option.bind (Dw_szRules a0.Rules a1) fun r1 =>
 if r1 < 0 then
 some (-1)
 else
 Option.bind (Dw_szMap a0.Map r1) fun r3 =>
 if r3 < 0 then
 some (-1)
 else
 some r3
noncomputable def Dw_szOddsS (a0 : (List Gw_Odds)) (a1 : Int) : Option (Int) :=
 if (IntKind.wrap .i64 (a1 - ((a0.length : Nat) : Int))) < 0 then
 some (-1)
 else
 some (IntKind.wrap .i64 (a1 - ((a0.length : Nat) : Int)))
inductive Sw_szIntSS where
 | h1 (va0 : (List (List Int))) (left1 : Int) (i2 : Int)
noncomputable def Bw_szIntSS : Sw_szIntSS → Option (Sw_szIntSS ⊕ (Int))
 | .h1 va0 left1 i2 =>
  if i2 < ((va0.length : Nat) : Int) then
  if 0 ≤ i2 then
  Option.bind (va0[(Int.toNat i2)]?) fun x3 =>
  Option.bind (Dw_szIntS x3 left1) fun r4 =>
  if r4 < 0 then
  some (.inr (-1))
  else
  some (.inl (.h1 va0 r4 (IntKind.wrap .i64 (i2 + 1))))
  else none
  else
  some (.inr left1)
noncomputable def Dw_szIntSS (a0 : (List (List Int))) (a1 : Int) : Option (Int) :=
 if (IntKind.wrap .i64 (a1 - ((a0.length : Nat) : Int))) < 0 then
 some (-1)
 else
 loop Bw_szIntSS (.h1 a0 (IntKind.wrap .i64 (a1 - ((a0.length : Nat) : Int))) 0)
noncomputable def Dw_szCombatTable (a0 : Gw_CombatTable) (a1 : Int) : Option (Int) :=
 Option.bind (Dw_szOddsS a0.Columns a1) fun r1 =>
 if r1 < 0 then
 some (-1)
 else
 Option.bind (Dw_szIntSS a0.Results r1) fun r3 =>
 if r3 < 0 then
 some (-1)
 else
 some r3
noncomputable def Dw_szUnitS (a0 : (List Gw_Unit)) (a1 : Int) : Option (Int) :=
 if (IntKind.wrap .i64 (a1 - ((a0.length : Nat) : Int))) < 0 then
 some (-1)
 else
 some (IntKind.wrap .i64 (a1 - ((a0.length : Nat) : Int)))
noncomputable def Dw_szState (a0 : Gw_State) (a1 : Int) : Option (Int) :=
 Option.bind (Dw_szUnitS a0.Units a1) fun r1 =>
 if r1 < 0 then
 some (-1)
 else
 some r1
noncomputable def Dw_szGoalS (a0 : (List Gw_Goal)) (a1 : Int) : Option (Int) :=
 if (IntKind.wrap .i64 (a1 - ((a0.length : Nat) : Int))) < 0 then
 some (-1)
 else
 some (IntKind.wrap .i64 (a1 - ((a0.length : Nat) : Int)))
noncomputable def Dw_szConditions (a0 : Gw_Conditions) (a1 : Int) : Option (Int) :=
 Option.bind (Dw_szGoalS a0.Goals a1) fun r1 =>
 if r1 < 0 then
 some (-1)
 else
 some r1
noncomputable def Dw_szScenario (a0 : Gw_Scenario) (a1 : Int) : Option (Int) :=
 if (IntKind.wrap .i64 (a1 - ((ByteArray.size a0.Name : Nat) : Int))) < 0 then
 some (-1)
 else
 Option.bind (Dw_szBoard a0.Board (IntKind.wrap .i64 (a1 - ((ByteArray.size a0.Name : Nat) : Int)))) fun r2 =>
 if r2 < 0 then
 some (-1)
 else
 Option.bind (Dw_szCombatTable a0.Table r2) fun r4 =>
 if r4 < 0 then
 some (-1)
 else
 Option.bind (Dw_szState a0.Start r4) fun r6 =>
 if r6 < 0 then
 some (-1)
 else
 Option.bind (Dw_szConditions a0.Conditions r6) fun r8 =>
 if r8 < 0 then
 some (-1)
 else
 Option.bind (Dw_szIntS a0.First r8) fun r10 =>
 if r10 < 0 then
 some (-1)
 else
 Option.bind (Dw_szIntS a0.Other r10) fun r12 =>
 if r12 < 0 then
 some (-1)
 else
 some r12
inductive Sw_toIntS where
 | h1 (va0 : (List Int)) (i1 : Int) (l2 : (List Int))
noncomputable def Bw_toIntS : Sw_toIntS → Option (Sw_toIntS ⊕ ((List Int)))
 | .h1 va0 i1 l2 =>
  if i1 < ((va0.length : Nat) : Int) then
  if 0 ≤ i1 then
  Option.bind (va0[(Int.toNat i1)]?) fun x3 =>
  if 0 ≤ i1 then
  Option.bind (l2[(Int.toNat i1)]?) fun x5 =>
  some (.inl (.h1 va0 (IntKind.wrap .i64 (i1 + 1)) (List.set l2 (Int.toNat i1) x3)))
  else none
  else none
  else
  some (.inr l2)
noncomputable def Dw_toIntS (a0 : (List Int)) : Option ((List Int)) :=
 if Int.toNat ((a0.length : Nat) : Int) * 8 ≤ 140737488355328 then
 loop Bw_toIntS (.h1 a0 0 (List.replicate (Int.toNat ((a0.length : Nat) : Int)) (0 : Int)))
 else none
noncomputable def Dw_toTerrain (a0 : Gw_Terrain) : Option (Gi_Terrain) :=
 Option.bind (Dw_toIntS a0.Cost) fun r1 =>
 some (Gi_Terrain.mk a0.Name r1 a0.Shift a0.Height a0.Blocks)
inductive Sw_toTerrainS where
 | h1 (va0 : (List Gw_Terrain)) (i1 : Int) (l2 : (List Gi_Terrain))
noncomputable def Bw_toTerrainS : Sw_toTerrainS → Option (Sw_toTerrainS ⊕ ((List Gi_Terrain)))
 | .h1 va0 i1 l2 =>
  if i1 < ((va0.length : Nat) : Int) then
  if 0 ≤ i1 then
  Option.bind (va0[(Int.toNat i1)]?) fun x3 =>
  Option.bind (Dw_toTerrain x3) fun r4 =>
  if 0 ≤ i1 then
  Option.bind (l2[(Int.toNat i1)]?) fun x6 =>
  some (.inl (.h1 va0 (IntKind.wrap .i64 (i1 + 1)) (List.set l2 (Int.toNat i1) r4)))
  else none
  else none
  else
  some (.inr l2)
noncomputable def Dw_toTerrainS (a0 : (List Gw_Terrain)) : Option ((List Gi_Terrain)) :=
 if Int.toNat ((a0.length : Nat) : Int) * 64 ≤ 140737488355328 then
 loop Bw_toTerrainS (.h1 a0 0 (List.replicate (Int.toNat ((a0.length : Nat) : Int)) (Gi_Terrain.mk ⟨#[]⟩ [] 0 0 false)))
 else none
noncomputable def Dw_toKind (a0 : Gw_Kind) : Option (Gi_Kind) :=
 some (Gi_Kind.mk a0.Name a0.Strength a0.Moves a0.Steps a0.Zone a0.View)
inductive Sw_toKindS where
 | h1 (va0 : (List Gw_Kind)) (i1 : Int) (l2 : (List Gi_Kind))
noncomputable def Bw_toKindS : Sw_toKindS → Option (Sw_toKindS ⊕ ((List Gi_Kind)))
 | .h1 va0 i1 l2 =>
  if i1 < ((va0.length : Nat) : Int) then
  if 0 ≤ i1 then
  Option.bind (va0[(Int.toNat i1)]?) fun x3 =>
  Option.bind (Dw_toKind x3) fun r4 =>
  if 0 ≤ i1 then
  Option.bind (l2[(Int.toNat i1)]?) fun x6 =>
  some (.inl (.h1 va0 (IntKind.wrap .i64 (i1 + 1)) (List.set l2 (Int.toNat i1) r4)))
  else none
  else none
  else
  some (.inr l2)
noncomputable def Dw_toKindS (a0 : (List Gw_Kind)) : Option ((List Gi_Kind)) :=
 if Int.toNat ((a0.length : Nat) : Int) * 56 ≤ 140737488355328 then
 loop Bw_toKindS (.h1 a0 0 (List.replicate (Int.toNat ((a0.length : Nat) : Int)) (Gi_Kind.mk ⟨#[]⟩ 0 0 0 false 0)))
 else none
noncomputable def Dw_toRules (a0 : Gw_Rules) : Option (Gi_Rules) :=
 Option.bind (Dw_toTerrainS a0.Terrains) fun r1 =>
 Option.bind (Dw_toKindS a0.Kinds) fun r2 =>
 some (Gi_Rules.mk r1 r2 a0.Stack a0.River a0.Road a0.Supply a0.Turns)
noncomputable def Dw_toMap (a0 : Gw_Map) : Option (Gi_Map) :=
 Option.bind (Dw_toIntS a0.Terrain) fun r1 =>
 Option.bind (Dw_toIntS a0.Rivers) fun r2 =>
 Option.bind (Dw_toIntS a0.Roads) fun r3 =>
 some (Gi_Map.mk a0.Width a0.Height r1 r2 r3)
noncomputable def Dw_toBoard (a0 : Gw_Board) : Option (Gi_Board) :=
 Option.bind (Dw_toRules a0.Rules) fun r1 =>
 Option.bind (Dw_toMap a0.Map) fun r2 =>
 some (Gi_Board.mk r1 r2)
noncomputable def Dw_toOdds (a0 : Gw_Odds) : Option (Gi_Odds) :=
 some (Gi_Odds.mk a0.Num a0.Den)
inductive Sw_toOddsS where
 | h1 (va0 : (List Gw_Odds)) (i1 : Int) (l2 : (List Gi_Odds))
noncomputable def Bw_toOddsS : Sw_toOddsS → Option (Sw_toOddsS ⊕ ((List Gi_Odds)))
 | .h1 va0 i1 l2 =>
  if i1 < ((va0.length : Nat) : Int) then
  if 0 ≤ i1 then
  Option.bind (va0[(Int.toNat i1)]?) fun x3 =>
  Option.bind (Dw_toOdds x3) fun r4 =>
  if 0 ≤ i1 then
  Option.bind (l2[(Int.toNat i1)]?) fun x6 =>
  some (.inl (.h1 va0 (IntKind.wrap .i64 (i1 + 1)) (List.set l2 (Int.toNat i1) r4)))
  else none
  else none
  else
  some (.inr l2)
noncomputable def Dw_toOddsS (a0 : (List Gw_Odds)) : Option ((List Gi_Odds)) :=
 if Int.toNat ((a0.length : Nat) : Int) * 16 ≤ 140737488355328 then
 loop Bw_toOddsS (.h1 a0 0 (List.replicate (Int.toNat ((a0.length : Nat) : Int)) (Gi_Odds.mk 0 0)))
 else none
inductive Sw_toIntSS where
 | h1 (va0 : (List (List Int))) (i1 : Int) (l2 : (List (List Int)))
noncomputable def Bw_toIntSS : Sw_toIntSS → Option (Sw_toIntSS ⊕ ((List (List Int))))
 | .h1 va0 i1 l2 =>
  if i1 < ((va0.length : Nat) : Int) then
  if 0 ≤ i1 then
  Option.bind (va0[(Int.toNat i1)]?) fun x3 =>
  Option.bind (Dw_toIntS x3) fun r4 =>
  if 0 ≤ i1 then
  Option.bind (l2[(Int.toNat i1)]?) fun x6 =>
  some (.inl (.h1 va0 (IntKind.wrap .i64 (i1 + 1)) (List.set l2 (Int.toNat i1) r4)))
  else none
  else none
  else
  some (.inr l2)
noncomputable def Dw_toIntSS (a0 : (List (List Int))) : Option ((List (List Int))) :=
 if Int.toNat ((a0.length : Nat) : Int) * 24 ≤ 140737488355328 then
 loop Bw_toIntSS (.h1 a0 0 (List.replicate (Int.toNat ((a0.length : Nat) : Int)) ([] : (List Int))))
 else none
noncomputable def Dw_toCombatTable (a0 : Gw_CombatTable) : Option (Gi_CombatTable) :=
 Option.bind (Dw_toOddsS a0.Columns) fun r1 =>
 Option.bind (Dw_toIntSS a0.Results) fun r2 =>
 some (Gi_CombatTable.mk r1 a0.Dice r2)
noncomputable def Dw_toUnit (a0 : Gw_Unit) : Option (Gi_Unit) :=
 some (Gi_Unit.mk a0.Side a0.Kind a0.At a0.Steps)
inductive Sw_toUnitS where
 | h1 (va0 : (List Gw_Unit)) (i1 : Int) (l2 : (List Gi_Unit))
noncomputable def Bw_toUnitS : Sw_toUnitS → Option (Sw_toUnitS ⊕ ((List Gi_Unit)))
 | .h1 va0 i1 l2 =>
  if i1 < ((va0.length : Nat) : Int) then
  if 0 ≤ i1 then
  Option.bind (va0[(Int.toNat i1)]?) fun x3 =>
  Option.bind (Dw_toUnit x3) fun r4 =>
  if 0 ≤ i1 then
  Option.bind (l2[(Int.toNat i1)]?) fun x6 =>
  some (.inl (.h1 va0 (IntKind.wrap .i64 (i1 + 1)) (List.set l2 (Int.toNat i1) r4)))
  else none
  else none
  else
  some (.inr l2)
noncomputable def Dw_toUnitS (a0 : (List Gw_Unit)) : Option ((List Gi_Unit)) :=
 if Int.toNat ((a0.length : Nat) : Int) * 32 ≤ 140737488355328 then
 loop Bw_toUnitS (.h1 a0 0 (List.replicate (Int.toNat ((a0.length : Nat) : Int)) (Gi_Unit.mk 0 0 0 0)))
 else none
noncomputable def Dw_toState (a0 : Gw_State) : Option (Gi_State) :=
 Option.bind (Dw_toUnitS a0.Units) fun r1 =>
 some (Gi_State.mk a0.Turn a0.Weather r1)
noncomputable def Dw_toGoal (a0 : Gw_Goal) : Option (Gi_Goal) :=
 some (Gi_Goal.mk a0.At a0.Points)
inductive Sw_toGoalS where
 | h1 (va0 : (List Gw_Goal)) (i1 : Int) (l2 : (List Gi_Goal))
noncomputable def Bw_toGoalS : Sw_toGoalS → Option (Sw_toGoalS ⊕ ((List Gi_Goal)))
 | .h1 va0 i1 l2 =>
  if i1 < ((va0.length : Nat) : Int) then
  if 0 ≤ i1 then
  Option.bind (va0[(Int.toNat i1)]?) fun x3 =>
  Option.bind (Dw_toGoal x3) fun r4 =>
  if 0 ≤ i1 then
  Option.bind (l2[(Int.toNat i1)]?) fun x6 =>
  some (.inl (.h1 va0 (IntKind.wrap .i64 (i1 + 1)) (List.set l2 (Int.toNat i1) r4)))
  else none
  else none
  else
  some (.inr l2)
noncomputable def Dw_toGoalS (a0 : (List Gw_Goal)) : Option ((List Gi_Goal)) :=
 if Int.toNat ((a0.length : Nat) : Int) * 16 ≤ 140737488355328 then
 loop Bw_toGoalS (.h1 a0 0 (List.replicate (Int.toNat ((a0.length : Nat) : Int)) (Gi_Goal.mk 0 0)))
 else none
noncomputable def Dw_toConditions (a0 : Gw_Conditions) : Option (Gi_Conditions) :=
 Option.bind (Dw_toGoalS a0.Goals) fun r1 =>
 some (Gi_Conditions.mk r1 a0.Step a0.Margin)
noncomputable def Dw_toScenario (a0 : Gw_Scenario) : Option (Gi_Scenario) :=
 Option.bind (Dw_toBoard a0.Board) fun r1 =>
 Option.bind (Dw_toCombatTable a0.Table) fun r2 =>
 Option.bind (Dw_toState a0.Start) fun r3 =>
 Option.bind (Dw_toConditions a0.Conditions) fun r4 =>
 Option.bind (Dw_toIntS a0.First) fun r5 =>
 Option.bind (Dw_toIntS a0.Other) fun r6 =>
 some (Gi_Scenario.mk a0.Name r1 r2 r3 r4 r5 r6)
noncomputable def Ds_l1In (a0 : Int) (a1 : Int) (a2 : Int) : Option (Bool) :=
 if a0 ≥ a1 then
 some (decide (a0 ≤ a2))
 else
 some false
inductive Ss_rName where
 | h1 (s0 : ByteArray) (i1 : Int)
noncomputable def Bs_rName : Ss_rName → Option (Ss_rName ⊕ (Bool))
 | .h1 s0 i1 =>
  if i1 < ((ByteArray.size s0 : Nat) : Int) then
  if 0 ≤ i1 then
  if i1 < (ByteArray.size s0 : Int) then
  if ((byteAt s0 (Int.toNat i1) : Nat) : Int) < 97 then
  some (.inr false)
  else
  if 0 ≤ i1 then
  if i1 < (ByteArray.size s0 : Int) then
  if ((byteAt s0 (Int.toNat i1) : Nat) : Int) > 122 then
  some (.inr false)
  else
  some (.inl (.h1 s0 (IntKind.wrap .i64 (i1 + 1))))
  else none
  else none
  else none
  else none
  else
  Option.bind (Ds_l1In ((ByteArray.size s0 : Nat) : Int) 1 8) fun r2 =>
  some (.inr r2)
noncomputable def Ds_rName (a0 : ByteArray) : Option (Bool) :=
 loop Bs_rName (.h1 a0 0)
inductive Ss_rTerrain where
 | h1 (name0 : ByteArray) (t1 : (List Gi_Terrain)) (t2 : Int) (t3 : Int)
noncomputable def Bs_rTerrain : Ss_rTerrain → Option (Ss_rTerrain ⊕ (Int))
 | .h1 name0 t1 t2 t3 =>
  if t3 < t2 then
  if 0 ≤ t3 then
  Option.bind (t1[(Int.toNat t3)]?) fun x3 =>
  if x3.Name = name0 then
  some (.inr t3)
  else
  some (.inl (.h1 name0 t1 t2 (IntKind.wrap .i64 (t3 + 1))))
  else none
  else
  some (.inr (-1))
noncomputable def Ds_rTerrain (a0 : (List Gi_Terrain)) (a1 : ByteArray) : Option (Int) :=
 loop Bs_rTerrain (.h1 a1 a0 ((a0.length : Nat) : Int) 0)
inductive Ss_l1All where
 | h1 (lo0 : Int) (vhi1 : Int) (t2 : (List Int)) (t3 : Int) (t4 : Int)
noncomputable def Bs_l1All : Ss_l1All → Option (Ss_l1All ⊕ (Bool))
 | .h1 lo0 vhi1 t2 t3 t4 =>
  if t4 < t3 then
  if 0 ≤ t4 then
  Option.bind (t2[(Int.toNat t4)]?) fun x3 =>
  Option.bind (Ds_l1In x3 lo0 vhi1) fun r4 =>
  if r4 = true then
  some (.inl (.h1 lo0 vhi1 t2 t3 (IntKind.wrap .i64 (t4 + 1))))
  else
  some (.inr false)
  else none
  else
  some (.inr true)
noncomputable def Ds_l1All (a0 : (List Int)) (a1 : Int) (a2 : Int) : Option (Bool) :=
 loop Bs_l1All (.h1 a1 a2 a0 ((a0.length : Nat) : Int) 0)
inductive Ss_rKind where
 | h1 (name0 : ByteArray) (t1 : (List Gi_Kind)) (t2 : Int) (t3 : Int)
noncomputable def Bs_rKind : Ss_rKind → Option (Ss_rKind ⊕ (Int))
 | .h1 name0 t1 t2 t3 =>
  if t3 < t2 then
  if 0 ≤ t3 then
  Option.bind (t1[(Int.toNat t3)]?) fun x3 =>
  if x3.Name = name0 then
  some (.inr t3)
  else
  some (.inl (.h1 name0 t1 t2 (IntKind.wrap .i64 (t3 + 1))))
  else none
  else
  some (.inr (-1))
noncomputable def Ds_rKind (a0 : (List Gi_Kind)) (a1 : ByteArray) : Option (Int) :=
 loop Bs_rKind (.h1 a1 a0 ((a0.length : Nat) : Int) 0)
inductive Ss_rGood where
 | h1 (t0 : (List Gi_Terrain)) (t1 : Int) (t2 : Int) (b3 : Gi_Rules)
 | h2 (t0 : (List Gi_Kind)) (t1 : Int) (t2 : Int) (b3 : Gi_Rules)
noncomputable def Bs_rGood : Ss_rGood → Option (Ss_rGood ⊕ (Bool))
 | .h1 t0 t1 t2 b3 =>
  if t2 < t1 then
  if 0 ≤ t2 then
  Option.bind (t0[(Int.toNat t2)]?) fun x3 =>
  Option.bind (Ds_rName x3.Name) fun r4 =>
  if r4 = true then
  Option.bind (Ds_rTerrain b3.Terrains x3.Name) fun r6 =>
  if (r6 : Int) = t2 then
  if (((x3.Cost.length : Nat) : Int) : Int) = ((b3.Kinds.length : Nat) : Int) then
  Option.bind (Ds_l1All x3.Cost 0 9) fun r9 =>
  if r9 = true then
  Option.bind (Ds_l1In x3.Shift (-3) 3) fun r11 =>
  if r11 = true then
  Option.bind (Ds_l1In x3.Height 0 3) fun r13 =>
  if r13 = true then
  some (.inl (.h1 t0 t1 (IntKind.wrap .i64 (t2 + 1)) b3))
  else
  some (.inr false)
  else
  some (.inr false)
  else
  some (.inr false)
  else
  some (.inr false)
  else
  some (.inr false)
  else
  some (.inr false)
  else none
  else
  some (.inl (.h2 b3.Kinds ((b3.Kinds.length : Nat) : Int) 0 b3))
 | .h2 t0 t1 t2 b3 =>
  if t2 < t1 then
  if 0 ≤ t2 then
  Option.bind (t0[(Int.toNat t2)]?) fun x3 =>
  Option.bind (Ds_rName x3.Name) fun r4 =>
  if r4 = true then
  Option.bind (Ds_rKind b3.Kinds x3.Name) fun r6 =>
  if (r6 : Int) = t2 then
  Option.bind (Ds_l1In x3.Strength 1 9) fun r8 =>
  if r8 = true then
  Option.bind (Ds_l1In x3.Moves 0 9) fun r10 =>
  if r10 = true then
  Option.bind (Ds_l1In x3.Steps 1 4) fun r12 =>
  if r12 = true then
  Option.bind (Ds_l1In x3.View 0 4) fun r14 =>
  if r14 = true then
  some (.inl (.h2 t0 t1 (IntKind.wrap .i64 (t2 + 1)) b3))
  else
  some (.inr false)
  else
  some (.inr false)
  else
  some (.inr false)
  else
  some (.inr false)
  else
  some (.inr false)
  else
  some (.inr false)
  else none
  else
  Option.bind (Ds_l1In b3.Stack 1 4) fun r2 =>
  if r2 = true then
  Option.bind (Ds_l1In b3.River 0 9) fun r4 =>
  if r4 = true then
  Option.bind (Ds_l1In b3.Road 1 9) fun r6 =>
  if r6 = true then
  Option.bind (Ds_l1In b3.Supply 0 20) fun r8 =>
  if r8 = true then
  Option.bind (Ds_l1In b3.Turns 1 30) fun r10 =>
  some (.inr r10)
  else
  some (.inr false)
  else
  some (.inr false)
  else
  some (.inr false)
  else
  some (.inr false)
noncomputable def Ds_rGood (a0 : Gi_Rules) : Option (Bool) :=
 Option.bind (Ds_l1In ((a0.Terrains.length : Nat) : Int) 1 6) fun r1 =>
 if r1 = true then
 Option.bind (Ds_l1In ((a0.Kinds.length : Nat) : Int) 1 4) fun r3 =>
 if r3 = true then
 loop Bs_rGood (.h1 a0.Terrains ((a0.Terrains.length : Nat) : Int) 0 a0)
 else
 some false
 else
 some false
noncomputable def Ds_mSize (a0 : Gi_Map) : Option (Int) :=
 some (IntKind.wrap .i64 (a0.Width * a0.Height))
noncomputable def Ds_mHex (a0 : Gi_Map) (a1 : Int) : Option (Gi_Hex) :=
 if ¬ a0.Width = 0 then
 if ¬ a0.Width = 0 then
 some (Gi_Hex.mk (Int.tmod a1 a0.Width) (IntKind.wrap .i64 (Int.tdiv a1 a0.Width)))
 else none
 else none
noncomputable def Ds_hStep (a0 : Gi_Hex) (a1 : Int) : Option (Gi_Hex) :=
 if 0 ≤ a1 then
 Option.bind ([1, 1, 0, (-1), (-1), 0][(Int.toNat a1)]?) fun x2 =>
 if 0 ≤ a1 then
 Option.bind ([0, (-1), (-1), 0, 1, 1][(Int.toNat a1)]?) fun x4 =>
 some (Gi_Hex.mk (IntKind.wrap .i64 (a0.Q + x2)) (IntKind.wrap .i64 (a0.R + x4)))
 else none
 else none
noncomputable def Ds_mIndex (a0 : Gi_Map) (a1 : Gi_Hex) : Option (Int) :=
 Option.bind (Ds_l1In a1.Q 0 (IntKind.wrap .i64 (a0.Width - 1))) fun r1 =>
 if r1 = true then
 Option.bind (Ds_l1In a1.R 0 (IntKind.wrap .i64 (a0.Height - 1))) fun r3 =>
 if r3 = true then
 some (IntKind.wrap .i64 ((IntKind.wrap .i64 (a1.R * a0.Width)) + a1.Q))
 else
 some (-1)
 else
 some (-1)
noncomputable def Ds_mNext (a0 : Gi_Map) (a1 : Int) (a2 : Int) : Option (Int) :=
 Option.bind (Ds_mHex a0 a1) fun r1 =>
 Option.bind (Ds_hStep r1 a2) fun r2 =>
 Option.bind (Ds_mIndex a0 r2) fun r3 =>
 some r3
inductive Ss_l1Rising where
 | h1 (l0 : (List Int)) (lo1 : Int) (vhi2 : Int) (t3 : (List Int)) (t4 : Int) (t5 : Int)
noncomputable def Bs_l1Rising : Ss_l1Rising → Option (Ss_l1Rising ⊕ (Bool))
 | .h1 l0 lo1 vhi2 t3 t4 t5 =>
  if t5 < t4 then
  if 0 ≤ t5 then
  Option.bind (t3[(Int.toNat t5)]?) fun x3 =>
  Option.bind (Ds_l1In x3 lo1 vhi2) fun r4 =>
  if r4 = true then
  if t5 > 0 then
  if 0 ≤ (IntKind.wrap .i64 (t5 - 1)) then
  Option.bind (l0[(Int.toNat (IntKind.wrap .i64 (t5 - 1)))]?) fun x8 =>
  if x8 ≥ x3 then
  some (.inr false)
  else
  some (.inl (.h1 l0 lo1 vhi2 t3 t4 (IntKind.wrap .i64 (t5 + 1))))
  else none
  else
  some (.inl (.h1 l0 lo1 vhi2 t3 t4 (IntKind.wrap .i64 (t5 + 1))))
  else
  some (.inr false)
  else none
  else
  some (.inr true)
noncomputable def Ds_l1Rising (a0 : (List Int)) (a1 : Int) (a2 : Int) : Option (Bool) :=
 loop Bs_l1Rising (.h1 a0 a1 a2 a0 ((a0.length : Nat) : Int) 0)
inductive Ss_mEdges where
 | h1 (l0 : (List Int)) (t1 : (List Int)) (t2 : Int) (t3 : Int) (b4 : Gi_Map)
noncomputable def Bs_mEdges : Ss_mEdges → Option (Ss_mEdges ⊕ (Bool))
 | .h1 l0 t1 t2 t3 b4 =>
  if t3 < t2 then
  if 0 ≤ t3 then
  Option.bind (t1[(Int.toNat t3)]?) fun x3 =>
  Option.bind (Ds_mSize b4) fun r4 =>
  Option.bind (Ds_l1In x3 0 (IntKind.wrap .i64 ((IntKind.wrap .i64 (3 * r4)) - 1))) fun r5 =>
  if r5 = true then
  Option.bind (Ds_mNext b4 (IntKind.wrap .i64 (Int.tdiv x3 3)) (Int.tmod x3 3)) fun r7 =>
  if r7 < 0 then
  some (.inr false)
  else
  some (.inl (.h1 l0 t1 t2 (IntKind.wrap .i64 (t3 + 1)) b4))
  else
  some (.inr false)
  else none
  else
  Option.bind (Ds_mSize b4) fun r2 =>
  Option.bind (Ds_l1Rising l0 0 (IntKind.wrap .i64 ((IntKind.wrap .i64 (3 * r2)) - 1))) fun r3 =>
  some (.inr r3)
noncomputable def Ds_mEdges (a0 : Gi_Map) (a1 : (List Int)) : Option (Bool) :=
 loop Bs_mEdges (.h1 a1 a1 ((a1.length : Nat) : Int) 0 a0)
noncomputable def Ds_mGood (a0 : Gi_Map) : Option (Bool) :=
 Option.bind (Ds_l1In a0.Width 1 10) fun r1 =>
 if r1 = true then
 Option.bind (Ds_l1In a0.Height 1 10) fun r3 =>
 if r3 = true then
 Option.bind (Ds_mSize a0) fun r5 =>
 if (((a0.Terrain.length : Nat) : Int) : Int) = r5 then
 Option.bind (Ds_l1All a0.Terrain 0 5) fun r7 =>
 if r7 = true then
 Option.bind (Ds_mEdges a0 a0.Rivers) fun r9 =>
 if r9 = true then
 Option.bind (Ds_mEdges a0 a0.Roads) fun r11 =>
 some r11
 else
 some false
 else
 some false
 else
 some false
 else
 some false
 else
 some false
noncomputable def Ds_bGood (a0 : Gi_Board) : Option (Bool) :=
 Option.bind (Ds_rGood a0.Rules) fun r1 =>
 if r1 = true then
 Option.bind (Ds_mGood a0.Map) fun r3 =>
 if r3 = true then
 Option.bind (Ds_l1All a0.Map.Terrain 0 (IntKind.wrap .i64 (((a0.Rules.Terrains.length : Nat) : Int) - 1))) fun r5 =>
 some r5
 else
 some false
 else
 some false
noncomputable def Ds_kRows (a0 : Int) : Option (Int) :=
 some (IntKind.wrap .i64 ((IntKind.wrap .i64 (5 * a0)) + 1))
inductive Ss_kGood where
 | h1 (t0 : (List Gi_Odds)) (t1 : Int) (t2 : Int) (b3 : Gi_CombatTable)
 | h2 (t0 : (List (List Int))) (t1 : Int) (t2 : Int) (b3 : Gi_CombatTable)
noncomputable def Bs_kGood : Ss_kGood → Option (Ss_kGood ⊕ (Bool))
 | .h1 t0 t1 t2 b3 =>
  if t2 < t1 then
  if 0 ≤ t2 then
  Option.bind (t0[(Int.toNat t2)]?) fun x3 =>
  Option.bind (Ds_l1In x3.Num 1 20) fun r4 =>
  if r4 = true then
  Option.bind (Ds_l1In x3.Den 1 20) fun r6 =>
  if r6 = true then
  if t2 > 0 then
  if 0 ≤ (IntKind.wrap .i64 (t2 - 1)) then
  Option.bind (b3.Columns[(Int.toNat (IntKind.wrap .i64 (t2 - 1)))]?) fun x10 =>
  if 0 ≤ (IntKind.wrap .i64 (t2 - 1)) then
  Option.bind (b3.Columns[(Int.toNat (IntKind.wrap .i64 (t2 - 1)))]?) fun x12 =>
  if (IntKind.wrap .i64 (x10.Num * x3.Den)) ≥ (IntKind.wrap .i64 (x3.Num * x12.Den)) then
  some (.inr false)
  else
  some (.inl (.h1 t0 t1 (IntKind.wrap .i64 (t2 + 1)) b3))
  else none
  else none
  else
  some (.inl (.h1 t0 t1 (IntKind.wrap .i64 (t2 + 1)) b3))
  else
  some (.inr false)
  else
  some (.inr false)
  else none
  else
  some (.inl (.h2 b3.Results ((b3.Results.length : Nat) : Int) 0 b3))
 | .h2 t0 t1 t2 b3 =>
  if t2 < t1 then
  if 0 ≤ t2 then
  Option.bind (t0[(Int.toNat t2)]?) fun x3 =>
  if (((x3.length : Nat) : Int) : Int) = ((b3.Columns.length : Nat) : Int) then
  Option.bind (Ds_l1All x3 0 7) fun r5 =>
  if r5 = true then
  some (.inl (.h2 t0 t1 (IntKind.wrap .i64 (t2 + 1)) b3))
  else
  some (.inr false)
  else
  some (.inr false)
  else none
  else
  some (.inr true)
noncomputable def Ds_kGood (a0 : Gi_CombatTable) : Option (Bool) :=
 Option.bind (Ds_l1In ((a0.Columns.length : Nat) : Int) 1 8) fun r1 =>
 if r1 = true then
 Option.bind (Ds_l1In a0.Dice 1 2) fun r3 =>
 if r3 = true then
 Option.bind (Ds_kRows a0.Dice) fun r5 =>
 if (((a0.Results.length : Nat) : Int) : Int) = r5 then
 loop Bs_kGood (.h1 a0.Columns ((a0.Columns.length : Nat) : Int) 0 a0)
 else
 some false
 else
 some false
 else
 some false
noncomputable def Ds_bTerrain (a0 : Gi_Board) (a1 : Int) : Option (Gi_Terrain) :=
 if 0 ≤ a1 then
 Option.bind (a0.Map.Terrain[(Int.toNat a1)]?) fun x2 =>
 if 0 ≤ x2 then
 Option.bind (a0.Rules.Terrains[(Int.toNat x2)]?) fun x4 =>
 some x4
 else none
 else none
noncomputable def Ds_bCost (a0 : Gi_Board) (a1 : Int) (a2 : Int) : Option (Int) :=
 Option.bind (Ds_bTerrain a0 a2) fun r1 =>
 if 0 ≤ a1 then
 Option.bind (r1.Cost[(Int.toNat a1)]?) fun x3 =>
 some x3
 else none
noncomputable def Ds_sUnit (a0 : Gi_Board) (a1 : Gi_Unit) : Option (Bool) :=
 Option.bind (Ds_l1In a1.Side 0 1) fun r1 =>
 if r1 = true then
 Option.bind (Ds_l1In a1.Kind 0 (IntKind.wrap .i64 (((a0.Rules.Kinds.length : Nat) : Int) - 1))) fun r3 =>
 if r3 = true then
 if 0 ≤ a1.Kind then
 Option.bind (a0.Rules.Kinds[(Int.toNat a1.Kind)]?) fun x6 =>
 Option.bind (Ds_l1In a1.Steps 0 x6.Steps) fun r7 =>
 if r7 = true then
 if (a1.At : Int) = (-1) then
 some true
 else
 if a1.Steps > 0 then
 Option.bind (Ds_mSize a0.Map) fun r11 =>
 Option.bind (Ds_l1In a1.At 0 (IntKind.wrap .i64 (r11 - 1))) fun r12 =>
 if r12 = true then
 Option.bind (Ds_bCost a0 a1.Kind a1.At) fun r14 =>
 some (decide (r14 > 0))
 else
 some false
 else
 some false
 else
 some false
 else none
 else
 some false
 else
 some false
inductive Ss_sAt where
 | h1 (i0 : Int) (side1 : Int) (t2 : (List Gi_Unit)) (t3 : Int) (t4 : Int) (l5 : (List Int))
noncomputable def Bs_sAt : Ss_sAt → Option (Ss_sAt ⊕ ((List Int)))
 | .h1 i0 side1 t2 t3 t4 l5 =>
  if t4 < t3 then
  if 0 ≤ t4 then
  Option.bind (t2[(Int.toNat t4)]?) fun x3 =>
  if (x3.At : Int) = i0 then
  if (x3.Side : Int) = side1 then
  if (l5 ++ [t4]).length * 8 ≤ 70368744177664 then
  some (.inl (.h1 i0 side1 t2 t3 (IntKind.wrap .i64 (t4 + 1)) (l5 ++ [t4])))
  else none
  else
  some (.inl (.h1 i0 side1 t2 t3 (IntKind.wrap .i64 (t4 + 1)) l5))
  else
  some (.inl (.h1 i0 side1 t2 t3 (IntKind.wrap .i64 (t4 + 1)) l5))
  else none
  else
  some (.inr l5)
noncomputable def Ds_sAt (a0 : Gi_State) (a1 : Int) (a2 : Int) : Option ((List Int)) :=
 loop Bs_sAt (.h1 a1 a2 a0.Units ((a0.Units.length : Nat) : Int) 0 ([] : List Int))
inductive Ss_sGood where
 | h1 (t0 : (List Gi_Unit)) (t1 : Int) (t2 : Int) (b3 : Gi_Board) (b4 : Gi_State)
 | h2 (t0 : (List Gi_Unit)) (t1 : Int) (t2 : Int) (b3 : Gi_Board) (b4 : Gi_State)
noncomputable def Bs_sGood : Ss_sGood → Option (Ss_sGood ⊕ (Bool))
 | .h1 t0 t1 t2 b3 b4 =>
  if t2 < t1 then
  if 0 ≤ t2 then
  Option.bind (t0[(Int.toNat t2)]?) fun x3 =>
  Option.bind (Ds_sUnit b3 x3) fun r4 =>
  if r4 = true then
  some (.inl (.h1 t0 t1 (IntKind.wrap .i64 (t2 + 1)) b3 b4))
  else
  some (.inr false)
  else none
  else
  some (.inl (.h2 b4.Units ((b4.Units.length : Nat) : Int) 0 b3 b4))
 | .h2 t0 t1 t2 b3 b4 =>
  if t2 < t1 then
  if 0 ≤ t2 then
  Option.bind (t0[(Int.toNat t2)]?) fun x3 =>
  if x3.At ≥ 0 then
  Option.bind (Ds_sAt b4 x3.At (IntKind.wrap .i64 (1 - x3.Side))) fun r5 =>
  if ((r5.length : Nat) : Int) > 0 then
  some (.inr false)
  else
  Option.bind (Ds_sAt b4 x3.At x3.Side) fun r7 =>
  if ((r7.length : Nat) : Int) > b3.Rules.Stack then
  some (.inr false)
  else
  some (.inl (.h2 t0 t1 (IntKind.wrap .i64 (t2 + 1)) b3 b4))
  else
  some (.inl (.h2 t0 t1 (IntKind.wrap .i64 (t2 + 1)) b3 b4))
  else none
  else
  some (.inr true)
noncomputable def Ds_sGood (a0 : Gi_Board) (a1 : Gi_State) : Option (Bool) :=
 Option.bind (Ds_bGood a0) fun r1 =>
 if r1 = true then
 Option.bind (Ds_l1In a1.Turn 0 a0.Rules.Turns) fun r3 =>
 if r3 = true then
 Option.bind (Ds_l1In a1.Weather 0 2) fun r5 =>
 if r5 = true then
 if ((a1.Units.length : Nat) : Int) > 12 then
 some false
 else
 loop Bs_sGood (.h1 a1.Units ((a1.Units.length : Nat) : Int) 0 a0 a1)
 else
 some false
 else
 some false
 else
 some false
inductive Ss_vcGood where
 | h1 (t0 : (List Gi_Goal)) (t1 : Int) (t2 : Int) (b3 : Gi_Board) (b4 : Gi_Conditions)
noncomputable def Bs_vcGood : Ss_vcGood → Option (Ss_vcGood ⊕ (Bool))
 | .h1 t0 t1 t2 b3 b4 =>
  if t2 < t1 then
  if 0 ≤ t2 then
  Option.bind (t0[(Int.toNat t2)]?) fun x3 =>
  Option.bind (Ds_mSize b3.Map) fun r4 =>
  Option.bind (Ds_l1In x3.At 0 (IntKind.wrap .i64 (r4 - 1))) fun r5 =>
  if r5 = true then
  Option.bind (Ds_l1In x3.Points 1 20) fun r7 =>
  if r7 = true then
  if t2 > 0 then
  if 0 ≤ (IntKind.wrap .i64 (t2 - 1)) then
  Option.bind (b4.Goals[(Int.toNat (IntKind.wrap .i64 (t2 - 1)))]?) fun x11 =>
  if x11.At ≥ x3.At then
  some (.inr false)
  else
  some (.inl (.h1 t0 t1 (IntKind.wrap .i64 (t2 + 1)) b3 b4))
  else none
  else
  some (.inl (.h1 t0 t1 (IntKind.wrap .i64 (t2 + 1)) b3 b4))
  else
  some (.inr false)
  else
  some (.inr false)
  else none
  else
  some (.inr true)
noncomputable def Ds_vcGood (a0 : Gi_Board) (a1 : Gi_Conditions) : Option (Bool) :=
 Option.bind (Ds_bGood a0) fun r1 =>
 if r1 = true then
 if ((a1.Goals.length : Nat) : Int) > 12 then
 some false
 else
 Option.bind (Ds_l1In a1.Step 0 9) fun r4 =>
 if r4 = true then
 Option.bind (Ds_l1In a1.Margin 0 200) fun r6 =>
 if r6 = true then
 loop Bs_vcGood (.h1 a1.Goals ((a1.Goals.length : Nat) : Int) 0 a0 a1)
 else
 some false
 else
 some false
 else
 some false
noncomputable def Ds_jSources (a0 : Gi_Board) (a1 : (List Int)) : Option (Bool) :=
 if ((a1.length : Nat) : Int) ≤ 6 then
 Option.bind (Ds_mSize a0.Map) fun r2 =>
 Option.bind (Ds_l1Rising a1 0 (IntKind.wrap .i64 (r2 - 1))) fun r3 =>
 some r3
 else
 some false
noncomputable def Ds_snCode (a0 : Gi_Scenario) : Option (Int) :=
 Option.bind (Ds_rName a0.Name) fun r1 =>
 if r1 = true then
 Option.bind (Ds_bGood a0.Board) fun r3 =>
 if r3 = true then
 Option.bind (Ds_kGood a0.Table) fun r5 =>
 if r5 = true then
 Option.bind (Ds_sGood a0.Board a0.Start) fun r7 =>
 if r7 = true then
 Option.bind (Ds_vcGood a0.Board a0.Conditions) fun r9 =>
 if r9 = true then
 Option.bind (Ds_jSources a0.Board a0.First) fun r11 =>
 if r11 = true then
 Option.bind (Ds_jSources a0.Board a0.Other) fun r13 =>
 if r13 = true then
 some 0
 else
 some 6
 else
 some 6
 else
 some 5
 else
 some 4
 else
 some 3
 else
 some 2
 else
 some 1
noncomputable def Ds_snGood (a0 : Gi_Scenario) : Option (Bool) :=
 Option.bind (Ds_snCode a0) fun r1 =>
 some ((r1 : Int) == 0)
noncomputable def Ds_bfLimits  : Option ((List ByteArray)) :=
 some [⟨#[115, 116, 97, 99, 107]⟩, ⟨#[114, 105, 118, 101, 114]⟩, ⟨#[114, 111, 97, 100]⟩, ⟨#[115, 117, 112, 112, 108, 121]⟩, ⟨#[116, 117, 114, 110, 115]⟩]
noncomputable def Ds_bfValues (a0 : Gi_Rules) : Option ((List Int)) :=
 some [a0.Stack, a0.River, a0.Road, a0.Supply, a0.Turns]
noncomputable def Fs_l1Num (rec_ : Int → Option (ByteArray)) (a0 : Int) : Option (ByteArray) :=
 if a0 < 10 then
 if ∀ x ∈ [(IntKind.wrap .u8 (IntKind.wrap .i64 (48 + a0)))], 0 ≤ x ∧ x < 256 then
 some (bytesOf [(IntKind.wrap .u8 (IntKind.wrap .i64 (48 + a0)))])
 else none
 else
 Option.bind (rec_ (IntKind.wrap .i64 (Int.tdiv a0 10))) fun r2 =>
 if ∀ x ∈ [(IntKind.wrap .u8 (IntKind.wrap .i64 (48 + (Int.tmod a0 10))))], 0 ≤ x ∧ x < 256 then
 if ByteArray.size r2 + ByteArray.size (bytesOf [(IntKind.wrap .u8 (IntKind.wrap .i64 (48 + (Int.tmod a0 10))))]) ≤ 9223372036854775807 then
 some (r2 ++ (bytesOf [(IntKind.wrap .u8 (IntKind.wrap .i64 (48 + (Int.tmod a0 10))))]))
 else none
 else none
noncomputable def Ds_l1Num : Nat → Int → Option (ByteArray)
 | 0 => fun _ => none
 | n_ + 1 => Fs_l1Num (Ds_l1Num n_)
noncomputable def Ds_bfKind (a0 : Gi_Kind) : Option (ByteArray) :=
 if ByteArray.size ⟨#[107, 105, 110, 100, 32]⟩ + ByteArray.size a0.Name ≤ 9223372036854775807 then
 if ByteArray.size (⟨#[107, 105, 110, 100, 32]⟩ ++ a0.Name) + ByteArray.size ⟨#[32, 115, 116, 114, 101, 110, 103, 116, 104, 32]⟩ ≤ 9223372036854775807 then
 Option.bind (Ds_l1Num 100 a0.Strength) fun r3 =>
 if ByteArray.size ((⟨#[107, 105, 110, 100, 32]⟩ ++ a0.Name) ++ ⟨#[32, 115, 116, 114, 101, 110, 103, 116, 104, 32]⟩) + ByteArray.size r3 ≤ 9223372036854775807 then
 if ByteArray.size (((⟨#[107, 105, 110, 100, 32]⟩ ++ a0.Name) ++ ⟨#[32, 115, 116, 114, 101, 110, 103, 116, 104, 32]⟩) ++ r3) + ByteArray.size ⟨#[32, 109, 111, 118, 101, 115, 32]⟩ ≤ 9223372036854775807 then
 Option.bind (Ds_l1Num 100 a0.Moves) fun r6 =>
 if ByteArray.size ((((⟨#[107, 105, 110, 100, 32]⟩ ++ a0.Name) ++ ⟨#[32, 115, 116, 114, 101, 110, 103, 116, 104, 32]⟩) ++ r3) ++ ⟨#[32, 109, 111, 118, 101, 115, 32]⟩) + ByteArray.size r6 ≤ 9223372036854775807 then
 if ByteArray.size (((((⟨#[107, 105, 110, 100, 32]⟩ ++ a0.Name) ++ ⟨#[32, 115, 116, 114, 101, 110, 103, 116, 104, 32]⟩) ++ r3) ++ ⟨#[32, 109, 111, 118, 101, 115, 32]⟩) ++ r6) + ByteArray.size ⟨#[32, 115, 116, 101, 112, 115, 32]⟩ ≤ 9223372036854775807 then
 Option.bind (Ds_l1Num 100 a0.Steps) fun r9 =>
 if ByteArray.size ((((((⟨#[107, 105, 110, 100, 32]⟩ ++ a0.Name) ++ ⟨#[32, 115, 116, 114, 101, 110, 103, 116, 104, 32]⟩) ++ r3) ++ ⟨#[32, 109, 111, 118, 101, 115, 32]⟩) ++ r6) ++ ⟨#[32, 115, 116, 101, 112, 115, 32]⟩) + ByteArray.size r9 ≤ 9223372036854775807 then
 if ByteArray.size (((((((⟨#[107, 105, 110, 100, 32]⟩ ++ a0.Name) ++ ⟨#[32, 115, 116, 114, 101, 110, 103, 116, 104, 32]⟩) ++ r3) ++ ⟨#[32, 109, 111, 118, 101, 115, 32]⟩) ++ r6) ++ ⟨#[32, 115, 116, 101, 112, 115, 32]⟩) ++ r9) + ByteArray.size ⟨#[32, 118, 105, 101, 119, 32]⟩ ≤ 9223372036854775807 then
 Option.bind (Ds_l1Num 100 a0.View) fun r12 =>
 if ByteArray.size ((((((((⟨#[107, 105, 110, 100, 32]⟩ ++ a0.Name) ++ ⟨#[32, 115, 116, 114, 101, 110, 103, 116, 104, 32]⟩) ++ r3) ++ ⟨#[32, 109, 111, 118, 101, 115, 32]⟩) ++ r6) ++ ⟨#[32, 115, 116, 101, 112, 115, 32]⟩) ++ r9) ++ ⟨#[32, 118, 105, 101, 119, 32]⟩) + ByteArray.size r12 ≤ 9223372036854775807 then
 if a0.Zone = true then
 if ByteArray.size (((((((((⟨#[107, 105, 110, 100, 32]⟩ ++ a0.Name) ++ ⟨#[32, 115, 116, 114, 101, 110, 103, 116, 104, 32]⟩) ++ r3) ++ ⟨#[32, 109, 111, 118, 101, 115, 32]⟩) ++ r6) ++ ⟨#[32, 115, 116, 101, 112, 115, 32]⟩) ++ r9) ++ ⟨#[32, 118, 105, 101, 119, 32]⟩) ++ r12) + ByteArray.size ⟨#[32, 122, 111, 110, 101]⟩ ≤ 9223372036854775807 then
 some ((((((((((⟨#[107, 105, 110, 100, 32]⟩ ++ a0.Name) ++ ⟨#[32, 115, 116, 114, 101, 110, 103, 116, 104, 32]⟩) ++ r3) ++ ⟨#[32, 109, 111, 118, 101, 115, 32]⟩) ++ r6) ++ ⟨#[32, 115, 116, 101, 112, 115, 32]⟩) ++ r9) ++ ⟨#[32, 118, 105, 101, 119, 32]⟩) ++ r12) ++ ⟨#[32, 122, 111, 110, 101]⟩)
 else none
 else
 some (((((((((⟨#[107, 105, 110, 100, 32]⟩ ++ a0.Name) ++ ⟨#[32, 115, 116, 114, 101, 110, 103, 116, 104, 32]⟩) ++ r3) ++ ⟨#[32, 109, 111, 118, 101, 115, 32]⟩) ++ r6) ++ ⟨#[32, 115, 116, 101, 112, 115, 32]⟩) ++ r9) ++ ⟨#[32, 118, 105, 101, 119, 32]⟩) ++ r12)
 else none
 else none
 else none
 else none
 else none
 else none
 else none
 else none
 else none
noncomputable def Ds_l1Int (a0 : Int) : Option (ByteArray) :=
 if a0 < 0 then
 Option.bind (Ds_l1Num 100 (IntKind.wrap .i64 (0 - a0))) fun r2 =>
 if ByteArray.size ⟨#[45]⟩ + ByteArray.size r2 ≤ 9223372036854775807 then
 some (⟨#[45]⟩ ++ r2)
 else none
 else
 Option.bind (Ds_l1Num 100 a0) fun r2 =>
 some r2
inductive Ss_bfTerrain where
 | h1 (s0 : ByteArray) (t1 : (List Int)) (t2 : Int) (t3 : Int) (b4 : Gi_Terrain)
noncomputable def Bs_bfTerrain : Ss_bfTerrain → Option (Ss_bfTerrain ⊕ (ByteArray))
 | .h1 s0 t1 t2 t3 b4 =>
  if t3 < t2 then
  if 0 ≤ t3 then
  Option.bind (t1[(Int.toNat t3)]?) fun x3 =>
  Option.bind (Ds_l1Num 100 x3) fun r4 =>
  if ByteArray.size ⟨#[32]⟩ + ByteArray.size r4 ≤ 9223372036854775807 then
  if ByteArray.size s0 + ByteArray.size (⟨#[32]⟩ ++ r4) ≤ 9223372036854775807 then
  some (.inl (.h1 (s0 ++ (⟨#[32]⟩ ++ r4)) t1 t2 (IntKind.wrap .i64 (t3 + 1)) b4))
  else none
  else none
  else none
  else
  if b4.Blocks = true then
  if ByteArray.size s0 + ByteArray.size ⟨#[32, 98, 108, 111, 99, 107, 115]⟩ ≤ 9223372036854775807 then
  some (.inr (s0 ++ ⟨#[32, 98, 108, 111, 99, 107, 115]⟩))
  else none
  else
  some (.inr s0)
noncomputable def Ds_bfTerrain (a0 : Gi_Terrain) : Option (ByteArray) :=
 if ByteArray.size ⟨#[116, 101, 114, 114, 97, 105, 110, 32]⟩ + ByteArray.size a0.Name ≤ 9223372036854775807 then
 if ByteArray.size (⟨#[116, 101, 114, 114, 97, 105, 110, 32]⟩ ++ a0.Name) + ByteArray.size ⟨#[32, 115, 104, 105, 102, 116, 32]⟩ ≤ 9223372036854775807 then
 Option.bind (Ds_l1Int a0.Shift) fun r3 =>
 if ByteArray.size ((⟨#[116, 101, 114, 114, 97, 105, 110, 32]⟩ ++ a0.Name) ++ ⟨#[32, 115, 104, 105, 102, 116, 32]⟩) + ByteArray.size r3 ≤ 9223372036854775807 then
 if ByteArray.size (((⟨#[116, 101, 114, 114, 97, 105, 110, 32]⟩ ++ a0.Name) ++ ⟨#[32, 115, 104, 105, 102, 116, 32]⟩) ++ r3) + ByteArray.size ⟨#[32, 104, 101, 105, 103, 104, 116, 32]⟩ ≤ 9223372036854775807 then
 Option.bind (Ds_l1Num 100 a0.Height) fun r6 =>
 if ByteArray.size ((((⟨#[116, 101, 114, 114, 97, 105, 110, 32]⟩ ++ a0.Name) ++ ⟨#[32, 115, 104, 105, 102, 116, 32]⟩) ++ r3) ++ ⟨#[32, 104, 101, 105, 103, 104, 116, 32]⟩) + ByteArray.size r6 ≤ 9223372036854775807 then
 if ByteArray.size (((((⟨#[116, 101, 114, 114, 97, 105, 110, 32]⟩ ++ a0.Name) ++ ⟨#[32, 115, 104, 105, 102, 116, 32]⟩) ++ r3) ++ ⟨#[32, 104, 101, 105, 103, 104, 116, 32]⟩) ++ r6) + ByteArray.size ⟨#[32, 99, 111, 115, 116]⟩ ≤ 9223372036854775807 then
 loop Bs_bfTerrain (.h1 ((((((⟨#[116, 101, 114, 114, 97, 105, 110, 32]⟩ ++ a0.Name) ++ ⟨#[32, 115, 104, 105, 102, 116, 32]⟩) ++ r3) ++ ⟨#[32, 104, 101, 105, 103, 104, 116, 32]⟩) ++ r6) ++ ⟨#[32, 99, 111, 115, 116]⟩) a0.Cost ((a0.Cost.length : Nat) : Int) 0 a0)
 else none
 else none
 else none
 else none
 else none
 else none
inductive Ss_bfText where
 | h1 (s0 : ByteArray) (t1 : Int) (t2 : Int) (b3 : Gi_Rules) (l4 : (List ByteArray))
 | h2 (s0 : ByteArray) (t1 : (List Gi_Kind)) (t2 : Int) (t3 : Int) (b4 : Gi_Rules)
 | h3 (s0 : ByteArray) (t1 : (List Gi_Terrain)) (t2 : Int) (t3 : Int)
noncomputable def Bs_bfText : Ss_bfText → Option (Ss_bfText ⊕ (ByteArray))
 | .h1 s0 t1 t2 b3 l4 =>
  if t2 < t1 then
  if 0 ≤ t2 then
  Option.bind (l4[(Int.toNat t2)]?) fun x3 =>
  if ByteArray.size x3 + ByteArray.size ⟨#[32]⟩ ≤ 9223372036854775807 then
  Option.bind (Ds_bfValues b3) fun r5 =>
  if 0 ≤ t2 then
  Option.bind (r5[(Int.toNat t2)]?) fun x7 =>
  Option.bind (Ds_l1Num 100 x7) fun r8 =>
  if ByteArray.size (x3 ++ ⟨#[32]⟩) + ByteArray.size r8 ≤ 9223372036854775807 then
  if ByteArray.size ((x3 ++ ⟨#[32]⟩) ++ r8) + ByteArray.size ⟨#[10]⟩ ≤ 9223372036854775807 then
  if ByteArray.size s0 + ByteArray.size (((x3 ++ ⟨#[32]⟩) ++ r8) ++ ⟨#[10]⟩) ≤ 9223372036854775807 then
  some (.inl (.h1 (s0 ++ (((x3 ++ ⟨#[32]⟩) ++ r8) ++ ⟨#[10]⟩)) t1 (IntKind.wrap .i64 (t2 + 1)) b3 l4))
  else none
  else none
  else none
  else none
  else none
  else none
  else
  some (.inl (.h2 s0 b3.Kinds ((b3.Kinds.length : Nat) : Int) 0 b3))
 | .h2 s0 t1 t2 t3 b4 =>
  if t3 < t2 then
  if 0 ≤ t3 then
  Option.bind (t1[(Int.toNat t3)]?) fun x3 =>
  Option.bind (Ds_bfKind x3) fun r4 =>
  if ByteArray.size r4 + ByteArray.size ⟨#[10]⟩ ≤ 9223372036854775807 then
  if ByteArray.size s0 + ByteArray.size (r4 ++ ⟨#[10]⟩) ≤ 9223372036854775807 then
  some (.inl (.h2 (s0 ++ (r4 ++ ⟨#[10]⟩)) t1 t2 (IntKind.wrap .i64 (t3 + 1)) b4))
  else none
  else none
  else none
  else
  some (.inl (.h3 s0 b4.Terrains ((b4.Terrains.length : Nat) : Int) 0))
 | .h3 s0 t1 t2 t3 =>
  if t3 < t2 then
  if 0 ≤ t3 then
  Option.bind (t1[(Int.toNat t3)]?) fun x3 =>
  Option.bind (Ds_bfTerrain x3) fun r4 =>
  if ByteArray.size r4 + ByteArray.size ⟨#[10]⟩ ≤ 9223372036854775807 then
  if ByteArray.size s0 + ByteArray.size (r4 ++ ⟨#[10]⟩) ≤ 9223372036854775807 then
  some (.inl (.h3 (s0 ++ (r4 ++ ⟨#[10]⟩)) t1 t2 (IntKind.wrap .i64 (t3 + 1))))
  else none
  else none
  else none
  else
  some (.inr s0)
noncomputable def Ds_bfText (a0 : Gi_Rules) : Option (ByteArray) :=
 Option.bind (Ds_bfLimits) fun r1 =>
 loop Bs_bfText (.h1 ⟨#[]⟩ ((r1.length : Nat) : Int) 0 a0 r1)
inductive Ss_mList where
 | h1 (word0 : ByteArray) (t1 : (List Int)) (t2 : Int) (t3 : Int)
noncomputable def Bs_mList : Ss_mList → Option (Ss_mList ⊕ (ByteArray))
 | .h1 word0 t1 t2 t3 =>
  if t3 < t2 then
  if 0 ≤ t3 then
  Option.bind (t1[(Int.toNat t3)]?) fun x3 =>
  Option.bind (Ds_l1Num 100 x3) fun r4 =>
  if ByteArray.size ⟨#[32]⟩ + ByteArray.size r4 ≤ 9223372036854775807 then
  if ByteArray.size word0 + ByteArray.size (⟨#[32]⟩ ++ r4) ≤ 9223372036854775807 then
  some (.inl (.h1 (word0 ++ (⟨#[32]⟩ ++ r4)) t1 t2 (IntKind.wrap .i64 (t3 + 1))))
  else none
  else none
  else none
  else
  if ByteArray.size word0 + ByteArray.size ⟨#[10]⟩ ≤ 9223372036854775807 then
  some (.inr (word0 ++ ⟨#[10]⟩))
  else none
noncomputable def Ds_mList (a0 : ByteArray) (a1 : (List Int)) : Option (ByteArray) :=
 loop Bs_mList (.h1 a0 a1 ((a1.length : Nat) : Int) 0)
inductive Ss_mText where
 | h1 (s0 : ByteArray) (t1 : (List Int)) (t2 : Int) (t3 : Int) (b4 : Gi_Map)
noncomputable def Bs_mText : Ss_mText → Option (Ss_mText ⊕ (ByteArray))
 | .h1 s0 t1 t2 t3 b4 =>
  if t3 < t2 then
  if 0 ≤ t3 then
  Option.bind (t1[(Int.toNat t3)]?) fun x3 =>
  Option.bind (Ds_l1Num 100 x3) fun r4 =>
  if ByteArray.size s0 + ByteArray.size r4 ≤ 9223372036854775807 then
  if ¬ b4.Width = 0 then
  if ((Int.tmod t3 b4.Width) : Int) = (IntKind.wrap .i64 (b4.Width - 1)) then
  if ByteArray.size (s0 ++ r4) + ByteArray.size ⟨#[10]⟩ ≤ 9223372036854775807 then
  some (.inl (.h1 ((s0 ++ r4) ++ ⟨#[10]⟩) t1 t2 (IntKind.wrap .i64 (t3 + 1)) b4))
  else none
  else
  some (.inl (.h1 (s0 ++ r4) t1 t2 (IntKind.wrap .i64 (t3 + 1)) b4))
  else none
  else none
  else none
  else
  Option.bind (Ds_mList ⟨#[114, 105, 118, 101, 114, 115]⟩ b4.Rivers) fun r2 =>
  if ByteArray.size s0 + ByteArray.size r2 ≤ 9223372036854775807 then
  Option.bind (Ds_mList ⟨#[114, 111, 97, 100, 115]⟩ b4.Roads) fun r4 =>
  if ByteArray.size (s0 ++ r2) + ByteArray.size r4 ≤ 9223372036854775807 then
  some (.inr ((s0 ++ r2) ++ r4))
  else none
  else none
noncomputable def Ds_mText (a0 : Gi_Map) : Option (ByteArray) :=
 Option.bind (Ds_l1Num 100 a0.Width) fun r1 =>
 if ByteArray.size ⟨#[109, 97, 112, 32]⟩ + ByteArray.size r1 ≤ 9223372036854775807 then
 if ByteArray.size (⟨#[109, 97, 112, 32]⟩ ++ r1) + ByteArray.size ⟨#[32]⟩ ≤ 9223372036854775807 then
 Option.bind (Ds_l1Num 100 a0.Height) fun r4 =>
 if ByteArray.size ((⟨#[109, 97, 112, 32]⟩ ++ r1) ++ ⟨#[32]⟩) + ByteArray.size r4 ≤ 9223372036854775807 then
 if ByteArray.size (((⟨#[109, 97, 112, 32]⟩ ++ r1) ++ ⟨#[32]⟩) ++ r4) + ByteArray.size ⟨#[10]⟩ ≤ 9223372036854775807 then
 loop Bs_mText (.h1 ((((⟨#[109, 97, 112, 32]⟩ ++ r1) ++ ⟨#[32]⟩) ++ r4) ++ ⟨#[10]⟩) a0.Terrain ((a0.Terrain.length : Nat) : Int) 0 a0)
 else none
 else none
 else none
 else none
noncomputable def Ds_bfBoard (a0 : Gi_Board) : Option (ByteArray) :=
 Option.bind (Ds_bfText a0.Rules) fun r1 =>
 Option.bind (Ds_mText a0.Map) fun r2 =>
 if ByteArray.size r1 + ByteArray.size r2 ≤ 9223372036854775807 then
 some (r1 ++ r2)
 else none
noncomputable def Ds_BoardText (a0 : Gi_Board) : Option (ByteArray × Bool) :=
 Option.bind (Ds_bGood a0) fun r1 =>
 if r1 = true then
 Option.bind (Ds_bfBoard a0) fun r3 =>
 some (r3, true)
 else
 some (⟨#[]⟩, false)
inductive Ss_kText where
 | h1 (out0 : ByteArray) (t1 : (List Gi_Odds)) (t2 : Int) (t3 : Int) (b4 : Gi_CombatTable)
 | h2 (out0 : ByteArray) (t1 : (List (List Int))) (t2 : Int) (t3 : Int)
 | h3 (out0 : ByteArray) (t1 : (List (List Int))) (t2 : Int) (t3 : Int) (t4 : (List Int)) (t5 : Int) (t6 : Int)
noncomputable def Bs_kText : Ss_kText → Option (Ss_kText ⊕ (ByteArray))
 | .h1 out0 t1 t2 t3 b4 =>
  if t3 < t2 then
  if 0 ≤ t3 then
  Option.bind (t1[(Int.toNat t3)]?) fun x3 =>
  Option.bind (Ds_l1Num 100 x3.Num) fun r4 =>
  if ByteArray.size ⟨#[32]⟩ + ByteArray.size r4 ≤ 9223372036854775807 then
  if ByteArray.size (⟨#[32]⟩ ++ r4) + ByteArray.size ⟨#[47]⟩ ≤ 9223372036854775807 then
  Option.bind (Ds_l1Num 100 x3.Den) fun r7 =>
  if ByteArray.size ((⟨#[32]⟩ ++ r4) ++ ⟨#[47]⟩) + ByteArray.size r7 ≤ 9223372036854775807 then
  if ByteArray.size out0 + ByteArray.size (((⟨#[32]⟩ ++ r4) ++ ⟨#[47]⟩) ++ r7) ≤ 9223372036854775807 then
  some (.inl (.h1 (out0 ++ (((⟨#[32]⟩ ++ r4) ++ ⟨#[47]⟩) ++ r7)) t1 t2 (IntKind.wrap .i64 (t3 + 1)) b4))
  else none
  else none
  else none
  else none
  else none
  else
  Option.bind (Ds_l1Num 100 b4.Dice) fun r2 =>
  if ByteArray.size ⟨#[32, 100, 105, 99, 101, 32]⟩ + ByteArray.size r2 ≤ 9223372036854775807 then
  if ByteArray.size (⟨#[32, 100, 105, 99, 101, 32]⟩ ++ r2) + ByteArray.size ⟨#[10]⟩ ≤ 9223372036854775807 then
  if ByteArray.size out0 + ByteArray.size ((⟨#[32, 100, 105, 99, 101, 32]⟩ ++ r2) ++ ⟨#[10]⟩) ≤ 9223372036854775807 then
  some (.inl (.h2 (out0 ++ ((⟨#[32, 100, 105, 99, 101, 32]⟩ ++ r2) ++ ⟨#[10]⟩)) b4.Results ((b4.Results.length : Nat) : Int) 0))
  else none
  else none
  else none
 | .h2 out0 t1 t2 t3 =>
  if t3 < t2 then
  if 0 ≤ t3 then
  Option.bind (t1[(Int.toNat t3)]?) fun x3 =>
  some (.inl (.h3 out0 t1 t2 t3 x3 ((x3.length : Nat) : Int) 0))
  else none
  else
  some (.inr out0)
 | .h3 out0 t1 t2 t3 t4 t5 t6 =>
  if t6 < t5 then
  if 0 ≤ t6 then
  Option.bind (t4[(Int.toNat t6)]?) fun x3 =>
  Option.bind (Ds_l1Num 100 x3) fun r4 =>
  if ByteArray.size out0 + ByteArray.size r4 ≤ 9223372036854775807 then
  some (.inl (.h3 (out0 ++ r4) t1 t2 t3 t4 t5 (IntKind.wrap .i64 (t6 + 1))))
  else none
  else none
  else
  if ByteArray.size out0 + ByteArray.size ⟨#[10]⟩ ≤ 9223372036854775807 then
  some (.inl (.h2 (out0 ++ ⟨#[10]⟩) t1 t2 (IntKind.wrap .i64 (t3 + 1))))
  else none
noncomputable def Ds_kText (a0 : Gi_CombatTable) : Option (ByteArray) :=
 loop Bs_kText (.h1 ⟨#[111, 100, 100, 115]⟩ a0.Columns ((a0.Columns.length : Nat) : Int) 0 a0)
inductive Ss_sText where
 | h1 (out0 : ByteArray) (t1 : (List Gi_Unit)) (t2 : Int) (t3 : Int) (b4 : Gi_Board)
noncomputable def Bs_sText : Ss_sText → Option (Ss_sText ⊕ (ByteArray))
 | .h1 out0 t1 t2 t3 b4 =>
  if t3 < t2 then
  if 0 ≤ t3 then
  Option.bind (t1[(Int.toNat t3)]?) fun x3 =>
  if x3.At ≥ 0 then
  Option.bind (Ds_l1Num 100 x3.At) fun r5 =>
  Option.bind (Ds_l1Num 100 x3.Side) fun r6 =>
  if ByteArray.size r6 + ByteArray.size ⟨#[32]⟩ ≤ 9223372036854775807 then
  if 0 ≤ x3.Kind then
  Option.bind (b4.Rules.Kinds[(Int.toNat x3.Kind)]?) fun x9 =>
  if ByteArray.size (r6 ++ ⟨#[32]⟩) + ByteArray.size x9.Name ≤ 9223372036854775807 then
  if ByteArray.size ((r6 ++ ⟨#[32]⟩) ++ x9.Name) + ByteArray.size ⟨#[32]⟩ ≤ 9223372036854775807 then
  if ByteArray.size (((r6 ++ ⟨#[32]⟩) ++ x9.Name) ++ ⟨#[32]⟩) + ByteArray.size r5 ≤ 9223372036854775807 then
  if ByteArray.size ((((r6 ++ ⟨#[32]⟩) ++ x9.Name) ++ ⟨#[32]⟩) ++ r5) + ByteArray.size ⟨#[32]⟩ ≤ 9223372036854775807 then
  Option.bind (Ds_l1Num 100 x3.Steps) fun r14 =>
  if ByteArray.size (((((r6 ++ ⟨#[32]⟩) ++ x9.Name) ++ ⟨#[32]⟩) ++ r5) ++ ⟨#[32]⟩) + ByteArray.size r14 ≤ 9223372036854775807 then
  if ByteArray.size ((((((r6 ++ ⟨#[32]⟩) ++ x9.Name) ++ ⟨#[32]⟩) ++ r5) ++ ⟨#[32]⟩) ++ r14) + ByteArray.size ⟨#[10]⟩ ≤ 9223372036854775807 then
  if ByteArray.size out0 + ByteArray.size (((((((r6 ++ ⟨#[32]⟩) ++ x9.Name) ++ ⟨#[32]⟩) ++ r5) ++ ⟨#[32]⟩) ++ r14) ++ ⟨#[10]⟩) ≤ 9223372036854775807 then
  some (.inl (.h1 (out0 ++ (((((((r6 ++ ⟨#[32]⟩) ++ x9.Name) ++ ⟨#[32]⟩) ++ r5) ++ ⟨#[32]⟩) ++ r14) ++ ⟨#[10]⟩)) t1 t2 (IntKind.wrap .i64 (t3 + 1)) b4))
  else none
  else none
  else none
  else none
  else none
  else none
  else none
  else none
  else none
  else
  Option.bind (Ds_l1Num 100 x3.Side) fun r5 =>
  if ByteArray.size r5 + ByteArray.size ⟨#[32]⟩ ≤ 9223372036854775807 then
  if 0 ≤ x3.Kind then
  Option.bind (b4.Rules.Kinds[(Int.toNat x3.Kind)]?) fun x8 =>
  if ByteArray.size (r5 ++ ⟨#[32]⟩) + ByteArray.size x8.Name ≤ 9223372036854775807 then
  if ByteArray.size ((r5 ++ ⟨#[32]⟩) ++ x8.Name) + ByteArray.size ⟨#[32]⟩ ≤ 9223372036854775807 then
  if ByteArray.size (((r5 ++ ⟨#[32]⟩) ++ x8.Name) ++ ⟨#[32]⟩) + ByteArray.size ⟨#[45]⟩ ≤ 9223372036854775807 then
  if ByteArray.size ((((r5 ++ ⟨#[32]⟩) ++ x8.Name) ++ ⟨#[32]⟩) ++ ⟨#[45]⟩) + ByteArray.size ⟨#[32]⟩ ≤ 9223372036854775807 then
  Option.bind (Ds_l1Num 100 x3.Steps) fun r13 =>
  if ByteArray.size (((((r5 ++ ⟨#[32]⟩) ++ x8.Name) ++ ⟨#[32]⟩) ++ ⟨#[45]⟩) ++ ⟨#[32]⟩) + ByteArray.size r13 ≤ 9223372036854775807 then
  if ByteArray.size ((((((r5 ++ ⟨#[32]⟩) ++ x8.Name) ++ ⟨#[32]⟩) ++ ⟨#[45]⟩) ++ ⟨#[32]⟩) ++ r13) + ByteArray.size ⟨#[10]⟩ ≤ 9223372036854775807 then
  if ByteArray.size out0 + ByteArray.size (((((((r5 ++ ⟨#[32]⟩) ++ x8.Name) ++ ⟨#[32]⟩) ++ ⟨#[45]⟩) ++ ⟨#[32]⟩) ++ r13) ++ ⟨#[10]⟩) ≤ 9223372036854775807 then
  some (.inl (.h1 (out0 ++ (((((((r5 ++ ⟨#[32]⟩) ++ x8.Name) ++ ⟨#[32]⟩) ++ ⟨#[45]⟩) ++ ⟨#[32]⟩) ++ r13) ++ ⟨#[10]⟩)) t1 t2 (IntKind.wrap .i64 (t3 + 1)) b4))
  else none
  else none
  else none
  else none
  else none
  else none
  else none
  else none
  else none
  else none
  else
  some (.inr out0)
noncomputable def Ds_sText (a0 : Gi_Board) (a1 : Gi_State) : Option (ByteArray) :=
 Option.bind (Ds_l1Num 100 a1.Turn) fun r1 =>
 if ByteArray.size ⟨#[116, 117, 114, 110, 32]⟩ + ByteArray.size r1 ≤ 9223372036854775807 then
 if ByteArray.size (⟨#[116, 117, 114, 110, 32]⟩ ++ r1) + ByteArray.size ⟨#[32, 119, 101, 97, 116, 104, 101, 114, 32]⟩ ≤ 9223372036854775807 then
 Option.bind (Ds_l1Num 100 a1.Weather) fun r4 =>
 if ByteArray.size ((⟨#[116, 117, 114, 110, 32]⟩ ++ r1) ++ ⟨#[32, 119, 101, 97, 116, 104, 101, 114, 32]⟩) + ByteArray.size r4 ≤ 9223372036854775807 then
 if ByteArray.size (((⟨#[116, 117, 114, 110, 32]⟩ ++ r1) ++ ⟨#[32, 119, 101, 97, 116, 104, 101, 114, 32]⟩) ++ r4) + ByteArray.size ⟨#[10]⟩ ≤ 9223372036854775807 then
 loop Bs_sText (.h1 ((((⟨#[116, 117, 114, 110, 32]⟩ ++ r1) ++ ⟨#[32, 119, 101, 97, 116, 104, 101, 114, 32]⟩) ++ r4) ++ ⟨#[10]⟩) a1.Units ((a1.Units.length : Nat) : Int) 0 a0)
 else none
 else none
 else none
 else none
inductive Ss_snText where
 | h1 (out0 : ByteArray) (t1 : (List Gi_Goal)) (t2 : Int) (t3 : Int) (b4 : Gi_Scenario)
noncomputable def Bs_snText : Ss_snText → Option (Ss_snText ⊕ (ByteArray))
 | .h1 out0 t1 t2 t3 b4 =>
  if t3 < t2 then
  if 0 ≤ t3 then
  Option.bind (t1[(Int.toNat t3)]?) fun x3 =>
  Option.bind (Ds_l1Num 100 x3.At) fun r4 =>
  if ByteArray.size r4 + ByteArray.size ⟨#[32]⟩ ≤ 9223372036854775807 then
  Option.bind (Ds_l1Num 100 x3.Points) fun r6 =>
  if ByteArray.size (r4 ++ ⟨#[32]⟩) + ByteArray.size r6 ≤ 9223372036854775807 then
  if ByteArray.size ((r4 ++ ⟨#[32]⟩) ++ r6) + ByteArray.size ⟨#[10]⟩ ≤ 9223372036854775807 then
  if ByteArray.size out0 + ByteArray.size (((r4 ++ ⟨#[32]⟩) ++ r6) ++ ⟨#[10]⟩) ≤ 9223372036854775807 then
  some (.inl (.h1 (out0 ++ (((r4 ++ ⟨#[32]⟩) ++ r6) ++ ⟨#[10]⟩)) t1 t2 (IntKind.wrap .i64 (t3 + 1)) b4))
  else none
  else none
  else none
  else none
  else none
  else
  Option.bind (Ds_mList ⟨#[102, 105, 114, 115, 116]⟩ b4.First) fun r2 =>
  if ByteArray.size out0 + ByteArray.size r2 ≤ 9223372036854775807 then
  Option.bind (Ds_mList ⟨#[111, 116, 104, 101, 114]⟩ b4.Other) fun r4 =>
  if ByteArray.size (out0 ++ r2) + ByteArray.size r4 ≤ 9223372036854775807 then
  some (.inr ((out0 ++ r2) ++ r4))
  else none
  else none
noncomputable def Ds_snText (a0 : Gi_Scenario) : Option (ByteArray) :=
 Option.bind (Ds_BoardText a0.Board) fun r1 =>
 if ByteArray.size ⟨#[115, 99, 101, 110, 97, 114, 105, 111, 32]⟩ + ByteArray.size a0.Name ≤ 9223372036854775807 then
 if ByteArray.size (⟨#[115, 99, 101, 110, 97, 114, 105, 111, 32]⟩ ++ a0.Name) + ByteArray.size ⟨#[10]⟩ ≤ 9223372036854775807 then
 if ByteArray.size ((⟨#[115, 99, 101, 110, 97, 114, 105, 111, 32]⟩ ++ a0.Name) ++ ⟨#[10]⟩) + ByteArray.size r1.1 ≤ 9223372036854775807 then
 Option.bind (Ds_kText a0.Table) fun r5 =>
 if ByteArray.size (((⟨#[115, 99, 101, 110, 97, 114, 105, 111, 32]⟩ ++ a0.Name) ++ ⟨#[10]⟩) ++ r1.1) + ByteArray.size r5 ≤ 9223372036854775807 then
 Option.bind (Ds_sText a0.Board a0.Start) fun r7 =>
 if ByteArray.size ((((⟨#[115, 99, 101, 110, 97, 114, 105, 111, 32]⟩ ++ a0.Name) ++ ⟨#[10]⟩) ++ r1.1) ++ r5) + ByteArray.size r7 ≤ 9223372036854775807 then
 Option.bind (Ds_l1Num 100 a0.Conditions.Step) fun r9 =>
 if ByteArray.size ⟨#[103, 111, 97, 108, 115, 32]⟩ + ByteArray.size r9 ≤ 9223372036854775807 then
 if ByteArray.size (⟨#[103, 111, 97, 108, 115, 32]⟩ ++ r9) + ByteArray.size ⟨#[32]⟩ ≤ 9223372036854775807 then
 Option.bind (Ds_l1Num 100 a0.Conditions.Margin) fun r12 =>
 if ByteArray.size ((⟨#[103, 111, 97, 108, 115, 32]⟩ ++ r9) ++ ⟨#[32]⟩) + ByteArray.size r12 ≤ 9223372036854775807 then
 if ByteArray.size (((⟨#[103, 111, 97, 108, 115, 32]⟩ ++ r9) ++ ⟨#[32]⟩) ++ r12) + ByteArray.size ⟨#[10]⟩ ≤ 9223372036854775807 then
 if ByteArray.size (((((⟨#[115, 99, 101, 110, 97, 114, 105, 111, 32]⟩ ++ a0.Name) ++ ⟨#[10]⟩) ++ r1.1) ++ r5) ++ r7) + ByteArray.size ((((⟨#[103, 111, 97, 108, 115, 32]⟩ ++ r9) ++ ⟨#[32]⟩) ++ r12) ++ ⟨#[10]⟩) ≤ 9223372036854775807 then
 loop Bs_snText (.h1 ((((((⟨#[115, 99, 101, 110, 97, 114, 105, 111, 32]⟩ ++ a0.Name) ++ ⟨#[10]⟩) ++ r1.1) ++ r5) ++ r7) ++ ((((⟨#[103, 111, 97, 108, 115, 32]⟩ ++ r9) ++ ⟨#[32]⟩) ++ r12) ++ ⟨#[10]⟩)) a0.Conditions.Goals ((a0.Conditions.Goals.length : Nat) : Int) 0 a0)
 else none
 else none
 else none
 else none
 else none
 else none
 else none
 else none
 else none
 else none
noncomputable def Ds_ScenarioText (a0 : Gi_Scenario) : Option (ByteArray × Bool) :=
 Option.bind (Ds_snGood a0) fun r1 =>
 if r1 = true then
 Option.bind (Ds_snText a0) fun r3 =>
 some (r3, true)
 else
 some (⟨#[]⟩, false)
noncomputable def Di_inRange (a0 : Int) (a1 : Int) (a2 : Int) : Option (Bool) :=
 if a1 ≤ a0 then
 some (decide (a0 ≤ a2))
 else
 some false
inductive Si_isName where
 | h1 (s0 : ByteArray) (i1 : Int)
noncomputable def Bi_isName : Si_isName → Option (Si_isName ⊕ (Bool))
 | .h1 s0 i1 =>
  if i1 < ((ByteArray.size s0 : Nat) : Int) then
  if 0 ≤ i1 then
  if i1 < (ByteArray.size s0 : Int) then
  if ((byteAt s0 (Int.toNat i1) : Nat) : Int) < 97 then
  some (.inr false)
  else
  if 0 ≤ i1 then
  if i1 < (ByteArray.size s0 : Int) then
  if ((byteAt s0 (Int.toNat i1) : Nat) : Int) > 122 then
  some (.inr false)
  else
  some (.inl (.h1 s0 (IntKind.wrap .i64 (i1 + 1))))
  else none
  else none
  else none
  else none
  else
  Option.bind (Di_inRange ((ByteArray.size s0 : Nat) : Int) 1 8) fun r2 =>
  some (.inr r2)
noncomputable def Di_isName (a0 : ByteArray) : Option (Bool) :=
 loop Bi_isName (.h1 a0 0)
noncomputable def Di_goodTerrain_1 (a0 : Int) : Option (Bool) :=
 Option.bind (Di_inRange a0 0 9) fun r1 =>
 some (!r1)
inductive Sslices_IndexFunc_int_i_goodTerrain_1 where
 | h1 (s0 : (List Int)) (t1 : Int) (t2 : Int)
noncomputable def Bslices_IndexFunc_int_i_goodTerrain_1 : Sslices_IndexFunc_int_i_goodTerrain_1 → Option (Sslices_IndexFunc_int_i_goodTerrain_1 ⊕ (Int))
 | .h1 s0 t1 t2 =>
  if t2 < t1 then
  if 0 ≤ t2 then
  Option.bind (s0[(Int.toNat t2)]?) fun x3 =>
  Option.bind (Di_goodTerrain_1 x3) fun r4 =>
  if r4 = true then
  some (.inr t2)
  else
  some (.inl (.h1 s0 t1 (IntKind.wrap .i64 (t2 + 1))))
  else none
  else
  some (.inr (-1))
noncomputable def Dslices_IndexFunc_int_i_goodTerrain_1 (a0 : (List Int)) : Option (Int) :=
 loop Bslices_IndexFunc_int_i_goodTerrain_1 (.h1 a0 ((a0.length : Nat) : Int) 0)
noncomputable def Dslices_ContainsFunc_int_i_goodTerrain_1 (a0 : (List Int)) : Option (Bool) :=
 Option.bind (Dslices_IndexFunc_int_i_goodTerrain_1 a0) fun r1 =>
 some (decide (r1 ≥ 0))
noncomputable def Di_goodTerrain (a0 : Gi_Terrain) (a1 : Int) : Option (Bool) :=
 Option.bind (Di_isName a0.Name) fun r1 =>
 if r1 = true then
 if (((a0.Cost.length : Nat) : Int) : Int) = a1 then
 Option.bind (Di_inRange a0.Shift (-3) 3) fun r4 =>
 if r4 = true then
 Option.bind (Di_inRange a0.Height 0 3) fun r6 =>
 if r6 = true then
 Option.bind (Dslices_ContainsFunc_int_i_goodTerrain_1 a0.Cost) fun r8 =>
 some (!r8)
 else
 some false
 else
 some false
 else
 some false
 else
 some false
noncomputable def Di_terrainIndex_1 (a0 : Gi_Terrain) (a1 : ByteArray) : Option (Bool) :=
 some (a0.Name == a1)
inductive Sslices_IndexFunc_i_Terrain_i_terrainIndex_1 where
 | h1 (s0 : (List Gi_Terrain)) (f1 : ByteArray) (t2 : Int) (t3 : Int)
noncomputable def Bslices_IndexFunc_i_Terrain_i_terrainIndex_1 : Sslices_IndexFunc_i_Terrain_i_terrainIndex_1 → Option (Sslices_IndexFunc_i_Terrain_i_terrainIndex_1 ⊕ (Int))
 | .h1 s0 f1 t2 t3 =>
  if t3 < t2 then
  if 0 ≤ t3 then
  Option.bind (s0[(Int.toNat t3)]?) fun x3 =>
  Option.bind (Di_terrainIndex_1 x3 f1) fun r4 =>
  if r4 = true then
  some (.inr t3)
  else
  some (.inl (.h1 s0 f1 t2 (IntKind.wrap .i64 (t3 + 1))))
  else none
  else
  some (.inr (-1))
noncomputable def Dslices_IndexFunc_i_Terrain_i_terrainIndex_1 (a0 : (List Gi_Terrain)) (a100 : ByteArray) : Option (Int) :=
 loop Bslices_IndexFunc_i_Terrain_i_terrainIndex_1 (.h1 a0 a100 ((a0.length : Nat) : Int) 0)
noncomputable def Di_terrainIndex (a0 : (List Gi_Terrain)) (a1 : ByteArray) : Option (Int) :=
 Option.bind (Dslices_IndexFunc_i_Terrain_i_terrainIndex_1 a0 a1) fun r1 =>
 some r1
noncomputable def Di_goodKind (a0 : Gi_Kind) : Option (Bool) :=
 Option.bind (Di_isName a0.Name) fun r1 =>
 if r1 = true then
 Option.bind (Di_inRange a0.Strength 1 9) fun r3 =>
 if r3 = true then
 Option.bind (Di_inRange a0.Moves 0 9) fun r5 =>
 if r5 = true then
 Option.bind (Di_inRange a0.Steps 1 4) fun r7 =>
 if r7 = true then
 Option.bind (Di_inRange a0.View 0 4) fun r9 =>
 some r9
 else
 some false
 else
 some false
 else
 some false
 else
 some false
noncomputable def Di_kindIndex_1 (a0 : Gi_Kind) (a1 : ByteArray) : Option (Bool) :=
 some (a0.Name == a1)
inductive Sslices_IndexFunc_i_Kind_i_kindIndex_1 where
 | h1 (s0 : (List Gi_Kind)) (f1 : ByteArray) (t2 : Int) (t3 : Int)
noncomputable def Bslices_IndexFunc_i_Kind_i_kindIndex_1 : Sslices_IndexFunc_i_Kind_i_kindIndex_1 → Option (Sslices_IndexFunc_i_Kind_i_kindIndex_1 ⊕ (Int))
 | .h1 s0 f1 t2 t3 =>
  if t3 < t2 then
  if 0 ≤ t3 then
  Option.bind (s0[(Int.toNat t3)]?) fun x3 =>
  Option.bind (Di_kindIndex_1 x3 f1) fun r4 =>
  if r4 = true then
  some (.inr t3)
  else
  some (.inl (.h1 s0 f1 t2 (IntKind.wrap .i64 (t3 + 1))))
  else none
  else
  some (.inr (-1))
noncomputable def Dslices_IndexFunc_i_Kind_i_kindIndex_1 (a0 : (List Gi_Kind)) (a100 : ByteArray) : Option (Int) :=
 loop Bslices_IndexFunc_i_Kind_i_kindIndex_1 (.h1 a0 a100 ((a0.length : Nat) : Int) 0)
noncomputable def Di_kindIndex (a0 : (List Gi_Kind)) (a1 : ByteArray) : Option (Int) :=
 Option.bind (Dslices_IndexFunc_i_Kind_i_kindIndex_1 a0 a1) fun r1 =>
 some r1
inductive Si_IsRules where
 | h1 (t0 : (List Gi_Terrain)) (t1 : Int) (t2 : Int) (b3 : Gi_Rules)
 | h2 (t0 : (List Gi_Kind)) (t1 : Int) (t2 : Int) (b3 : Gi_Rules)
noncomputable def Bi_IsRules : Si_IsRules → Option (Si_IsRules ⊕ (Bool))
 | .h1 t0 t1 t2 b3 =>
  if t2 < t1 then
  if 0 ≤ t2 then
  Option.bind (t0[(Int.toNat t2)]?) fun x3 =>
  Option.bind (Di_goodTerrain x3 ((b3.Kinds.length : Nat) : Int)) fun r4 =>
  if r4 = true then
  Option.bind (Di_terrainIndex b3.Terrains x3.Name) fun r6 =>
  if (r6 : Int) = t2 then
  some (.inl (.h1 t0 t1 (IntKind.wrap .i64 (t2 + 1)) b3))
  else
  some (.inr false)
  else
  some (.inr false)
  else none
  else
  some (.inl (.h2 b3.Kinds ((b3.Kinds.length : Nat) : Int) 0 b3))
 | .h2 t0 t1 t2 b3 =>
  if t2 < t1 then
  if 0 ≤ t2 then
  Option.bind (t0[(Int.toNat t2)]?) fun x3 =>
  Option.bind (Di_goodKind x3) fun r4 =>
  if r4 = true then
  Option.bind (Di_kindIndex b3.Kinds x3.Name) fun r6 =>
  if (r6 : Int) = t2 then
  some (.inl (.h2 t0 t1 (IntKind.wrap .i64 (t2 + 1)) b3))
  else
  some (.inr false)
  else
  some (.inr false)
  else none
  else
  Option.bind (Di_inRange b3.Stack 1 4) fun r2 =>
  if r2 = true then
  Option.bind (Di_inRange b3.River 0 9) fun r4 =>
  if r4 = true then
  Option.bind (Di_inRange b3.Road 1 9) fun r6 =>
  if r6 = true then
  Option.bind (Di_inRange b3.Supply 0 20) fun r8 =>
  if r8 = true then
  Option.bind (Di_inRange b3.Turns 1 30) fun r10 =>
  some (.inr r10)
  else
  some (.inr false)
  else
  some (.inr false)
  else
  some (.inr false)
  else
  some (.inr false)
noncomputable def Di_IsRules (a0 : Gi_Rules) : Option (Bool) :=
 Option.bind (Di_inRange ((a0.Terrains.length : Nat) : Int) 1 6) fun r1 =>
 if r1 = true then
 Option.bind (Di_inRange ((a0.Kinds.length : Nat) : Int) 1 4) fun r3 =>
 if r3 = true then
 loop Bi_IsRules (.h1 a0.Terrains ((a0.Terrains.length : Nat) : Int) 0 a0)
 else
 some false
 else
 some false
noncomputable def Di_isIndex (a0 : Int) (a1 : Int) : Option (Bool) :=
 Option.bind (Di_inRange a0 0 (IntKind.wrap .i64 (a1 - 1))) fun r1 =>
 some r1
inductive Si_increasing where
 | h1 (list0 : (List Int)) (i1 : Int)
noncomputable def Bi_increasing : Si_increasing → Option (Si_increasing ⊕ (Bool))
 | .h1 list0 i1 =>
  if i1 < ((list0.length : Nat) : Int) then
  if 0 ≤ (IntKind.wrap .i64 (i1 - 1)) then
  Option.bind (list0[(Int.toNat (IntKind.wrap .i64 (i1 - 1)))]?) fun x3 =>
  if 0 ≤ i1 then
  Option.bind (list0[(Int.toNat i1)]?) fun x5 =>
  if x3 ≥ x5 then
  some (.inr false)
  else
  some (.inl (.h1 list0 (IntKind.wrap .i64 (i1 + 1))))
  else none
  else none
  else
  some (.inr true)
noncomputable def Di_increasing (a0 : (List Int)) : Option (Bool) :=
 loop Bi_increasing (.h1 a0 1)
noncomputable def Di_hexOf (a0 : Gi_Map) (a1 : Int) : Option (Gi_Hex) :=
 if ¬ a0.Width = 0 then
 if ¬ a0.Width = 0 then
 some (Gi_Hex.mk (Int.tmod a1 a0.Width) (IntKind.wrap .i64 (Int.tdiv a1 a0.Width)))
 else none
 else none
noncomputable def Di_stepBy (a0 : Gi_Hex) (a1 : Int) (a2 : Int) : Option (Gi_Hex) :=
 if 0 ≤ a1 then
 Option.bind (gv0[Int.toNat a1]?) fun x2 =>
 if 0 ≤ a1 then
 Option.bind (gv0[Int.toNat a1]?) fun x4 =>
 some (Gi_Hex.mk (IntKind.wrap .i64 (a0.Q + (IntKind.wrap .i64 (a2 * x2.Q)))) (IntKind.wrap .i64 (a0.R + (IntKind.wrap .i64 (a2 * x4.R)))))
 else none
 else none
noncomputable def Di_indexOf (a0 : Gi_Map) (a1 : Gi_Hex) : Option (Int) :=
 Option.bind (Di_isIndex a1.Q a0.Width) fun r1 =>
 if r1 = true then
 Option.bind (Di_isIndex a1.R a0.Height) fun r3 =>
 if r3 = true then
 some (IntKind.wrap .i64 ((IntKind.wrap .i64 (a1.R * a0.Width)) + a1.Q))
 else
 some (-1)
 else
 some (-1)
noncomputable def Di_nextTo (a0 : Gi_Map) (a1 : Int) (a2 : Int) : Option (Int) :=
 Option.bind (Di_hexOf a0 a1) fun r1 =>
 Option.bind (Di_stepBy r1 a2 1) fun r2 =>
 Option.bind (Di_indexOf a0 r2) fun r3 =>
 some r3
noncomputable def Di_isEdge (a0 : Gi_Map) (a1 : Int) : Option (Bool) :=
 Option.bind (Di_inRange a1 0 (IntKind.wrap .i64 ((IntKind.wrap .i64 ((IntKind.wrap .i64 (3 * a0.Width)) * a0.Height)) - 1))) fun r1 =>
 if r1 = true then
 Option.bind (Di_nextTo a0 (IntKind.wrap .i64 (Int.tdiv a1 3)) (Int.tmod a1 3)) fun r3 =>
 some (decide (r3 ≥ 0))
 else
 some false
inductive Si_IsMap where
 | h1 (t0 : (List Int)) (t1 : Int) (t2 : Int) (b3 : Gi_Map)
 | h2 (t0 : Int) (t1 : Int) (b2 : Gi_Map) (l3 : (List (List Int)))
 | h3 (t0 : Int) (t1 : Int) (t2 : (List Int)) (t3 : Int) (t4 : Int) (b5 : Gi_Map) (l6 : (List (List Int)))
noncomputable def Bi_IsMap : Si_IsMap → Option (Si_IsMap ⊕ (Bool))
 | .h1 t0 t1 t2 b3 =>
  if t2 < t1 then
  if 0 ≤ t2 then
  Option.bind (t0[(Int.toNat t2)]?) fun x3 =>
  Option.bind (Di_isIndex x3 6) fun r4 =>
  if r4 = true then
  some (.inl (.h1 t0 t1 (IntKind.wrap .i64 (t2 + 1)) b3))
  else
  some (.inr false)
  else none
  else
  some (.inl (.h2 (([b3.Rivers, b3.Roads].length : Nat) : Int) 0 b3 [b3.Rivers, b3.Roads]))
 | .h2 t0 t1 b2 l3 =>
  if t1 < t0 then
  if 0 ≤ t1 then
  Option.bind (l3[(Int.toNat t1)]?) fun x3 =>
  Option.bind (Di_increasing x3) fun r4 =>
  if r4 = true then
  some (.inl (.h3 t0 t1 x3 ((x3.length : Nat) : Int) 0 b2 l3))
  else
  some (.inr false)
  else none
  else
  some (.inr true)
 | .h3 t0 t1 t2 t3 t4 b5 l6 =>
  if t4 < t3 then
  if 0 ≤ t4 then
  Option.bind (t2[(Int.toNat t4)]?) fun x3 =>
  Option.bind (Di_isEdge b5 x3) fun r4 =>
  if r4 = true then
  some (.inl (.h3 t0 t1 t2 t3 (IntKind.wrap .i64 (t4 + 1)) b5 l6))
  else
  some (.inr false)
  else none
  else
  some (.inl (.h2 t0 (IntKind.wrap .i64 (t1 + 1)) b5 l6))
noncomputable def Di_IsMap (a0 : Gi_Map) : Option (Bool) :=
 Option.bind (Di_inRange a0.Width 1 10) fun r1 =>
 if r1 = true then
 Option.bind (Di_inRange a0.Height 1 10) fun r3 =>
 if r3 = true then
 if (((a0.Terrain.length : Nat) : Int) : Int) = (IntKind.wrap .i64 (a0.Width * a0.Height)) then
 loop Bi_IsMap (.h1 a0.Terrain ((a0.Terrain.length : Nat) : Int) 0 a0)
 else
 some false
 else
 some false
 else
 some false
noncomputable def Di_IsBoard_1 (a0 : Int) (a1 : Gi_Board) : Option (Bool) :=
 some (decide (a0 ≥ ((a1.Rules.Terrains.length : Nat) : Int)))
inductive Sslices_IndexFunc_int_i_IsBoard_1 where
 | h1 (s0 : (List Int)) (f1 : Gi_Board) (t2 : Int) (t3 : Int)
noncomputable def Bslices_IndexFunc_int_i_IsBoard_1 : Sslices_IndexFunc_int_i_IsBoard_1 → Option (Sslices_IndexFunc_int_i_IsBoard_1 ⊕ (Int))
 | .h1 s0 f1 t2 t3 =>
  if t3 < t2 then
  if 0 ≤ t3 then
  Option.bind (s0[(Int.toNat t3)]?) fun x3 =>
  Option.bind (Di_IsBoard_1 x3 f1) fun r4 =>
  if r4 = true then
  some (.inr t3)
  else
  some (.inl (.h1 s0 f1 t2 (IntKind.wrap .i64 (t3 + 1))))
  else none
  else
  some (.inr (-1))
noncomputable def Dslices_IndexFunc_int_i_IsBoard_1 (a0 : (List Int)) (a100 : Gi_Board) : Option (Int) :=
 loop Bslices_IndexFunc_int_i_IsBoard_1 (.h1 a0 a100 ((a0.length : Nat) : Int) 0)
noncomputable def Dslices_ContainsFunc_int_i_IsBoard_1 (a0 : (List Int)) (a100 : Gi_Board) : Option (Bool) :=
 Option.bind (Dslices_IndexFunc_int_i_IsBoard_1 a0 a100) fun r1 =>
 some (decide (r1 ≥ 0))
noncomputable def Di_IsBoard (a0 : Gi_Board) : Option (Bool) :=
 Option.bind (Di_IsRules a0.Rules) fun r1 =>
 if r1 = true then
 Option.bind (Di_IsMap a0.Map) fun r3 =>
 if r3 = true then
 Option.bind (Dslices_ContainsFunc_int_i_IsBoard_1 a0.Map.Terrain a0) fun r5 =>
 some (!r5)
 else
 some false
 else
 some false
noncomputable def Di_isResult (a0 : Int) : Option (Bool) :=
 Option.bind (Di_inRange a0 0 7) fun r1 =>
 some r1
noncomputable def Di_IsCombatTable_1 (a0 : Int) : Option (Bool) :=
 Option.bind (Di_isResult a0) fun r1 =>
 some (!r1)
inductive Sslices_IndexFunc_int_i_IsCombatTable_1 where
 | h1 (s0 : (List Int)) (t1 : Int) (t2 : Int)
noncomputable def Bslices_IndexFunc_int_i_IsCombatTable_1 : Sslices_IndexFunc_int_i_IsCombatTable_1 → Option (Sslices_IndexFunc_int_i_IsCombatTable_1 ⊕ (Int))
 | .h1 s0 t1 t2 =>
  if t2 < t1 then
  if 0 ≤ t2 then
  Option.bind (s0[(Int.toNat t2)]?) fun x3 =>
  Option.bind (Di_IsCombatTable_1 x3) fun r4 =>
  if r4 = true then
  some (.inr t2)
  else
  some (.inl (.h1 s0 t1 (IntKind.wrap .i64 (t2 + 1))))
  else none
  else
  some (.inr (-1))
noncomputable def Dslices_IndexFunc_int_i_IsCombatTable_1 (a0 : (List Int)) : Option (Int) :=
 loop Bslices_IndexFunc_int_i_IsCombatTable_1 (.h1 a0 ((a0.length : Nat) : Int) 0)
noncomputable def Dslices_ContainsFunc_int_i_IsCombatTable_1 (a0 : (List Int)) : Option (Bool) :=
 Option.bind (Dslices_IndexFunc_int_i_IsCombatTable_1 a0) fun r1 =>
 some (decide (r1 ≥ 0))
inductive Si_IsCombatTable where
 | h1 (t0 : (List Gi_Odds)) (t1 : Int) (t2 : Int) (b3 : Gi_CombatTable)
 | h2 (t0 : (List (List Int))) (t1 : Int) (t2 : Int) (b3 : Gi_CombatTable)
noncomputable def Bi_IsCombatTable : Si_IsCombatTable → Option (Si_IsCombatTable ⊕ (Bool))
 | .h1 t0 t1 t2 b3 =>
  if t2 < t1 then
  if 0 ≤ t2 then
  Option.bind (t0[(Int.toNat t2)]?) fun x3 =>
  Option.bind (Di_inRange x3.Num 1 20) fun r4 =>
  if r4 = true then
  Option.bind (Di_inRange x3.Den 1 20) fun r6 =>
  if r6 = true then
  if t2 > 0 then
  if 0 ≤ (IntKind.wrap .i64 (t2 - 1)) then
  Option.bind (b3.Columns[(Int.toNat (IntKind.wrap .i64 (t2 - 1)))]?) fun x10 =>
  if 0 ≤ (IntKind.wrap .i64 (t2 - 1)) then
  Option.bind (b3.Columns[(Int.toNat (IntKind.wrap .i64 (t2 - 1)))]?) fun x12 =>
  if (IntKind.wrap .i64 (x10.Num * x3.Den)) ≥ (IntKind.wrap .i64 (x3.Num * x12.Den)) then
  some (.inr false)
  else
  some (.inl (.h1 t0 t1 (IntKind.wrap .i64 (t2 + 1)) b3))
  else none
  else none
  else
  some (.inl (.h1 t0 t1 (IntKind.wrap .i64 (t2 + 1)) b3))
  else
  some (.inr false)
  else
  some (.inr false)
  else none
  else
  some (.inl (.h2 b3.Results ((b3.Results.length : Nat) : Int) 0 b3))
 | .h2 t0 t1 t2 b3 =>
  if t2 < t1 then
  if 0 ≤ t2 then
  Option.bind (t0[(Int.toNat t2)]?) fun x3 =>
  if (((x3.length : Nat) : Int) : Int) = ((b3.Columns.length : Nat) : Int) then
  Option.bind (Dslices_ContainsFunc_int_i_IsCombatTable_1 x3) fun r5 =>
  if r5 = true then
  some (.inr false)
  else
  some (.inl (.h2 t0 t1 (IntKind.wrap .i64 (t2 + 1)) b3))
  else
  some (.inr false)
  else none
  else
  some (.inr true)
noncomputable def Di_IsCombatTable (a0 : Gi_CombatTable) : Option (Bool) :=
 Option.bind (Di_inRange ((a0.Columns.length : Nat) : Int) 1 8) fun r1 =>
 if r1 = true then
 Option.bind (Di_inRange a0.Dice 1 2) fun r3 =>
 if r3 = true then
 if (((a0.Results.length : Nat) : Int) : Int) = (IntKind.wrap .i64 ((IntKind.wrap .i64 (5 * a0.Dice)) + 1)) then
 loop Bi_IsCombatTable (.h1 a0.Columns ((a0.Columns.length : Nat) : Int) 0 a0)
 else
 some false
 else
 some false
 else
 some false
noncomputable def Di_sizeOf (a0 : Gi_Board) : Option (Int) :=
 some ((a0.Map.Terrain.length : Nat) : Int)
noncomputable def Di_isSide (a0 : Int) : Option (Bool) :=
 Option.bind (Di_inRange a0 0 1) fun r1 =>
 some r1
noncomputable def Di_terrainAt (a0 : Gi_Board) (a1 : Int) : Option (Gi_Terrain) :=
 if 0 ≤ a1 then
 Option.bind (a0.Map.Terrain[(Int.toNat a1)]?) fun x2 =>
 if 0 ≤ x2 then
 Option.bind (a0.Rules.Terrains[(Int.toNat x2)]?) fun x4 =>
 some x4
 else none
 else none
noncomputable def Di_enterCost (a0 : Gi_Board) (a1 : Int) (a2 : Int) : Option (Int) :=
 Option.bind (Di_terrainAt a0 a2) fun r1 =>
 if 0 ≤ a1 then
 Option.bind (r1.Cost[(Int.toNat a1)]?) fun x3 =>
 some x3
 else none
noncomputable def Di_goodUnit (a0 : Gi_Board) (a1 : Gi_Unit) : Option (Bool) :=
 Option.bind (Di_isSide a1.Side) fun r1 =>
 if r1 = true then
 Option.bind (Di_isIndex a1.Kind ((a0.Rules.Kinds.length : Nat) : Int)) fun r3 =>
 if r3 = true then
 if 0 ≤ a1.Kind then
 Option.bind (a0.Rules.Kinds[(Int.toNat a1.Kind)]?) fun x6 =>
 Option.bind (Di_inRange a1.Steps 0 x6.Steps) fun r7 =>
 if r7 = true then
 if (a1.At : Int) = (-1) then
 some true
 else
 if a1.Steps > 0 then
 Option.bind (Di_sizeOf a0) fun r11 =>
 Option.bind (Di_isIndex a1.At r11) fun r12 =>
 if r12 = true then
 Option.bind (Di_enterCost a0 a1.Kind a1.At) fun r14 =>
 some ((r14 : Int) != 0)
 else
 some false
 else
 some false
 else
 some false
 else none
 else
 some false
 else
 some false
inductive Si_goodState where
 | h1 (t0 : (List Gi_Unit)) (t1 : Int) (t2 : Int) (b3 : Gi_Board) (l4 : (List GA2I))
noncomputable def Bi_goodState : Si_goodState → Option (Si_goodState ⊕ (Bool))
 | .h1 t0 t1 t2 b3 l4 =>
  if t2 < t1 then
  if 0 ≤ t2 then
  Option.bind (t0[(Int.toNat t2)]?) fun x3 =>
  Option.bind (Di_goodUnit b3 x3) fun r4 =>
  if r4 = true then
  if x3.At < 0 then
  some (.inl (.h1 t0 t1 (IntKind.wrap .i64 (t2 + 1)) b3 l4))
  else
  if 0 ≤ x3.At then
  Option.bind (l4[(Int.toNat x3.At)]?) fun x8 =>
  if x3.Side = 0 then
  if 0 ≤ x3.At then
  Option.bind (l4[(Int.toNat x3.At)]?) fun x11 =>
  if 0 ≤ x3.At then
  Option.bind ((List.set l4 (Int.toNat x3.At) (GA2I.mk (IntKind.wrap .i64 (x8.c0 + 1)) x11.c1))[(Int.toNat x3.At)]?) fun x13 =>
  if (IntKind.wrap .i64 (1 - x3.Side)) = 0 then
  if x13.c0 > 0 then
  some (.inr false)
  else
  if 0 ≤ x3.At then
  Option.bind ((List.set l4 (Int.toNat x3.At) (GA2I.mk (IntKind.wrap .i64 (x8.c0 + 1)) x11.c1))[(Int.toNat x3.At)]?) fun x17 =>
  if x17.c0 > b3.Rules.Stack then
  some (.inr false)
  else
  some (.inl (.h1 t0 t1 (IntKind.wrap .i64 (t2 + 1)) b3 (List.set l4 (Int.toNat x3.At) (GA2I.mk (IntKind.wrap .i64 (x8.c0 + 1)) x11.c1))))
  else none
  else
  if (IntKind.wrap .i64 (1 - x3.Side)) = 1 then
  if x13.c1 > 0 then
  some (.inr false)
  else
  if 0 ≤ x3.At then
  Option.bind ((List.set l4 (Int.toNat x3.At) (GA2I.mk (IntKind.wrap .i64 (x8.c0 + 1)) x11.c1))[(Int.toNat x3.At)]?) fun x18 =>
  if x18.c0 > b3.Rules.Stack then
  some (.inr false)
  else
  some (.inl (.h1 t0 t1 (IntKind.wrap .i64 (t2 + 1)) b3 (List.set l4 (Int.toNat x3.At) (GA2I.mk (IntKind.wrap .i64 (x8.c0 + 1)) x11.c1))))
  else none
  else none
  else none
  else none
  else
  if x3.Side = 1 then
  if 0 ≤ x3.At then
  Option.bind (l4[(Int.toNat x3.At)]?) fun x12 =>
  if 0 ≤ x3.At then
  Option.bind ((List.set l4 (Int.toNat x3.At) (GA2I.mk x12.c0 (IntKind.wrap .i64 (x8.c1 + 1))))[(Int.toNat x3.At)]?) fun x14 =>
  if (IntKind.wrap .i64 (1 - x3.Side)) = 0 then
  if x14.c0 > 0 then
  some (.inr false)
  else
  if 0 ≤ x3.At then
  Option.bind ((List.set l4 (Int.toNat x3.At) (GA2I.mk x12.c0 (IntKind.wrap .i64 (x8.c1 + 1))))[(Int.toNat x3.At)]?) fun x18 =>
  if x18.c1 > b3.Rules.Stack then
  some (.inr false)
  else
  some (.inl (.h1 t0 t1 (IntKind.wrap .i64 (t2 + 1)) b3 (List.set l4 (Int.toNat x3.At) (GA2I.mk x12.c0 (IntKind.wrap .i64 (x8.c1 + 1))))))
  else none
  else
  if (IntKind.wrap .i64 (1 - x3.Side)) = 1 then
  if x14.c1 > 0 then
  some (.inr false)
  else
  if 0 ≤ x3.At then
  Option.bind ((List.set l4 (Int.toNat x3.At) (GA2I.mk x12.c0 (IntKind.wrap .i64 (x8.c1 + 1))))[(Int.toNat x3.At)]?) fun x19 =>
  if x19.c1 > b3.Rules.Stack then
  some (.inr false)
  else
  some (.inl (.h1 t0 t1 (IntKind.wrap .i64 (t2 + 1)) b3 (List.set l4 (Int.toNat x3.At) (GA2I.mk x12.c0 (IntKind.wrap .i64 (x8.c1 + 1))))))
  else none
  else none
  else none
  else none
  else none
  else none
  else
  some (.inr false)
  else none
  else
  some (.inr true)
noncomputable def Di_goodState (a0 : Gi_Board) (a1 : Gi_State) : Option (Bool) :=
 Option.bind (Di_inRange a1.Turn 0 a0.Rules.Turns) fun r1 =>
 if r1 = true then
 Option.bind (Di_inRange a1.Weather 0 2) fun r3 =>
 if r3 = true then
 if ((a1.Units.length : Nat) : Int) > 12 then
 some false
 else
 Option.bind (Di_sizeOf a0) fun r6 =>
 if 0 ≤ r6 then
 if Int.toNat r6 * 16 ≤ 140737488355328 then
 loop Bi_goodState (.h1 a1.Units ((a1.Units.length : Nat) : Int) 0 a0 (List.replicate (Int.toNat r6) (GA2I.mk 0 0)))
 else none
 else none
 else
 some false
 else
 some false
inductive Si_goodConditions where
 | h1 (t0 : (List Gi_Goal)) (t1 : Int) (t2 : Int) (b3 : Gi_Board) (b4 : Gi_Conditions)
noncomputable def Bi_goodConditions : Si_goodConditions → Option (Si_goodConditions ⊕ (Bool))
 | .h1 t0 t1 t2 b3 b4 =>
  if t2 < t1 then
  if 0 ≤ t2 then
  Option.bind (t0[(Int.toNat t2)]?) fun x3 =>
  Option.bind (Di_sizeOf b3) fun r4 =>
  Option.bind (Di_isIndex x3.At r4) fun r5 =>
  if r5 = true then
  Option.bind (Di_inRange x3.Points 1 20) fun r7 =>
  if r7 = true then
  if t2 > 0 then
  if 0 ≤ (IntKind.wrap .i64 (t2 - 1)) then
  Option.bind (b4.Goals[(Int.toNat (IntKind.wrap .i64 (t2 - 1)))]?) fun x11 =>
  if x11.At ≥ x3.At then
  some (.inr false)
  else
  some (.inl (.h1 t0 t1 (IntKind.wrap .i64 (t2 + 1)) b3 b4))
  else none
  else
  some (.inl (.h1 t0 t1 (IntKind.wrap .i64 (t2 + 1)) b3 b4))
  else
  some (.inr false)
  else
  some (.inr false)
  else none
  else
  some (.inr true)
noncomputable def Di_goodConditions (a0 : Gi_Board) (a1 : Gi_Conditions) : Option (Bool) :=
 if ((a1.Goals.length : Nat) : Int) > 12 then
 some false
 else
 Option.bind (Di_inRange a1.Step 0 9) fun r2 =>
 if r2 = true then
 Option.bind (Di_inRange a1.Margin 0 200) fun r4 =>
 if r4 = true then
 loop Bi_goodConditions (.h1 a1.Goals ((a1.Goals.length : Nat) : Int) 0 a0 a1)
 else
 some false
 else
 some false
noncomputable def Di_areSources_1 (a0 : Int) (a1 : Gi_Board) : Option (Bool) :=
 Option.bind (Di_sizeOf a1) fun r1 =>
 Option.bind (Di_isIndex a0 r1) fun r2 =>
 some (!r2)
inductive Sslices_IndexFunc_int_i_areSources_1 where
 | h1 (s0 : (List Int)) (f1 : Gi_Board) (t2 : Int) (t3 : Int)
noncomputable def Bslices_IndexFunc_int_i_areSources_1 : Sslices_IndexFunc_int_i_areSources_1 → Option (Sslices_IndexFunc_int_i_areSources_1 ⊕ (Int))
 | .h1 s0 f1 t2 t3 =>
  if t3 < t2 then
  if 0 ≤ t3 then
  Option.bind (s0[(Int.toNat t3)]?) fun x3 =>
  Option.bind (Di_areSources_1 x3 f1) fun r4 =>
  if r4 = true then
  some (.inr t3)
  else
  some (.inl (.h1 s0 f1 t2 (IntKind.wrap .i64 (t3 + 1))))
  else none
  else
  some (.inr (-1))
noncomputable def Dslices_IndexFunc_int_i_areSources_1 (a0 : (List Int)) (a100 : Gi_Board) : Option (Int) :=
 loop Bslices_IndexFunc_int_i_areSources_1 (.h1 a0 a100 ((a0.length : Nat) : Int) 0)
noncomputable def Dslices_ContainsFunc_int_i_areSources_1 (a0 : (List Int)) (a100 : Gi_Board) : Option (Bool) :=
 Option.bind (Dslices_IndexFunc_int_i_areSources_1 a0 a100) fun r1 =>
 some (decide (r1 ≥ 0))
noncomputable def Di_areSources (a0 : Gi_Board) (a1 : (List Int)) : Option (Bool) :=
 if ((a1.length : Nat) : Int) ≤ 6 then
 Option.bind (Di_increasing a1) fun r2 =>
 if r2 = true then
 Option.bind (Dslices_ContainsFunc_int_i_areSources_1 a1 a0) fun r4 =>
 some (!r4)
 else
 some false
 else
 some false
noncomputable def Di_ScenarioFault (a0 : Gi_Scenario) : Option (Int) :=
 Option.bind (Di_isName a0.Name) fun r1 =>
 if r1 = true then
 Option.bind (Di_IsBoard a0.Board) fun r3 =>
 if r3 = true then
 Option.bind (Di_IsCombatTable a0.Table) fun r5 =>
 if r5 = true then
 Option.bind (Di_goodState a0.Board a0.Start) fun r7 =>
 if r7 = true then
 Option.bind (Di_goodConditions a0.Board a0.Conditions) fun r9 =>
 if r9 = true then
 Option.bind (Di_areSources a0.Board a0.First) fun r11 =>
 if r11 = true then
 Option.bind (Di_areSources a0.Board a0.Other) fun r13 =>
 if r13 = true then
 some 0
 else
 some 6
 else
 some 6
 else
 some 5
 else
 some 4
 else
 some 3
 else
 some 2
 else
 some 1
noncomputable def Di_IsScenario (a0 : Gi_Scenario) : Option (Bool) :=
 Option.bind (Di_ScenarioFault a0) fun r1 =>
 some ((r1 : Int) == 0)
noncomputable def Dstrconv_Itoa (a0 : Int) : Option ByteArray := itoaD a0
noncomputable def Dstrings_Join (a0 : (List ByteArray)) (a1 : ByteArray) : Option ByteArray := joinD a0 a1
inductive Si_wordsText where
 | h1 (t0 : (List Int)) (t1 : Int) (t2 : Int) (l3 : (List ByteArray))
noncomputable def Bi_wordsText : Si_wordsText → Option (Si_wordsText ⊕ (ByteArray))
 | .h1 t0 t1 t2 l3 =>
  if t2 < t1 then
  if 0 ≤ t2 then
  Option.bind (t0[(Int.toNat t2)]?) fun x3 =>
  Option.bind (Dstrconv_Itoa x3) fun r4 =>
  if (l3 ++ [r4]).length * 16 ≤ 70368744177664 then
  some (.inl (.h1 t0 t1 (IntKind.wrap .i64 (t2 + 1)) (l3 ++ [r4])))
  else none
  else none
  else
  Option.bind (Dstrings_Join l3 ⟨#[32]⟩) fun r2 =>
  some (.inr r2)
noncomputable def Di_wordsText (a0 : ByteArray) (a1 : (List Int)) : Option (ByteArray) :=
 loop Bi_wordsText (.h1 a1 ((a1.length : Nat) : Int) 0 [a0])
noncomputable def Di_kindLine (a0 : Gi_Kind) : Option (ByteArray) :=
 if ByteArray.size ⟨#[107, 105, 110, 100, 32]⟩ + ByteArray.size a0.Name ≤ 9223372036854775807 then
 if ByteArray.size (⟨#[107, 105, 110, 100, 32]⟩ ++ a0.Name) + ByteArray.size ⟨#[32]⟩ ≤ 9223372036854775807 then
 Option.bind (Di_wordsText ⟨#[115, 116, 114, 101, 110, 103, 116, 104]⟩ [a0.Strength]) fun r3 =>
 if ByteArray.size ((⟨#[107, 105, 110, 100, 32]⟩ ++ a0.Name) ++ ⟨#[32]⟩) + ByteArray.size r3 ≤ 9223372036854775807 then
 if ByteArray.size (((⟨#[107, 105, 110, 100, 32]⟩ ++ a0.Name) ++ ⟨#[32]⟩) ++ r3) + ByteArray.size ⟨#[32]⟩ ≤ 9223372036854775807 then
 Option.bind (Di_wordsText ⟨#[109, 111, 118, 101, 115]⟩ [a0.Moves]) fun r6 =>
 if ByteArray.size ((((⟨#[107, 105, 110, 100, 32]⟩ ++ a0.Name) ++ ⟨#[32]⟩) ++ r3) ++ ⟨#[32]⟩) + ByteArray.size r6 ≤ 9223372036854775807 then
 if ByteArray.size (((((⟨#[107, 105, 110, 100, 32]⟩ ++ a0.Name) ++ ⟨#[32]⟩) ++ r3) ++ ⟨#[32]⟩) ++ r6) + ByteArray.size ⟨#[32]⟩ ≤ 9223372036854775807 then
 Option.bind (Di_wordsText ⟨#[115, 116, 101, 112, 115]⟩ [a0.Steps]) fun r9 =>
 if ByteArray.size ((((((⟨#[107, 105, 110, 100, 32]⟩ ++ a0.Name) ++ ⟨#[32]⟩) ++ r3) ++ ⟨#[32]⟩) ++ r6) ++ ⟨#[32]⟩) + ByteArray.size r9 ≤ 9223372036854775807 then
 if ByteArray.size (((((((⟨#[107, 105, 110, 100, 32]⟩ ++ a0.Name) ++ ⟨#[32]⟩) ++ r3) ++ ⟨#[32]⟩) ++ r6) ++ ⟨#[32]⟩) ++ r9) + ByteArray.size ⟨#[32]⟩ ≤ 9223372036854775807 then
 Option.bind (Di_wordsText ⟨#[118, 105, 101, 119]⟩ [a0.View]) fun r12 =>
 if ByteArray.size ((((((((⟨#[107, 105, 110, 100, 32]⟩ ++ a0.Name) ++ ⟨#[32]⟩) ++ r3) ++ ⟨#[32]⟩) ++ r6) ++ ⟨#[32]⟩) ++ r9) ++ ⟨#[32]⟩) + ByteArray.size r12 ≤ 9223372036854775807 then
 if a0.Zone = true then
 if ByteArray.size (((((((((⟨#[107, 105, 110, 100, 32]⟩ ++ a0.Name) ++ ⟨#[32]⟩) ++ r3) ++ ⟨#[32]⟩) ++ r6) ++ ⟨#[32]⟩) ++ r9) ++ ⟨#[32]⟩) ++ r12) + ByteArray.size ⟨#[32, 122, 111, 110, 101]⟩ ≤ 9223372036854775807 then
 some ((((((((((⟨#[107, 105, 110, 100, 32]⟩ ++ a0.Name) ++ ⟨#[32]⟩) ++ r3) ++ ⟨#[32]⟩) ++ r6) ++ ⟨#[32]⟩) ++ r9) ++ ⟨#[32]⟩) ++ r12) ++ ⟨#[32, 122, 111, 110, 101]⟩)
 else none
 else
 some (((((((((⟨#[107, 105, 110, 100, 32]⟩ ++ a0.Name) ++ ⟨#[32]⟩) ++ r3) ++ ⟨#[32]⟩) ++ r6) ++ ⟨#[32]⟩) ++ r9) ++ ⟨#[32]⟩) ++ r12)
 else none
 else none
 else none
 else none
 else none
 else none
 else none
 else none
 else none
noncomputable def Di_terrainLine (a0 : Gi_Terrain) : Option (ByteArray) :=
 if ByteArray.size ⟨#[116, 101, 114, 114, 97, 105, 110, 32]⟩ + ByteArray.size a0.Name ≤ 9223372036854775807 then
 if ByteArray.size (⟨#[116, 101, 114, 114, 97, 105, 110, 32]⟩ ++ a0.Name) + ByteArray.size ⟨#[32]⟩ ≤ 9223372036854775807 then
 Option.bind (Di_wordsText ⟨#[115, 104, 105, 102, 116]⟩ [a0.Shift]) fun r3 =>
 if ByteArray.size ((⟨#[116, 101, 114, 114, 97, 105, 110, 32]⟩ ++ a0.Name) ++ ⟨#[32]⟩) + ByteArray.size r3 ≤ 9223372036854775807 then
 if ByteArray.size (((⟨#[116, 101, 114, 114, 97, 105, 110, 32]⟩ ++ a0.Name) ++ ⟨#[32]⟩) ++ r3) + ByteArray.size ⟨#[32]⟩ ≤ 9223372036854775807 then
 Option.bind (Di_wordsText ⟨#[104, 101, 105, 103, 104, 116]⟩ [a0.Height]) fun r6 =>
 if ByteArray.size ((((⟨#[116, 101, 114, 114, 97, 105, 110, 32]⟩ ++ a0.Name) ++ ⟨#[32]⟩) ++ r3) ++ ⟨#[32]⟩) + ByteArray.size r6 ≤ 9223372036854775807 then
 if ByteArray.size (((((⟨#[116, 101, 114, 114, 97, 105, 110, 32]⟩ ++ a0.Name) ++ ⟨#[32]⟩) ++ r3) ++ ⟨#[32]⟩) ++ r6) + ByteArray.size ⟨#[32]⟩ ≤ 9223372036854775807 then
 Option.bind (Di_wordsText ⟨#[99, 111, 115, 116]⟩ a0.Cost) fun r9 =>
 if ByteArray.size ((((((⟨#[116, 101, 114, 114, 97, 105, 110, 32]⟩ ++ a0.Name) ++ ⟨#[32]⟩) ++ r3) ++ ⟨#[32]⟩) ++ r6) ++ ⟨#[32]⟩) + ByteArray.size r9 ≤ 9223372036854775807 then
 if a0.Blocks = true then
 if ByteArray.size (((((((⟨#[116, 101, 114, 114, 97, 105, 110, 32]⟩ ++ a0.Name) ++ ⟨#[32]⟩) ++ r3) ++ ⟨#[32]⟩) ++ r6) ++ ⟨#[32]⟩) ++ r9) + ByteArray.size ⟨#[32, 98, 108, 111, 99, 107, 115]⟩ ≤ 9223372036854775807 then
 some ((((((((⟨#[116, 101, 114, 114, 97, 105, 110, 32]⟩ ++ a0.Name) ++ ⟨#[32]⟩) ++ r3) ++ ⟨#[32]⟩) ++ r6) ++ ⟨#[32]⟩) ++ r9) ++ ⟨#[32, 98, 108, 111, 99, 107, 115]⟩)
 else none
 else
 some (((((((⟨#[116, 101, 114, 114, 97, 105, 110, 32]⟩ ++ a0.Name) ++ ⟨#[32]⟩) ++ r3) ++ ⟨#[32]⟩) ++ r6) ++ ⟨#[32]⟩) ++ r9)
 else none
 else none
 else none
 else none
 else none
 else none
 else none
inductive Si_rulesText where
 | h1 (t0 : GA5I) (t1 : Int) (b2 : Gi_Rules) (l3 : (List ByteArray))
 | h2 (t0 : (List Gi_Kind)) (t1 : Int) (t2 : Int) (b3 : Gi_Rules) (l4 : (List ByteArray))
 | h3 (t0 : (List Gi_Terrain)) (t1 : Int) (t2 : Int) (l3 : (List ByteArray))
noncomputable def Bi_rulesText : Si_rulesText → Option (Si_rulesText ⊕ (ByteArray))
 | .h1 t0 t1 b2 l3 =>
  if t1 < 5 then
  if t1 = 0 then
  if 0 ≤ t1 then
  Option.bind (gv100[Int.toNat t1]?) fun x4 =>
  Option.bind (Di_wordsText x4 [t0.c0]) fun r5 =>
  if (l3 ++ [r5]).length * 16 ≤ 70368744177664 then
  some (.inl (.h1 t0 (IntKind.wrap .i64 (t1 + 1)) b2 (l3 ++ [r5])))
  else none
  else none
  else
  if t1 = 1 then
  if 0 ≤ t1 then
  Option.bind (gv100[Int.toNat t1]?) fun x5 =>
  Option.bind (Di_wordsText x5 [t0.c1]) fun r6 =>
  if (l3 ++ [r6]).length * 16 ≤ 70368744177664 then
  some (.inl (.h1 t0 (IntKind.wrap .i64 (t1 + 1)) b2 (l3 ++ [r6])))
  else none
  else none
  else
  if t1 = 2 then
  if 0 ≤ t1 then
  Option.bind (gv100[Int.toNat t1]?) fun x6 =>
  Option.bind (Di_wordsText x6 [t0.c2]) fun r7 =>
  if (l3 ++ [r7]).length * 16 ≤ 70368744177664 then
  some (.inl (.h1 t0 (IntKind.wrap .i64 (t1 + 1)) b2 (l3 ++ [r7])))
  else none
  else none
  else
  if t1 = 3 then
  if 0 ≤ t1 then
  Option.bind (gv100[Int.toNat t1]?) fun x7 =>
  Option.bind (Di_wordsText x7 [t0.c3]) fun r8 =>
  if (l3 ++ [r8]).length * 16 ≤ 70368744177664 then
  some (.inl (.h1 t0 (IntKind.wrap .i64 (t1 + 1)) b2 (l3 ++ [r8])))
  else none
  else none
  else
  if t1 = 4 then
  if 0 ≤ t1 then
  Option.bind (gv100[Int.toNat t1]?) fun x8 =>
  Option.bind (Di_wordsText x8 [t0.c4]) fun r9 =>
  if (l3 ++ [r9]).length * 16 ≤ 70368744177664 then
  some (.inl (.h1 t0 (IntKind.wrap .i64 (t1 + 1)) b2 (l3 ++ [r9])))
  else none
  else none
  else none
  else
  some (.inl (.h2 b2.Kinds ((b2.Kinds.length : Nat) : Int) 0 b2 l3))
 | .h2 t0 t1 t2 b3 l4 =>
  if t2 < t1 then
  if 0 ≤ t2 then
  Option.bind (t0[(Int.toNat t2)]?) fun x3 =>
  Option.bind (Di_kindLine x3) fun r4 =>
  if (l4 ++ [r4]).length * 16 ≤ 70368744177664 then
  some (.inl (.h2 t0 t1 (IntKind.wrap .i64 (t2 + 1)) b3 (l4 ++ [r4])))
  else none
  else none
  else
  some (.inl (.h3 b3.Terrains ((b3.Terrains.length : Nat) : Int) 0 l4))
 | .h3 t0 t1 t2 l3 =>
  if t2 < t1 then
  if 0 ≤ t2 then
  Option.bind (t0[(Int.toNat t2)]?) fun x3 =>
  Option.bind (Di_terrainLine x3) fun r4 =>
  if (l3 ++ [r4]).length * 16 ≤ 70368744177664 then
  some (.inl (.h3 t0 t1 (IntKind.wrap .i64 (t2 + 1)) (l3 ++ [r4])))
  else none
  else none
  else
  Option.bind (Dstrings_Join l3 ⟨#[10]⟩) fun r2 =>
  if ByteArray.size r2 + ByteArray.size ⟨#[10]⟩ ≤ 9223372036854775807 then
  some (.inr (r2 ++ ⟨#[10]⟩))
  else none
noncomputable def Di_rulesText (a0 : Gi_Rules) : Option (ByteArray) :=
 loop Bi_rulesText (.h1 (GA5I.mk a0.Stack a0.River a0.Road a0.Supply a0.Turns) 0 a0 ([] : List ByteArray))
inductive Si_mapText where
 | h1 (out0 : ByteArray) (t1 : (List Int)) (t2 : Int) (t3 : Int) (b4 : Gi_Map)
noncomputable def Bi_mapText : Si_mapText → Option (Si_mapText ⊕ (ByteArray))
 | .h1 out0 t1 t2 t3 b4 =>
  if t3 < t2 then
  if 0 ≤ t3 then
  Option.bind (t1[(Int.toNat t3)]?) fun x3 =>
  Option.bind (Dstrconv_Itoa x3) fun r4 =>
  if ByteArray.size out0 + ByteArray.size r4 ≤ 9223372036854775807 then
  if ¬ b4.Width = 0 then
  if ((Int.tmod t3 b4.Width) : Int) = (IntKind.wrap .i64 (b4.Width - 1)) then
  if ByteArray.size (out0 ++ r4) + ByteArray.size ⟨#[10]⟩ ≤ 9223372036854775807 then
  some (.inl (.h1 ((out0 ++ r4) ++ ⟨#[10]⟩) t1 t2 (IntKind.wrap .i64 (t3 + 1)) b4))
  else none
  else
  some (.inl (.h1 (out0 ++ r4) t1 t2 (IntKind.wrap .i64 (t3 + 1)) b4))
  else none
  else none
  else none
  else
  Option.bind (Di_wordsText ⟨#[114, 105, 118, 101, 114, 115]⟩ b4.Rivers) fun r2 =>
  if ByteArray.size out0 + ByteArray.size r2 ≤ 9223372036854775807 then
  if ByteArray.size (out0 ++ r2) + ByteArray.size ⟨#[10]⟩ ≤ 9223372036854775807 then
  Option.bind (Di_wordsText ⟨#[114, 111, 97, 100, 115]⟩ b4.Roads) fun r5 =>
  if ByteArray.size ((out0 ++ r2) ++ ⟨#[10]⟩) + ByteArray.size r5 ≤ 9223372036854775807 then
  if ByteArray.size (((out0 ++ r2) ++ ⟨#[10]⟩) ++ r5) + ByteArray.size ⟨#[10]⟩ ≤ 9223372036854775807 then
  some (.inr ((((out0 ++ r2) ++ ⟨#[10]⟩) ++ r5) ++ ⟨#[10]⟩))
  else none
  else none
  else none
  else none
noncomputable def Di_mapText (a0 : Gi_Map) : Option (ByteArray) :=
 Option.bind (Di_wordsText ⟨#[109, 97, 112]⟩ [a0.Width, a0.Height]) fun r1 =>
 if ByteArray.size r1 + ByteArray.size ⟨#[10]⟩ ≤ 9223372036854775807 then
 loop Bi_mapText (.h1 (r1 ++ ⟨#[10]⟩) a0.Terrain ((a0.Terrain.length : Nat) : Int) 0 a0)
 else none
noncomputable def Di_boardText (a0 : Gi_Board) : Option (ByteArray) :=
 Option.bind (Di_rulesText a0.Rules) fun r1 =>
 Option.bind (Di_mapText a0.Map) fun r2 =>
 if ByteArray.size r1 + ByteArray.size r2 ≤ 9223372036854775807 then
 some (r1 ++ r2)
 else none
inductive Si_tableText where
 | h1 (out0 : ByteArray) (t1 : (List Gi_Odds)) (t2 : Int) (t3 : Int) (b4 : Gi_CombatTable)
 | h2 (out0 : ByteArray) (t1 : (List (List Int))) (t2 : Int) (t3 : Int)
 | h3 (out0 : ByteArray) (t1 : (List (List Int))) (t2 : Int) (t3 : Int) (t4 : (List Int)) (t5 : Int) (t6 : Int)
noncomputable def Bi_tableText : Si_tableText → Option (Si_tableText ⊕ (ByteArray))
 | .h1 out0 t1 t2 t3 b4 =>
  if t3 < t2 then
  if 0 ≤ t3 then
  Option.bind (t1[(Int.toNat t3)]?) fun x3 =>
  Option.bind (Dstrconv_Itoa x3.Num) fun r4 =>
  if ByteArray.size ⟨#[32]⟩ + ByteArray.size r4 ≤ 9223372036854775807 then
  if ByteArray.size (⟨#[32]⟩ ++ r4) + ByteArray.size ⟨#[47]⟩ ≤ 9223372036854775807 then
  Option.bind (Dstrconv_Itoa x3.Den) fun r7 =>
  if ByteArray.size ((⟨#[32]⟩ ++ r4) ++ ⟨#[47]⟩) + ByteArray.size r7 ≤ 9223372036854775807 then
  if ByteArray.size out0 + ByteArray.size (((⟨#[32]⟩ ++ r4) ++ ⟨#[47]⟩) ++ r7) ≤ 9223372036854775807 then
  some (.inl (.h1 (out0 ++ (((⟨#[32]⟩ ++ r4) ++ ⟨#[47]⟩) ++ r7)) t1 t2 (IntKind.wrap .i64 (t3 + 1)) b4))
  else none
  else none
  else none
  else none
  else none
  else
  Option.bind (Di_wordsText ⟨#[32, 100, 105, 99, 101]⟩ [b4.Dice]) fun r2 =>
  if ByteArray.size r2 + ByteArray.size ⟨#[10]⟩ ≤ 9223372036854775807 then
  if ByteArray.size out0 + ByteArray.size (r2 ++ ⟨#[10]⟩) ≤ 9223372036854775807 then
  some (.inl (.h2 (out0 ++ (r2 ++ ⟨#[10]⟩)) b4.Results ((b4.Results.length : Nat) : Int) 0))
  else none
  else none
 | .h2 out0 t1 t2 t3 =>
  if t3 < t2 then
  if 0 ≤ t3 then
  Option.bind (t1[(Int.toNat t3)]?) fun x3 =>
  some (.inl (.h3 out0 t1 t2 t3 x3 ((x3.length : Nat) : Int) 0))
  else none
  else
  some (.inr out0)
 | .h3 out0 t1 t2 t3 t4 t5 t6 =>
  if t6 < t5 then
  if 0 ≤ t6 then
  Option.bind (t4[(Int.toNat t6)]?) fun x3 =>
  Option.bind (Dstrconv_Itoa x3) fun r4 =>
  if ByteArray.size out0 + ByteArray.size r4 ≤ 9223372036854775807 then
  some (.inl (.h3 (out0 ++ r4) t1 t2 t3 t4 t5 (IntKind.wrap .i64 (t6 + 1))))
  else none
  else none
  else
  if ByteArray.size out0 + ByteArray.size ⟨#[10]⟩ ≤ 9223372036854775807 then
  some (.inl (.h2 (out0 ++ ⟨#[10]⟩) t1 t2 (IntKind.wrap .i64 (t3 + 1))))
  else none
noncomputable def Di_tableText (a0 : Gi_CombatTable) : Option (ByteArray) :=
 loop Bi_tableText (.h1 ⟨#[111, 100, 100, 115]⟩ a0.Columns ((a0.Columns.length : Nat) : Int) 0 a0)
noncomputable def Di_placeText (a0 : Int) : Option (ByteArray) :=
 if a0 < 0 then
 some ⟨#[45]⟩
 else
 Option.bind (Dstrconv_Itoa a0) fun r2 =>
 some r2
inductive Si_stateText where
 | h1 (out0 : ByteArray) (t1 : (List Gi_Unit)) (t2 : Int) (t3 : Int) (b4 : Gi_Board)
noncomputable def Bi_stateText : Si_stateText → Option (Si_stateText ⊕ (ByteArray))
 | .h1 out0 t1 t2 t3 b4 =>
  if t3 < t2 then
  if 0 ≤ t3 then
  Option.bind (t1[(Int.toNat t3)]?) fun x3 =>
  Option.bind (Dstrconv_Itoa x3.Side) fun r4 =>
  if ByteArray.size r4 + ByteArray.size ⟨#[32]⟩ ≤ 9223372036854775807 then
  if 0 ≤ x3.Kind then
  Option.bind (b4.Rules.Kinds[(Int.toNat x3.Kind)]?) fun x7 =>
  if ByteArray.size (r4 ++ ⟨#[32]⟩) + ByteArray.size x7.Name ≤ 9223372036854775807 then
  if ByteArray.size ((r4 ++ ⟨#[32]⟩) ++ x7.Name) + ByteArray.size ⟨#[32]⟩ ≤ 9223372036854775807 then
  Option.bind (Di_placeText x3.At) fun r10 =>
  if ByteArray.size (((r4 ++ ⟨#[32]⟩) ++ x7.Name) ++ ⟨#[32]⟩) + ByteArray.size r10 ≤ 9223372036854775807 then
  if ByteArray.size ((((r4 ++ ⟨#[32]⟩) ++ x7.Name) ++ ⟨#[32]⟩) ++ r10) + ByteArray.size ⟨#[32]⟩ ≤ 9223372036854775807 then
  Option.bind (Dstrconv_Itoa x3.Steps) fun r13 =>
  if ByteArray.size (((((r4 ++ ⟨#[32]⟩) ++ x7.Name) ++ ⟨#[32]⟩) ++ r10) ++ ⟨#[32]⟩) + ByteArray.size r13 ≤ 9223372036854775807 then
  if ByteArray.size ((((((r4 ++ ⟨#[32]⟩) ++ x7.Name) ++ ⟨#[32]⟩) ++ r10) ++ ⟨#[32]⟩) ++ r13) + ByteArray.size ⟨#[10]⟩ ≤ 9223372036854775807 then
  if ByteArray.size out0 + ByteArray.size (((((((r4 ++ ⟨#[32]⟩) ++ x7.Name) ++ ⟨#[32]⟩) ++ r10) ++ ⟨#[32]⟩) ++ r13) ++ ⟨#[10]⟩) ≤ 9223372036854775807 then
  some (.inl (.h1 (out0 ++ (((((((r4 ++ ⟨#[32]⟩) ++ x7.Name) ++ ⟨#[32]⟩) ++ r10) ++ ⟨#[32]⟩) ++ r13) ++ ⟨#[10]⟩)) t1 t2 (IntKind.wrap .i64 (t3 + 1)) b4))
  else none
  else none
  else none
  else none
  else none
  else none
  else none
  else none
  else none
  else none
  else
  some (.inr out0)
noncomputable def Di_stateText (a0 : Gi_Board) (a1 : Gi_State) : Option (ByteArray) :=
 Option.bind (Di_wordsText ⟨#[116, 117, 114, 110]⟩ [a1.Turn]) fun r1 =>
 if ByteArray.size r1 + ByteArray.size ⟨#[32]⟩ ≤ 9223372036854775807 then
 Option.bind (Di_wordsText ⟨#[119, 101, 97, 116, 104, 101, 114]⟩ [a1.Weather]) fun r3 =>
 if ByteArray.size (r1 ++ ⟨#[32]⟩) + ByteArray.size r3 ≤ 9223372036854775807 then
 if ByteArray.size ((r1 ++ ⟨#[32]⟩) ++ r3) + ByteArray.size ⟨#[10]⟩ ≤ 9223372036854775807 then
 loop Bi_stateText (.h1 (((r1 ++ ⟨#[32]⟩) ++ r3) ++ ⟨#[10]⟩) a1.Units ((a1.Units.length : Nat) : Int) 0 a0)
 else none
 else none
 else none
noncomputable def Dinternal_stringslite_HasPrefix (a0 : ByteArray) (a1 : ByteArray) : Option (Bool) :=
 if ((ByteArray.size a0 : Nat) : Int) ≥ ((ByteArray.size a1 : Nat) : Int) then
 if (0 : Int) ≤ ((ByteArray.size a1 : Nat) : Int) then
 if (((ByteArray.size a1 : Nat) : Int) : Int) ≤ ((ByteArray.size a0 : Nat) : Int) then
 some ((ByteArray.extract a0 0 (Int.toNat ((ByteArray.size a1 : Nat) : Int))) == a1)
 else none
 else none
 else
 some false
noncomputable def Dinternal_stringslite_TrimPrefix (a0 : ByteArray) (a1 : ByteArray) : Option (ByteArray) :=
 Option.bind (Dinternal_stringslite_HasPrefix a0 a1) fun r1 =>
 if r1 = true then
 if (0 : Int) ≤ ((ByteArray.size a1 : Nat) : Int) then
 if (((ByteArray.size a1 : Nat) : Int) : Int) ≤ ((ByteArray.size a0 : Nat) : Int) then
 some (ByteArray.extract a0 (Int.toNat ((ByteArray.size a1 : Nat) : Int)) (ByteArray.size a0))
 else none
 else none
 else
 some a0
noncomputable def Dstrings_TrimPrefix (a0 : ByteArray) (a1 : ByteArray) : Option (ByteArray) :=
 Option.bind (Dinternal_stringslite_TrimPrefix a0 a1) fun r1 =>
 some r1
inductive Si_scenarioText where
 | h1 (out0 : ByteArray) (t1 : (List Gi_Goal)) (t2 : Int) (t3 : Int) (b4 : Gi_Scenario)
noncomputable def Bi_scenarioText : Si_scenarioText → Option (Si_scenarioText ⊕ (ByteArray))
 | .h1 out0 t1 t2 t3 b4 =>
  if t3 < t2 then
  if 0 ≤ t3 then
  Option.bind (t1[(Int.toNat t3)]?) fun x3 =>
  Option.bind (Di_wordsText ⟨#[]⟩ [x3.At, x3.Points]) fun r4 =>
  Option.bind (Dstrings_TrimPrefix r4 ⟨#[32]⟩) fun r5 =>
  if ByteArray.size r5 + ByteArray.size ⟨#[10]⟩ ≤ 9223372036854775807 then
  if ByteArray.size out0 + ByteArray.size (r5 ++ ⟨#[10]⟩) ≤ 9223372036854775807 then
  some (.inl (.h1 (out0 ++ (r5 ++ ⟨#[10]⟩)) t1 t2 (IntKind.wrap .i64 (t3 + 1)) b4))
  else none
  else none
  else none
  else
  Option.bind (Di_wordsText ⟨#[102, 105, 114, 115, 116]⟩ b4.First) fun r2 =>
  if ByteArray.size out0 + ByteArray.size r2 ≤ 9223372036854775807 then
  if ByteArray.size (out0 ++ r2) + ByteArray.size ⟨#[10]⟩ ≤ 9223372036854775807 then
  Option.bind (Di_wordsText ⟨#[111, 116, 104, 101, 114]⟩ b4.Other) fun r5 =>
  if ByteArray.size ((out0 ++ r2) ++ ⟨#[10]⟩) + ByteArray.size r5 ≤ 9223372036854775807 then
  if ByteArray.size (((out0 ++ r2) ++ ⟨#[10]⟩) ++ r5) + ByteArray.size ⟨#[10]⟩ ≤ 9223372036854775807 then
  some (.inr ((((out0 ++ r2) ++ ⟨#[10]⟩) ++ r5) ++ ⟨#[10]⟩))
  else none
  else none
  else none
  else none
noncomputable def Di_scenarioText (a0 : Gi_Scenario) : Option (ByteArray) :=
 if ByteArray.size ⟨#[115, 99, 101, 110, 97, 114, 105, 111, 32]⟩ + ByteArray.size a0.Name ≤ 9223372036854775807 then
 if ByteArray.size (⟨#[115, 99, 101, 110, 97, 114, 105, 111, 32]⟩ ++ a0.Name) + ByteArray.size ⟨#[10]⟩ ≤ 9223372036854775807 then
 Option.bind (Di_boardText a0.Board) fun r3 =>
 if ByteArray.size ((⟨#[115, 99, 101, 110, 97, 114, 105, 111, 32]⟩ ++ a0.Name) ++ ⟨#[10]⟩) + ByteArray.size r3 ≤ 9223372036854775807 then
 Option.bind (Di_tableText a0.Table) fun r5 =>
 if ByteArray.size (((⟨#[115, 99, 101, 110, 97, 114, 105, 111, 32]⟩ ++ a0.Name) ++ ⟨#[10]⟩) ++ r3) + ByteArray.size r5 ≤ 9223372036854775807 then
 Option.bind (Di_stateText a0.Board a0.Start) fun r7 =>
 if ByteArray.size ((((⟨#[115, 99, 101, 110, 97, 114, 105, 111, 32]⟩ ++ a0.Name) ++ ⟨#[10]⟩) ++ r3) ++ r5) + ByteArray.size r7 ≤ 9223372036854775807 then
 Option.bind (Di_wordsText ⟨#[103, 111, 97, 108, 115]⟩ [a0.Conditions.Step, a0.Conditions.Margin]) fun r9 =>
 if ByteArray.size r9 + ByteArray.size ⟨#[10]⟩ ≤ 9223372036854775807 then
 if ByteArray.size (((((⟨#[115, 99, 101, 110, 97, 114, 105, 111, 32]⟩ ++ a0.Name) ++ ⟨#[10]⟩) ++ r3) ++ r5) ++ r7) + ByteArray.size (r9 ++ ⟨#[10]⟩) ≤ 9223372036854775807 then
 loop Bi_scenarioText (.h1 ((((((⟨#[115, 99, 101, 110, 97, 114, 105, 111, 32]⟩ ++ a0.Name) ++ ⟨#[10]⟩) ++ r3) ++ r5) ++ r7) ++ (r9 ++ ⟨#[10]⟩)) a0.Conditions.Goals ((a0.Conditions.Goals.length : Nat) : Int) 0 a0)
 else none
 else none
 else none
 else none
 else none
 else none
 else none
noncomputable def Di_ScenarioText (a0 : Gi_Scenario) : Option (ByteArray × Bool) :=
 Option.bind (Di_IsScenario a0) fun r1 =>
 if r1 = true then
 Option.bind (Di_scenarioText a0) fun r3 =>
 some (r3, true)
 else
 some (⟨#[]⟩, false)
inductive Sw_eqIntS where
 | h1 (va0 : (List Int)) (b1 : (List Int)) (i2 : Int)
noncomputable def Bw_eqIntS : Sw_eqIntS → Option (Sw_eqIntS ⊕ (Bool))
 | .h1 va0 b1 i2 =>
  if i2 < ((va0.length : Nat) : Int) then
  if 0 ≤ i2 then
  Option.bind (va0[(Int.toNat i2)]?) fun x3 =>
  if 0 ≤ i2 then
  Option.bind (b1[(Int.toNat i2)]?) fun x5 =>
  if (x3 : Int) = x5 then
  some (.inl (.h1 va0 b1 (IntKind.wrap .i64 (i2 + 1))))
  else
  some (.inr false)
  else none
  else none
  else
  some (.inr true)
noncomputable def Dw_eqIntS (a0 : (List Int)) (a1 : (List Int)) : Option (Bool) :=
 if (((a0.length : Nat) : Int) : Int) = ((a1.length : Nat) : Int) then
 loop Bw_eqIntS (.h1 a0 a1 0)
 else
 some false
noncomputable def Dw_eqTerrain (a0 : Gi_Terrain) (a1 : Gi_Terrain) : Option (Bool) :=
 if a0.Name = a1.Name then
 Option.bind (Dw_eqIntS a0.Cost a1.Cost) fun r2 =>
 if r2 = true then
 if (a0.Shift : Int) = a1.Shift then
 if (a0.Height : Int) = a1.Height then
 if (!(a0.Blocks == a1.Blocks)) = true then
 some false
 else
 some true
 else
 some false
 else
 some false
 else
 some false
 else
 some false
inductive Sw_eqTerrainS where
 | h1 (va0 : (List Gi_Terrain)) (b1 : (List Gi_Terrain)) (i2 : Int)
noncomputable def Bw_eqTerrainS : Sw_eqTerrainS → Option (Sw_eqTerrainS ⊕ (Bool))
 | .h1 va0 b1 i2 =>
  if i2 < ((va0.length : Nat) : Int) then
  if 0 ≤ i2 then
  Option.bind (va0[(Int.toNat i2)]?) fun x3 =>
  if 0 ≤ i2 then
  Option.bind (b1[(Int.toNat i2)]?) fun x5 =>
  Option.bind (Dw_eqTerrain x3 x5) fun r6 =>
  if r6 = true then
  some (.inl (.h1 va0 b1 (IntKind.wrap .i64 (i2 + 1))))
  else
  some (.inr false)
  else none
  else none
  else
  some (.inr true)
noncomputable def Dw_eqTerrainS (a0 : (List Gi_Terrain)) (a1 : (List Gi_Terrain)) : Option (Bool) :=
 if (((a0.length : Nat) : Int) : Int) = ((a1.length : Nat) : Int) then
 loop Bw_eqTerrainS (.h1 a0 a1 0)
 else
 some false
noncomputable def Dw_eqKind (a0 : Gi_Kind) (a1 : Gi_Kind) : Option (Bool) :=
 if a0.Name = a1.Name then
 if (a0.Strength : Int) = a1.Strength then
 if (a0.Moves : Int) = a1.Moves then
 if (a0.Steps : Int) = a1.Steps then
 if (!(a0.Zone == a1.Zone)) = true then
 some false
 else
 if (a0.View : Int) = a1.View then
 some true
 else
 some false
 else
 some false
 else
 some false
 else
 some false
 else
 some false
inductive Sw_eqKindS where
 | h1 (va0 : (List Gi_Kind)) (b1 : (List Gi_Kind)) (i2 : Int)
noncomputable def Bw_eqKindS : Sw_eqKindS → Option (Sw_eqKindS ⊕ (Bool))
 | .h1 va0 b1 i2 =>
  if i2 < ((va0.length : Nat) : Int) then
  if 0 ≤ i2 then
  Option.bind (va0[(Int.toNat i2)]?) fun x3 =>
  if 0 ≤ i2 then
  Option.bind (b1[(Int.toNat i2)]?) fun x5 =>
  Option.bind (Dw_eqKind x3 x5) fun r6 =>
  if r6 = true then
  some (.inl (.h1 va0 b1 (IntKind.wrap .i64 (i2 + 1))))
  else
  some (.inr false)
  else none
  else none
  else
  some (.inr true)
noncomputable def Dw_eqKindS (a0 : (List Gi_Kind)) (a1 : (List Gi_Kind)) : Option (Bool) :=
 if (((a0.length : Nat) : Int) : Int) = ((a1.length : Nat) : Int) then
 loop Bw_eqKindS (.h1 a0 a1 0)
 else
 some false
noncomputable def Dw_eqRules (a0 : Gi_Rules) (a1 : Gi_Rules) : Option (Bool) :=
 Option.bind (Dw_eqTerrainS a0.Terrains a1.Terrains) fun r1 =>
 if r1 = true then
 Option.bind (Dw_eqKindS a0.Kinds a1.Kinds) fun r3 =>
 if r3 = true then
 if (a0.Stack : Int) = a1.Stack then
 if (a0.River : Int) = a1.River then
 if (a0.Road : Int) = a1.Road then
 if (a0.Supply : Int) = a1.Supply then
 if (a0.Turns : Int) = a1.Turns then
 some true
 else
 some false
 else
 some false
 else
 some false
 else
 some false
 else
 some false
 else
 some false
 else
 some false
noncomputable def Dw_eqMap (a0 : Gi_Map) (a1 : Gi_Map) : Option (Bool) :=
 if (a0.Width : Int) = a1.Width then
 if (a0.Height : Int) = a1.Height then
 Option.bind (Dw_eqIntS a0.Terrain a1.Terrain) fun r3 =>
 if r3 = true then
 Option.bind (Dw_eqIntS a0.Rivers a1.Rivers) fun r5 =>
 if r5 = true then
 Option.bind (Dw_eqIntS a0.Roads a1.Roads) fun r7 =>
 if r7 = true then
 some true
 else
 some false
 else
 some false
 else
 some false
 else
 some false
 else
 some false
noncomputable def Dw_eqBoard (a0 : Gi_Board) (a1 : Gi_Board) : Option (Bool) :=
 Option.bind (Dw_eqRules a0.Rules a1.Rules) fun r1 =>
 if r1 = true then
 Option.bind (Dw_eqMap a0.Map a1.Map) fun r3 =>
 if r3 = true then
 some true
 else
 some false
 else
 some false
noncomputable def Dw_eqOdds (a0 : Gi_Odds) (a1 : Gi_Odds) : Option (Bool) :=
 if (a0.Num : Int) = a1.Num then
 if (a0.Den : Int) = a1.Den then
 some true
 else
 some false
 else
 some false
inductive Sw_eqOddsS where
 | h1 (va0 : (List Gi_Odds)) (b1 : (List Gi_Odds)) (i2 : Int)
noncomputable def Bw_eqOddsS : Sw_eqOddsS → Option (Sw_eqOddsS ⊕ (Bool))
 | .h1 va0 b1 i2 =>
  if i2 < ((va0.length : Nat) : Int) then
  if 0 ≤ i2 then
  Option.bind (va0[(Int.toNat i2)]?) fun x3 =>
  if 0 ≤ i2 then
  Option.bind (b1[(Int.toNat i2)]?) fun x5 =>
  Option.bind (Dw_eqOdds x3 x5) fun r6 =>
  if r6 = true then
  some (.inl (.h1 va0 b1 (IntKind.wrap .i64 (i2 + 1))))
  else
  some (.inr false)
  else none
  else none
  else
  some (.inr true)
noncomputable def Dw_eqOddsS (a0 : (List Gi_Odds)) (a1 : (List Gi_Odds)) : Option (Bool) :=
 if (((a0.length : Nat) : Int) : Int) = ((a1.length : Nat) : Int) then
 loop Bw_eqOddsS (.h1 a0 a1 0)
 else
 some false
inductive Sw_eqIntSS where
 | h1 (va0 : (List (List Int))) (b1 : (List (List Int))) (i2 : Int)
noncomputable def Bw_eqIntSS : Sw_eqIntSS → Option (Sw_eqIntSS ⊕ (Bool))
 | .h1 va0 b1 i2 =>
  if i2 < ((va0.length : Nat) : Int) then
  if 0 ≤ i2 then
  Option.bind (va0[(Int.toNat i2)]?) fun x3 =>
  if 0 ≤ i2 then
  Option.bind (b1[(Int.toNat i2)]?) fun x5 =>
  Option.bind (Dw_eqIntS x3 x5) fun r6 =>
  if r6 = true then
  some (.inl (.h1 va0 b1 (IntKind.wrap .i64 (i2 + 1))))
  else
  some (.inr false)
  else none
  else none
  else
  some (.inr true)
noncomputable def Dw_eqIntSS (a0 : (List (List Int))) (a1 : (List (List Int))) : Option (Bool) :=
 if (((a0.length : Nat) : Int) : Int) = ((a1.length : Nat) : Int) then
 loop Bw_eqIntSS (.h1 a0 a1 0)
 else
 some false
noncomputable def Dw_eqCombatTable (a0 : Gi_CombatTable) (a1 : Gi_CombatTable) : Option (Bool) :=
 Option.bind (Dw_eqOddsS a0.Columns a1.Columns) fun r1 =>
 if r1 = true then
 if (a0.Dice : Int) = a1.Dice then
 Option.bind (Dw_eqIntSS a0.Results a1.Results) fun r4 =>
 if r4 = true then
 some true
 else
 some false
 else
 some false
 else
 some false
noncomputable def Dw_eqUnit (a0 : Gi_Unit) (a1 : Gi_Unit) : Option (Bool) :=
 if (a0.Side : Int) = a1.Side then
 if (a0.Kind : Int) = a1.Kind then
 if (a0.At : Int) = a1.At then
 if (a0.Steps : Int) = a1.Steps then
 some true
 else
 some false
 else
 some false
 else
 some false
 else
 some false
inductive Sw_eqUnitS where
 | h1 (va0 : (List Gi_Unit)) (b1 : (List Gi_Unit)) (i2 : Int)
noncomputable def Bw_eqUnitS : Sw_eqUnitS → Option (Sw_eqUnitS ⊕ (Bool))
 | .h1 va0 b1 i2 =>
  if i2 < ((va0.length : Nat) : Int) then
  if 0 ≤ i2 then
  Option.bind (va0[(Int.toNat i2)]?) fun x3 =>
  if 0 ≤ i2 then
  Option.bind (b1[(Int.toNat i2)]?) fun x5 =>
  Option.bind (Dw_eqUnit x3 x5) fun r6 =>
  if r6 = true then
  some (.inl (.h1 va0 b1 (IntKind.wrap .i64 (i2 + 1))))
  else
  some (.inr false)
  else none
  else none
  else
  some (.inr true)
noncomputable def Dw_eqUnitS (a0 : (List Gi_Unit)) (a1 : (List Gi_Unit)) : Option (Bool) :=
 if (((a0.length : Nat) : Int) : Int) = ((a1.length : Nat) : Int) then
 loop Bw_eqUnitS (.h1 a0 a1 0)
 else
 some false
noncomputable def Dw_eqState (a0 : Gi_State) (a1 : Gi_State) : Option (Bool) :=
 if (a0.Turn : Int) = a1.Turn then
 if (a0.Weather : Int) = a1.Weather then
 Option.bind (Dw_eqUnitS a0.Units a1.Units) fun r3 =>
 if r3 = true then
 some true
 else
 some false
 else
 some false
 else
 some false
noncomputable def Dw_eqGoal (a0 : Gi_Goal) (a1 : Gi_Goal) : Option (Bool) :=
 if (a0.At : Int) = a1.At then
 if (a0.Points : Int) = a1.Points then
 some true
 else
 some false
 else
 some false
inductive Sw_eqGoalS where
 | h1 (va0 : (List Gi_Goal)) (b1 : (List Gi_Goal)) (i2 : Int)
noncomputable def Bw_eqGoalS : Sw_eqGoalS → Option (Sw_eqGoalS ⊕ (Bool))
 | .h1 va0 b1 i2 =>
  if i2 < ((va0.length : Nat) : Int) then
  if 0 ≤ i2 then
  Option.bind (va0[(Int.toNat i2)]?) fun x3 =>
  if 0 ≤ i2 then
  Option.bind (b1[(Int.toNat i2)]?) fun x5 =>
  Option.bind (Dw_eqGoal x3 x5) fun r6 =>
  if r6 = true then
  some (.inl (.h1 va0 b1 (IntKind.wrap .i64 (i2 + 1))))
  else
  some (.inr false)
  else none
  else none
  else
  some (.inr true)
noncomputable def Dw_eqGoalS (a0 : (List Gi_Goal)) (a1 : (List Gi_Goal)) : Option (Bool) :=
 if (((a0.length : Nat) : Int) : Int) = ((a1.length : Nat) : Int) then
 loop Bw_eqGoalS (.h1 a0 a1 0)
 else
 some false
noncomputable def Dw_eqConditions (a0 : Gi_Conditions) (a1 : Gi_Conditions) : Option (Bool) :=
 Option.bind (Dw_eqGoalS a0.Goals a1.Goals) fun r1 =>
 if r1 = true then
 if (a0.Step : Int) = a1.Step then
 if (a0.Margin : Int) = a1.Margin then
 some true
 else
 some false
 else
 some false
 else
 some false
noncomputable def Dw_eqScenario (a0 : Gi_Scenario) (a1 : Gi_Scenario) : Option (Bool) :=
 if a0.Name = a1.Name then
 Option.bind (Dw_eqBoard a0.Board a1.Board) fun r2 =>
 if r2 = true then
 Option.bind (Dw_eqCombatTable a0.Table a1.Table) fun r4 =>
 if r4 = true then
 Option.bind (Dw_eqState a0.Start a1.Start) fun r6 =>
 if r6 = true then
 Option.bind (Dw_eqConditions a0.Conditions a1.Conditions) fun r8 =>
 if r8 = true then
 Option.bind (Dw_eqIntS a0.First a1.First) fun r10 =>
 if r10 = true then
 Option.bind (Dw_eqIntS a0.Other a1.Other) fun r12 =>
 if r12 = true then
 some true
 else
 some false
 else
 some false
 else
 some false
 else
 some false
 else
 some false
 else
 some false
 else
 some false
noncomputable def Dw_FnExactScenarioText (a0 : Gw_Scenario) : Option (Bool) :=
 Option.bind (Dw_szScenario a0 1048576) fun r1 =>
 if r1 < 0 then
 some true
 else
 Option.bind (Dw_toScenario a0) fun r3 =>
 Option.bind (Ds_ScenarioText r3) fun r4 =>
 Option.bind (Dw_toScenario a0) fun r5 =>
 Option.bind (Di_ScenarioText r5) fun r6 =>
 if r6.1 = r4.1 then
 if (!(r6.2 == r4.2)) = true then
 some false
 else
 Option.bind (Dw_toScenario a0) fun r9 =>
 Option.bind (Dw_eqScenario r5 r9) fun r10 =>
 if r10 = true then
 some true
 else
 some false
 else
 some false
end Go.Proofs.YtogomlkoocbhcaaGreatDoor.Ab
