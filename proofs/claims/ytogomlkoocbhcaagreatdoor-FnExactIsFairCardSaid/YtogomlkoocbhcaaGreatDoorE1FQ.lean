/- What the laws of this text say, in the given statements' words; no condition. -/
import Derived.Test.YtogomlkoocbhcaaGreatDoorE1FC1
import Derived.Test.YtogomlkoocbhcaaGreatDoorE1FP1
import Derived.Test.YtogomlkoocbhcaaGreatDoorAb5
import Derived.Test.YtogomlkoocbhcaaGreatDoorAb5
import Derived.Test.YtogomlkoocbhcaaGreatDoorTie
import Derived.Test.YtogomlkoocbhcaaGreatDoorCards
import Derived.SevenTiedAt
import Derived.Lay
import Derived.Test.YtogomlkoocbhcaaGreatDoorRows
set_option linter.unusedVariables false
set_option linter.unusedSimpArgs false
open Go Go.Proofs Go.RowKit
namespace Go.Proofs.YtogomlkoocbhcaaGreatDoor.Ab
theorem o176 : Opn X.P 176 gw_Terrain Wf_Terrain :=
 Opn.strct (isStrct_ok (by kernel_rfl)) fun enc w base spare held n cs xs hl hx hf => by
  obtain ⟨a0, g0, h0⟩ := Opn.fieldAt (Opn.str (t := 9) (by kernel_rfl)) hx hf 0 (off := 0) (sz := 1) (by kernel_rfl)
  obtain ⟨a1, g1, h1⟩ := Opn.fieldAt (Opn.slice (t := 26) (e := 3) (wd := 1) (by kernel_rfl) (by kernel_rfl) (by decide) (fun _ => rfl) (Opn.int (k := .i64) (t := 3) (by kernel_rfl))) hx hf 1 (off := 1) (sz := 1) (by kernel_rfl)
  obtain ⟨a2, _, h2⟩ := Opn.fieldAt (Opn.int (k := .i64) (t := 3) (by kernel_rfl)) hx hf 2 (off := 2) (sz := 1) (by kernel_rfl)
  obtain ⟨a3, _, h3⟩ := Opn.fieldAt (Opn.int (k := .i64) (t := 3) (by kernel_rfl)) hx hf 3 (off := 3) (sz := 1) (by kernel_rfl)
  obtain ⟨a4, _, h4⟩ := Opn.fieldAt (Opn.bool (t := 4) (by kernel_rfl)) hx hf 4 (off := 4) (sz := 1) (by kernel_rfl)
  have hc : X.P.cellsOf 176 = 5 := by kernel_rfl
  exact ⟨⟨a0, a1, a2, a3, a4⟩, ⟨(Nat.lt_of_le_of_lt g0 (by decide)), (Nat.lt_of_le_of_lt g1.2 (by decide))⟩, by simpa [gw_Terrain, D.cells, sl] using Seg.cons h0 (Seg.cons h1 (Seg.cons h2 (Seg.cons h3 (Seg.cons h4 (Seg.nil (cs := cs.drop 5) (List.drop_of_length_le (by omega)))))))⟩
theorem o178 : Opn X.P 178 gw_Kind Wf_Kind :=
 Opn.strct (isStrct_ok (by kernel_rfl)) fun enc w base spare held n cs xs hl hx hf => by
  obtain ⟨a0, g0, h0⟩ := Opn.fieldAt (Opn.str (t := 9) (by kernel_rfl)) hx hf 0 (off := 0) (sz := 1) (by kernel_rfl)
  obtain ⟨a1, _, h1⟩ := Opn.fieldAt (Opn.int (k := .i64) (t := 3) (by kernel_rfl)) hx hf 1 (off := 1) (sz := 1) (by kernel_rfl)
  obtain ⟨a2, _, h2⟩ := Opn.fieldAt (Opn.int (k := .i64) (t := 3) (by kernel_rfl)) hx hf 2 (off := 2) (sz := 1) (by kernel_rfl)
  obtain ⟨a3, _, h3⟩ := Opn.fieldAt (Opn.int (k := .i64) (t := 3) (by kernel_rfl)) hx hf 3 (off := 3) (sz := 1) (by kernel_rfl)
  obtain ⟨a4, _, h4⟩ := Opn.fieldAt (Opn.bool (t := 4) (by kernel_rfl)) hx hf 4 (off := 4) (sz := 1) (by kernel_rfl)
  obtain ⟨a5, _, h5⟩ := Opn.fieldAt (Opn.int (k := .i64) (t := 3) (by kernel_rfl)) hx hf 5 (off := 5) (sz := 1) (by kernel_rfl)
  have hc : X.P.cellsOf 178 = 6 := by kernel_rfl
  exact ⟨⟨a0, a1, a2, a3, a4, a5⟩, (Nat.lt_of_le_of_lt g0 (by decide)), by simpa [gw_Kind, D.cells, sl] using Seg.cons h0 (Seg.cons h1 (Seg.cons h2 (Seg.cons h3 (Seg.cons h4 (Seg.cons h5 (Seg.nil (cs := cs.drop 6) (List.drop_of_length_le (by omega))))))))⟩
theorem o25 : Opn X.P 25 gw_Rules Wf_Rules :=
 Opn.strct (isStrct_ok (by kernel_rfl)) fun enc w base spare held n cs xs hl hx hf => by
  obtain ⟨a0, g0, h0⟩ := Opn.fieldAt (Opn.slice (t := 22) (e := 176) (wd := 5) (by kernel_rfl) (by kernel_rfl) (by decide) (fun _ => rfl) o176) hx hf 0 (off := 0) (sz := 1) (by kernel_rfl)
  obtain ⟨a1, g1, h1⟩ := Opn.fieldAt (Opn.slice (t := 23) (e := 178) (wd := 6) (by kernel_rfl) (by kernel_rfl) (by decide) (fun _ => rfl) o178) hx hf 1 (off := 1) (sz := 1) (by kernel_rfl)
  obtain ⟨a2, _, h2⟩ := Opn.fieldAt (Opn.int (k := .i64) (t := 3) (by kernel_rfl)) hx hf 2 (off := 2) (sz := 1) (by kernel_rfl)
  obtain ⟨a3, _, h3⟩ := Opn.fieldAt (Opn.int (k := .i64) (t := 3) (by kernel_rfl)) hx hf 3 (off := 3) (sz := 1) (by kernel_rfl)
  obtain ⟨a4, _, h4⟩ := Opn.fieldAt (Opn.int (k := .i64) (t := 3) (by kernel_rfl)) hx hf 4 (off := 4) (sz := 1) (by kernel_rfl)
  obtain ⟨a5, _, h5⟩ := Opn.fieldAt (Opn.int (k := .i64) (t := 3) (by kernel_rfl)) hx hf 5 (off := 5) (sz := 1) (by kernel_rfl)
  obtain ⟨a6, _, h6⟩ := Opn.fieldAt (Opn.int (k := .i64) (t := 3) (by kernel_rfl)) hx hf 6 (off := 6) (sz := 1) (by kernel_rfl)
  have hc : X.P.cellsOf 25 = 7 := by kernel_rfl
  exact ⟨⟨a0, a1, a2, a3, a4, a5, a6⟩, ⟨⟨Nat.lt_of_le_of_lt g0.2 (by decide), fun y hy => (g0.1 y hy)⟩, ⟨Nat.lt_of_le_of_lt g1.2 (by decide), fun y hy => (g1.1 y hy)⟩⟩, by simpa [gw_Rules, D.cells, sl] using Seg.cons h0 (Seg.cons h1 (Seg.cons h2 (Seg.cons h3 (Seg.cons h4 (Seg.cons h5 (Seg.cons h6 (Seg.nil (cs := cs.drop 7) (List.drop_of_length_le (by omega)))))))))⟩
theorem o28 : Opn X.P 28 gw_Map Wf_Map :=
 Opn.strct (isStrct_ok (by kernel_rfl)) fun enc w base spare held n cs xs hl hx hf => by
  obtain ⟨a0, _, h0⟩ := Opn.fieldAt (Opn.int (k := .i64) (t := 3) (by kernel_rfl)) hx hf 0 (off := 0) (sz := 1) (by kernel_rfl)
  obtain ⟨a1, _, h1⟩ := Opn.fieldAt (Opn.int (k := .i64) (t := 3) (by kernel_rfl)) hx hf 1 (off := 1) (sz := 1) (by kernel_rfl)
  obtain ⟨a2, g2, h2⟩ := Opn.fieldAt (Opn.slice (t := 26) (e := 3) (wd := 1) (by kernel_rfl) (by kernel_rfl) (by decide) (fun _ => rfl) (Opn.int (k := .i64) (t := 3) (by kernel_rfl))) hx hf 2 (off := 2) (sz := 1) (by kernel_rfl)
  obtain ⟨a3, g3, h3⟩ := Opn.fieldAt (Opn.slice (t := 26) (e := 3) (wd := 1) (by kernel_rfl) (by kernel_rfl) (by decide) (fun _ => rfl) (Opn.int (k := .i64) (t := 3) (by kernel_rfl))) hx hf 3 (off := 3) (sz := 1) (by kernel_rfl)
  obtain ⟨a4, g4, h4⟩ := Opn.fieldAt (Opn.slice (t := 26) (e := 3) (wd := 1) (by kernel_rfl) (by kernel_rfl) (by decide) (fun _ => rfl) (Opn.int (k := .i64) (t := 3) (by kernel_rfl))) hx hf 4 (off := 4) (sz := 1) (by kernel_rfl)
  have hc : X.P.cellsOf 28 = 5 := by kernel_rfl
  exact ⟨⟨a0, a1, a2, a3, a4⟩, ⟨(Nat.lt_of_le_of_lt g2.2 (by decide)), (Nat.lt_of_le_of_lt g3.2 (by decide)), (Nat.lt_of_le_of_lt g4.2 (by decide))⟩, by simpa [gw_Map, D.cells, sl] using Seg.cons h0 (Seg.cons h1 (Seg.cons h2 (Seg.cons h3 (Seg.cons h4 (Seg.nil (cs := cs.drop 5) (List.drop_of_length_le (by omega)))))))⟩
theorem o30 : Opn X.P 30 gw_Board Wf_Board :=
 Opn.strct (isStrct_ok (by kernel_rfl)) fun enc w base spare held n cs xs hl hx hf => by
  obtain ⟨a0, g0, h0⟩ := Opn.fieldAt o25 hx hf 0 (off := 0) (sz := 7) (by kernel_rfl)
  obtain ⟨a1, g1, h1⟩ := Opn.fieldAt o28 hx hf 1 (off := 7) (sz := 5) (by kernel_rfl)
  have hc : X.P.cellsOf 30 = 12 := by kernel_rfl
  exact ⟨⟨a0, a1⟩, ⟨g0, g1⟩, by simpa [gw_Board, gw_Rules, gw_Map, D.cells, sl] using Seg.cons h0 (Seg.cons h1 (Seg.nil (cs := cs.drop 12) (List.drop_of_length_le (by omega))))⟩
theorem o144 : Opn X.P 144 gw_Odds fun _ => True :=
 Opn.strct (isStrct_ok (by kernel_rfl)) fun enc w base spare held n cs xs hl hx hf => by
  obtain ⟨a0, _, h0⟩ := Opn.fieldAt (Opn.int (k := .i64) (t := 3) (by kernel_rfl)) hx hf 0 (off := 0) (sz := 1) (by kernel_rfl)
  obtain ⟨a1, _, h1⟩ := Opn.fieldAt (Opn.int (k := .i64) (t := 3) (by kernel_rfl)) hx hf 1 (off := 1) (sz := 1) (by kernel_rfl)
  have hc : X.P.cellsOf 144 = 2 := by kernel_rfl
  exact ⟨⟨a0, a1⟩, trivial, by simpa [gw_Odds, D.cells, sl] using Seg.cons h0 (Seg.cons h1 (Seg.nil (cs := cs.drop 2) (List.drop_of_length_le (by omega))))⟩
theorem o34 : Opn X.P 34 gw_CombatTable Wf_CombatTable :=
 Opn.strct (isStrct_ok (by kernel_rfl)) fun enc w base spare held n cs xs hl hx hf => by
  obtain ⟨a0, g0, h0⟩ := Opn.fieldAt (Opn.slice (t := 31) (e := 144) (wd := 2) (by kernel_rfl) (by kernel_rfl) (by decide) (fun _ => rfl) o144) hx hf 0 (off := 0) (sz := 1) (by kernel_rfl)
  obtain ⟨a1, _, h1⟩ := Opn.fieldAt (Opn.int (k := .i64) (t := 3) (by kernel_rfl)) hx hf 1 (off := 1) (sz := 1) (by kernel_rfl)
  obtain ⟨a2, g2, h2⟩ := Opn.fieldAt (Opn.slice (t := 32) (e := 26) (wd := 1) (by kernel_rfl) (by kernel_rfl) (by decide) (fun _ => rfl) (Opn.slice (t := 26) (e := 3) (wd := 1) (by kernel_rfl) (by kernel_rfl) (by decide) (fun _ => rfl) (Opn.int (k := .i64) (t := 3) (by kernel_rfl)))) hx hf 2 (off := 2) (sz := 1) (by kernel_rfl)
  have hc : X.P.cellsOf 34 = 3 := by kernel_rfl
  exact ⟨⟨a0, a1, a2⟩, ⟨(Nat.lt_of_le_of_lt g0.2 (by decide)), ⟨Nat.lt_of_le_of_lt g2.2 (by decide), fun y hy => (Nat.lt_of_le_of_lt (g2.1 y hy).2 (by decide))⟩⟩, by simpa [gw_CombatTable, D.cells, sl] using Seg.cons h0 (Seg.cons h1 (Seg.cons h2 (Seg.nil (cs := cs.drop 3) (List.drop_of_length_le (by omega)))))⟩
theorem o146 : Opn X.P 146 gw_Unit fun _ => True :=
 Opn.strct (isStrct_ok (by kernel_rfl)) fun enc w base spare held n cs xs hl hx hf => by
  obtain ⟨a0, _, h0⟩ := Opn.fieldAt (Opn.int (k := .i64) (t := 3) (by kernel_rfl)) hx hf 0 (off := 0) (sz := 1) (by kernel_rfl)
  obtain ⟨a1, _, h1⟩ := Opn.fieldAt (Opn.int (k := .i64) (t := 3) (by kernel_rfl)) hx hf 1 (off := 1) (sz := 1) (by kernel_rfl)
  obtain ⟨a2, _, h2⟩ := Opn.fieldAt (Opn.int (k := .i64) (t := 3) (by kernel_rfl)) hx hf 2 (off := 2) (sz := 1) (by kernel_rfl)
  obtain ⟨a3, _, h3⟩ := Opn.fieldAt (Opn.int (k := .i64) (t := 3) (by kernel_rfl)) hx hf 3 (off := 3) (sz := 1) (by kernel_rfl)
  have hc : X.P.cellsOf 146 = 4 := by kernel_rfl
  exact ⟨⟨a0, a1, a2, a3⟩, trivial, by simpa [gw_Unit, D.cells, sl] using Seg.cons h0 (Seg.cons h1 (Seg.cons h2 (Seg.cons h3 (Seg.nil (cs := cs.drop 4) (List.drop_of_length_le (by omega))))))⟩
theorem o37 : Opn X.P 37 gw_State Wf_State :=
 Opn.strct (isStrct_ok (by kernel_rfl)) fun enc w base spare held n cs xs hl hx hf => by
  obtain ⟨a0, _, h0⟩ := Opn.fieldAt (Opn.int (k := .i64) (t := 3) (by kernel_rfl)) hx hf 0 (off := 0) (sz := 1) (by kernel_rfl)
  obtain ⟨a1, _, h1⟩ := Opn.fieldAt (Opn.int (k := .i64) (t := 3) (by kernel_rfl)) hx hf 1 (off := 1) (sz := 1) (by kernel_rfl)
  obtain ⟨a2, g2, h2⟩ := Opn.fieldAt (Opn.slice (t := 35) (e := 146) (wd := 4) (by kernel_rfl) (by kernel_rfl) (by decide) (fun _ => rfl) o146) hx hf 2 (off := 2) (sz := 1) (by kernel_rfl)
  have hc : X.P.cellsOf 37 = 3 := by kernel_rfl
  exact ⟨⟨a0, a1, a2⟩, (Nat.lt_of_le_of_lt g2.2 (by decide)), by simpa [gw_State, D.cells, sl] using Seg.cons h0 (Seg.cons h1 (Seg.cons h2 (Seg.nil (cs := cs.drop 3) (List.drop_of_length_le (by omega)))))⟩
theorem o148 : Opn X.P 148 gw_Goal fun _ => True :=
 Opn.strct (isStrct_ok (by kernel_rfl)) fun enc w base spare held n cs xs hl hx hf => by
  obtain ⟨a0, _, h0⟩ := Opn.fieldAt (Opn.int (k := .i64) (t := 3) (by kernel_rfl)) hx hf 0 (off := 0) (sz := 1) (by kernel_rfl)
  obtain ⟨a1, _, h1⟩ := Opn.fieldAt (Opn.int (k := .i64) (t := 3) (by kernel_rfl)) hx hf 1 (off := 1) (sz := 1) (by kernel_rfl)
  have hc : X.P.cellsOf 148 = 2 := by kernel_rfl
  exact ⟨⟨a0, a1⟩, trivial, by simpa [gw_Goal, D.cells, sl] using Seg.cons h0 (Seg.cons h1 (Seg.nil (cs := cs.drop 2) (List.drop_of_length_le (by omega))))⟩
theorem o40 : Opn X.P 40 gw_Conditions Wf_Conditions :=
 Opn.strct (isStrct_ok (by kernel_rfl)) fun enc w base spare held n cs xs hl hx hf => by
  obtain ⟨a0, g0, h0⟩ := Opn.fieldAt (Opn.slice (t := 38) (e := 148) (wd := 2) (by kernel_rfl) (by kernel_rfl) (by decide) (fun _ => rfl) o148) hx hf 0 (off := 0) (sz := 1) (by kernel_rfl)
  obtain ⟨a1, _, h1⟩ := Opn.fieldAt (Opn.int (k := .i64) (t := 3) (by kernel_rfl)) hx hf 1 (off := 1) (sz := 1) (by kernel_rfl)
  obtain ⟨a2, _, h2⟩ := Opn.fieldAt (Opn.int (k := .i64) (t := 3) (by kernel_rfl)) hx hf 2 (off := 2) (sz := 1) (by kernel_rfl)
  have hc : X.P.cellsOf 40 = 3 := by kernel_rfl
  exact ⟨⟨a0, a1, a2⟩, (Nat.lt_of_le_of_lt g0.2 (by decide)), by simpa [gw_Conditions, D.cells, sl] using Seg.cons h0 (Seg.cons h1 (Seg.cons h2 (Seg.nil (cs := cs.drop 3) (List.drop_of_length_le (by omega)))))⟩
theorem o42 : Opn X.P 42 gw_Scenario Wf_Scenario :=
 Opn.strct (isStrct_ok (by kernel_rfl)) fun enc w base spare held n cs xs hl hx hf => by
  obtain ⟨a0, g0, h0⟩ := Opn.fieldAt (Opn.str (t := 9) (by kernel_rfl)) hx hf 0 (off := 0) (sz := 1) (by kernel_rfl)
  obtain ⟨a1, g1, h1⟩ := Opn.fieldAt o30 hx hf 1 (off := 1) (sz := 12) (by kernel_rfl)
  obtain ⟨a2, g2, h2⟩ := Opn.fieldAt o34 hx hf 2 (off := 13) (sz := 3) (by kernel_rfl)
  obtain ⟨a3, g3, h3⟩ := Opn.fieldAt o37 hx hf 3 (off := 16) (sz := 3) (by kernel_rfl)
  obtain ⟨a4, g4, h4⟩ := Opn.fieldAt o40 hx hf 4 (off := 19) (sz := 3) (by kernel_rfl)
  obtain ⟨a5, g5, h5⟩ := Opn.fieldAt (Opn.slice (t := 26) (e := 3) (wd := 1) (by kernel_rfl) (by kernel_rfl) (by decide) (fun _ => rfl) (Opn.int (k := .i64) (t := 3) (by kernel_rfl))) hx hf 5 (off := 22) (sz := 1) (by kernel_rfl)
  obtain ⟨a6, g6, h6⟩ := Opn.fieldAt (Opn.slice (t := 26) (e := 3) (wd := 1) (by kernel_rfl) (by kernel_rfl) (by decide) (fun _ => rfl) (Opn.int (k := .i64) (t := 3) (by kernel_rfl))) hx hf 6 (off := 23) (sz := 1) (by kernel_rfl)
  have hc : X.P.cellsOf 42 = 24 := by kernel_rfl
  exact ⟨⟨a0, a1, a2, a3, a4, a5, a6⟩, ⟨(Nat.lt_of_le_of_lt g0 (by decide)), g1, g2, g3, g4, (Nat.lt_of_le_of_lt g5.2 (by decide)), (Nat.lt_of_le_of_lt g6.2 (by decide))⟩, by simpa [gw_Scenario, gw_Board, gw_CombatTable, gw_State, gw_Conditions, D.cells, sl] using Seg.cons h0 (Seg.cons h1 (Seg.cons h2 (Seg.cons h3 (Seg.cons h4 (Seg.cons h5 (Seg.cons h6 (Seg.nil (cs := cs.drop 24) (List.drop_of_length_le (by omega)))))))))⟩
theorem own_ : ownKnob Go.Proofs.Tryz.prog.godebug = none := by kernel_rfl
set_option maxRecDepth 100000 in
theorem door_met4 (os : Os) (args : Array Value) : laidMetH Go.Proofs.Tryz.prog [("math/bits.deBruijn32tab", Go.Proofs.YtogomlkoocbhcaaGreatDoor.Rows.laid_math_bits_deBruijn32tab), ("math/bits.deBruijn64tab", Go.Proofs.YtogomlkoocbhcaaGreatDoor.Rows.laid_math_bits_deBruijn64tab), ("internal/strconv.uint64pow10", Go.Proofs.YtogomlkoocbhcaaGreatDoor.Rows.laid_internal_strconv_uint64pow10), ("loop.example/g00886/impl.directions", Go.Proofs.YtogomlkoocbhcaaGreatDoor.Rows.laid_loop_example_g00886_impl_directions)] ((World.laidAll Go.Proofs.Tryz.prog os [("math/bits.deBruijn32tab", Go.Proofs.YtogomlkoocbhcaaGreatDoor.Rows.laid_math_bits_deBruijn32tab), ("math/bits.deBruijn64tab", Go.Proofs.YtogomlkoocbhcaaGreatDoor.Rows.laid_math_bits_deBruijn64tab), ("internal/strconv.uint64pow10", Go.Proofs.YtogomlkoocbhcaaGreatDoor.Rows.laid_internal_strconv_uint64pow10), ("loop.example/g00886/impl.directions", Go.Proofs.YtogomlkoocbhcaaGreatDoor.Rows.laid_loop_example_g00886_impl_directions)]).forCall (fun _ _ => 0) ⟨#[], args, []⟩).memory :=
 laidMetH_of_parts3 (fuel := 8) (laidMet_laidAll args (by kernel_rfl) (by kernel_rfl)) (by kernel_rfl) (by kernel_rfl)
set_option maxRecDepth 100000 in
theorem lifted4 (os : Os) (started : os.Started) (H : Type) (enc : TypeId × Value → H) :
  ReturnsInHanded {} Go.Proofs.Tryz.checked os 4 .any (fun w args => (Go.Proofs.YtogomlkoocbhcaaGreatDoor.Rows.fnExactIsFairSpec.pre enc Go.Proofs.Tryz.prog Go.Proofs.Tryz.f4 [] false w args ∧ laidMetH Go.Proofs.Tryz.prog [("math/bits.deBruijn32tab", Go.Proofs.YtogomlkoocbhcaaGreatDoor.Rows.laid_math_bits_deBruijn32tab), ("math/bits.deBruijn64tab", Go.Proofs.YtogomlkoocbhcaaGreatDoor.Rows.laid_math_bits_deBruijn64tab), ("internal/strconv.uint64pow10", Go.Proofs.YtogomlkoocbhcaaGreatDoor.Rows.laid_internal_strconv_uint64pow10), ("loop.example/g00886/impl.directions", Go.Proofs.YtogomlkoocbhcaaGreatDoor.Rows.laid_loop_example_g00886_impl_directions)] w) ∧ sizedMet enc Go.Proofs.Tryz.prog Go.Proofs.Tryz.f4 (OpenSpec.ofChange Go.Proofs.YtogomlkoocbhcaaGreatDoor.Rows.fnExactIsFairSpec) false w args) (Go.Proofs.YtogomlkoocbhcaaGreatDoor.Rows.fnExactIsFairSpec.post enc Go.Proofs.Tryz.prog Go.Proofs.Tryz.f4 false true false false) :=
 law_returns_laid (C := Go.Proofs.Tryz.checked) (rt := 4) (gl := X.gl) own_ started (by kernel_rfl) Go.Proofs.Tryz.func4
  (ChangeSpec.witness_shaped (enc := enc) (C := Go.Proofs.Tryz.checked) (os := os) (X := fun w _ => laidMetH Go.Proofs.Tryz.prog [("math/bits.deBruijn32tab", Go.Proofs.YtogomlkoocbhcaaGreatDoor.Rows.laid_math_bits_deBruijn32tab), ("math/bits.deBruijn64tab", Go.Proofs.YtogomlkoocbhcaaGreatDoor.Rows.laid_math_bits_deBruijn64tab), ("internal/strconv.uint64pow10", Go.Proofs.YtogomlkoocbhcaaGreatDoor.Rows.laid_internal_strconv_uint64pow10), ("loop.example/g00886/impl.directions", Go.Proofs.YtogomlkoocbhcaaGreatDoor.Rows.laid_loop_example_g00886_impl_directions)] w) false (World.laidAll Go.Proofs.Tryz.prog os [("math/bits.deBruijn32tab", Go.Proofs.YtogomlkoocbhcaaGreatDoor.Rows.laid_math_bits_deBruijn32tab), ("math/bits.deBruijn64tab", Go.Proofs.YtogomlkoocbhcaaGreatDoor.Rows.laid_math_bits_deBruijn64tab), ("internal/strconv.uint64pow10", Go.Proofs.YtogomlkoocbhcaaGreatDoor.Rows.laid_internal_strconv_uint64pow10), ("loop.example/g00886/impl.directions", Go.Proofs.YtogomlkoocbhcaaGreatDoor.Rows.laid_loop_example_g00886_impl_directions)]) #[.agg #[.string ByteArray.empty, .slice none 0 0, .slice none 0 0, .int .i64 0, .int .i64 0, .int .i64 0, .int .i64 0, .int .i64 0, .int .i64 0, .int .i64 0, .slice none 0 0, .slice none 0 0, .slice none 0 0, .slice none 0 0, .int .i64 0, .slice none 0 0, .int .i64 0, .int .i64 0, .slice none 0 0, .slice none 0 0, .int .i64 0, .int .i64 0, .slice none 0 0, .slice none 0 0]] 8 rfl (World.shaped_of_ZipB (by kernel_rfl) (by kernel_rfl)) (by kernel_rfl) (by kernel_rfl) (by kernel_rfl) (door_met4 os _))
  (by kernel_rfl) (by kernel_rfl) (by kernel_rfl) (by kernel_rfl) (by kernel_rfl)
  (fun ds gs hd hg => match ds, gs, hd, hg with | [_], [_], _, _ => rfl)
  (by kernel_rfl) (by kernel_rfl)
  (.cons (Opn.agg o42 (isStrct_ok (by kernel_rfl)) (fun _ => rfl)) (.nil))
  (fun xs hq => by
   obtain ⟨_, _, rfl, ⟨x0, rfl, hb0⟩, rfl⟩ := hq
   exact cw_FnExactIsFair (lawIsFair x0  hb0))
theorem fnExactIsFair_holds : Go.Proofs.YtogomlkoocbhcaaGreatDoor.Rows.FnExactIsFairSaid :=
 OpenClaim.holds_of_wide 4 Go.Proofs.Tryz.f4 rfl rfl rfl rfl rfl rfl rfl ⟨rfl, rfl, rfl, rfl, rfl⟩ rfl rfl rfl rfl rfl (by kernel_rfl) Go.Proofs.Tryz.func4 (by kernel_rfl)
  (of_decide_eq_true (by kernel_rfl)) (by unfold Func.isWrapper; first | (rw [if_pos (by decide +kernel)]; kernel_rfl) | (rw [if_neg (by decide +kernel)]; exact ⟨rfl, rfl⟩))
  (fun os started H enc _ => lifted4 os started H enc)
theorem fnExactIsFair_card : Go.Proofs.YtogomlkoocbhcaaGreatDoor.Rows.FnExactIsFairCardSaid :=
 Claim7.holds_tied_plain_at .later [] [.data, .data, .data, .data] true (true, "2c271b79483a257178a32af5f9d45857b8ba7393ee7b52a37738c3113abd97e1") false
  fnExactIsFair_holds (fun _ h => by cases h) (by kernel_rfl) (fun _ h => by cases h) Go.Proofs.YtogomlkoocbhcaaGreatDoor.fnExactIsFair_row_tie rfl ⟨rfl, rfl⟩ (by kernel_rfl) rfl
  (fun f fn hf hfn => by
   obtain rfl : f = 4 := Option.some.inj ((show Go.Proofs.Tryz.prog.funcNamed "loop.example/g00886/laws.FnExactIsFair" = some 4 by kernel_rfl).symm.trans hf) |>.symm
   obtain rfl : fn = Go.Proofs.Tryz.f4 := (Option.some.inj (Go.Proofs.Tryz.func4.symm.trans hfn)).symm
   exact ⟨by kernel_rfl, fun j t ht => by
    have hp : Go.Proofs.Tryz.f4.params = #[42] := by kernel_rfl
    rw [hp] at ht
    have hm : t ∈ [42] := by simpa using Array.mem_of_getElem? ht
    have hall : ([42].all fun u => !Go.Proofs.Tryz.prog.wantsStandIn u) = true := by kernel_rfl
    exact (show Go.Proofs.Tryz.prog.wantsStandIn t = false by simpa using List.all_eq_true.1 hall t hm)⟩)
  (by kernel_rfl)
end Go.Proofs.YtogomlkoocbhcaaGreatDoor.Ab

namespace Go.Proofs.YtogomlkoocbhcaaGreatDoor
theorem fnExactIsFair_card_proved : Rows.FnExactIsFairCardSaid := Ab.fnExactIsFair_card
end Go.Proofs.YtogomlkoocbhcaaGreatDoor
