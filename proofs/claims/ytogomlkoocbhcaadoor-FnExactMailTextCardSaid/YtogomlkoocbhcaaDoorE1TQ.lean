/- What the laws of this text say, in the given statements' words; no condition. -/
import Derived.Test.YtogomlkoocbhcaaDoorE1TC
import Derived.Test.YtogomlkoocbhcaaDoorE1TP
import Derived.Test.YtogomlkoocbhcaaDoorAb5
import Derived.Test.YtogomlkoocbhcaaDoorAb5
import Derived.Test.YtogomlkoocbhcaaDoorTie
import Derived.Test.YtogomlkoocbhcaaDoorCards
import Derived.SevenTiedAt
import Derived.Lay
import Derived.Test.YtogomlkoocbhcaaDoorRows
set_option linter.unusedVariables false
set_option linter.unusedSimpArgs false
open Go Go.Proofs Go.RowKit
namespace Go.Proofs.YtogomlkoocbhcaaDoor.Ab
theorem o39 : Opn X.P 39 gw_Mail fun _ => True :=
 Opn.strct (isStrct_ok (by kernel_rfl)) fun enc w base spare held n cs xs hl hx hf => by
  obtain ⟨a0, _, h0⟩ := Opn.fieldAt (Opn.int (k := .i64) (t := 3) (by kernel_rfl)) hx hf 0 (off := 0) (sz := 1) (by kernel_rfl)
  obtain ⟨a1, _, h1⟩ := Opn.fieldAt (Opn.int (k := .i64) (t := 3) (by kernel_rfl)) hx hf 1 (off := 1) (sz := 1) (by kernel_rfl)
  obtain ⟨a2, _, h2⟩ := Opn.fieldAt (Opn.int (k := .i64) (t := 3) (by kernel_rfl)) hx hf 2 (off := 2) (sz := 1) (by kernel_rfl)
  have hc : X.P.cellsOf 39 = 3 := by kernel_rfl
  exact ⟨⟨a0, a1, a2⟩, trivial, by simpa [gw_Mail, D.cells, sl] using Seg.cons h0 (Seg.cons h1 (Seg.cons h2 (Seg.nil (cs := cs.drop 3) (List.drop_of_length_le (by omega)))))⟩
theorem own_ : ownKnob Go.Proofs.Tryd.prog.godebug = none := by kernel_rfl
set_option maxRecDepth 100000 in
theorem door_met3 (os : Os) (args : Array Value) : laidMetH Go.Proofs.Tryd.prog [("math/bits.deBruijn32tab", Go.Proofs.YtogomlkoocbhcaaDoor.Rows.laid_math_bits_deBruijn32tab), ("math/bits.deBruijn64tab", Go.Proofs.YtogomlkoocbhcaaDoor.Rows.laid_math_bits_deBruijn64tab), ("internal/strconv.uint64pow10", Go.Proofs.YtogomlkoocbhcaaDoor.Rows.laid_internal_strconv_uint64pow10)] ((World.laidAll Go.Proofs.Tryd.prog os [("math/bits.deBruijn32tab", Go.Proofs.YtogomlkoocbhcaaDoor.Rows.laid_math_bits_deBruijn32tab), ("math/bits.deBruijn64tab", Go.Proofs.YtogomlkoocbhcaaDoor.Rows.laid_math_bits_deBruijn64tab), ("internal/strconv.uint64pow10", Go.Proofs.YtogomlkoocbhcaaDoor.Rows.laid_internal_strconv_uint64pow10)]).forCall (fun _ _ => 0) ⟨#[], args, []⟩).memory :=
 laidMetH_of_parts3 (fuel := 8) (laidMet_laidAll args (by kernel_rfl) (by kernel_rfl)) (by kernel_rfl) (by kernel_rfl)
set_option maxRecDepth 100000 in
theorem lifted3 (os : Os) (started : os.Started) (H : Type) (enc : TypeId × Value → H) :
  ReturnsInHanded {} Go.Proofs.Tryd.checked os 3 .any (fun w args => (Go.Proofs.YtogomlkoocbhcaaDoor.Rows.fnExactMailTextSpec.pre enc Go.Proofs.Tryd.prog Go.Proofs.Tryd.f3 [] false w args ∧ laidMetH Go.Proofs.Tryd.prog [("math/bits.deBruijn32tab", Go.Proofs.YtogomlkoocbhcaaDoor.Rows.laid_math_bits_deBruijn32tab), ("math/bits.deBruijn64tab", Go.Proofs.YtogomlkoocbhcaaDoor.Rows.laid_math_bits_deBruijn64tab), ("internal/strconv.uint64pow10", Go.Proofs.YtogomlkoocbhcaaDoor.Rows.laid_internal_strconv_uint64pow10)] w) ∧ sizedMet enc Go.Proofs.Tryd.prog Go.Proofs.Tryd.f3 (OpenSpec.ofChange Go.Proofs.YtogomlkoocbhcaaDoor.Rows.fnExactMailTextSpec) false w args) (Go.Proofs.YtogomlkoocbhcaaDoor.Rows.fnExactMailTextSpec.post enc Go.Proofs.Tryd.prog Go.Proofs.Tryd.f3 false true false false) :=
 law_returns_laid (C := Go.Proofs.Tryd.checked) (rt := 4) (gl := X.gl) own_ started (by kernel_rfl) Go.Proofs.Tryd.func3
  (ChangeSpec.witness_shaped (enc := enc) (C := Go.Proofs.Tryd.checked) (os := os) (X := fun w _ => laidMetH Go.Proofs.Tryd.prog [("math/bits.deBruijn32tab", Go.Proofs.YtogomlkoocbhcaaDoor.Rows.laid_math_bits_deBruijn32tab), ("math/bits.deBruijn64tab", Go.Proofs.YtogomlkoocbhcaaDoor.Rows.laid_math_bits_deBruijn64tab), ("internal/strconv.uint64pow10", Go.Proofs.YtogomlkoocbhcaaDoor.Rows.laid_internal_strconv_uint64pow10)] w) false (World.laidAll Go.Proofs.Tryd.prog os [("math/bits.deBruijn32tab", Go.Proofs.YtogomlkoocbhcaaDoor.Rows.laid_math_bits_deBruijn32tab), ("math/bits.deBruijn64tab", Go.Proofs.YtogomlkoocbhcaaDoor.Rows.laid_math_bits_deBruijn64tab), ("internal/strconv.uint64pow10", Go.Proofs.YtogomlkoocbhcaaDoor.Rows.laid_internal_strconv_uint64pow10)]) #[.slice none 0 0] 8 rfl (World.shaped_of_ZipB (by kernel_rfl) (by kernel_rfl)) (by kernel_rfl) (by kernel_rfl) (by kernel_rfl) (door_met3 os _))
  (by kernel_rfl) (by kernel_rfl) (by kernel_rfl) (by kernel_rfl) (by kernel_rfl)
  (fun ds gs hd hg => match ds, gs, hd, hg with | [_], [], _, _ => rfl)
  (by kernel_rfl) (by kernel_rfl)
  (.cons (OpnV.slice (e := 39) (wd := 3) (by kernel_rfl) (by kernel_rfl) (by decide) (fun _ => rfl) o39) (.nil))
  (fun xs hq => by
   obtain ⟨_, _, rfl, ⟨x0, rfl, hg0, hb0⟩, rfl⟩ := hq
   exact cw_FnExactMailText (lawMailText x0 (Nat.lt_of_le_of_lt hb0 (by decide))))
theorem fnExactMailText_holds : Go.Proofs.YtogomlkoocbhcaaDoor.Rows.FnExactMailTextSaid :=
 OpenClaim.holds_of_wide 3 Go.Proofs.Tryd.f3 rfl rfl rfl rfl rfl rfl rfl ⟨rfl, rfl, rfl, rfl, rfl⟩ rfl rfl rfl rfl rfl (by kernel_rfl) Go.Proofs.Tryd.func3 (by kernel_rfl)
  (of_decide_eq_true (by kernel_rfl)) (by unfold Func.isWrapper; first | (rw [if_pos (by decide +kernel)]; kernel_rfl) | (rw [if_neg (by decide +kernel)]; exact ⟨rfl, rfl⟩))
  (fun os started H enc _ => lifted3 os started H enc)
theorem fnExactMailText_card : Go.Proofs.YtogomlkoocbhcaaDoor.Rows.FnExactMailTextCardSaid :=
 Claim7.holds_tied_plain_at .later [] [.data, .data, .data] true (true, "8c4f2786434bcb89d157a2dc0795873916fac98be09842bc62da51087793ce39") true
  fnExactMailText_holds (fun _ h => by cases h) (by kernel_rfl) (fun _ h => by cases h) Go.Proofs.YtogomlkoocbhcaaDoor.fnExactMailText_row_tie rfl ⟨rfl, rfl⟩ (by kernel_rfl) rfl
  (fun f fn hf hfn => by
   obtain rfl : f = 3 := Option.some.inj ((show Go.Proofs.Tryd.prog.funcNamed "loop.example/g00886/laws.FnExactMailText" = some 3 by kernel_rfl).symm.trans hf) |>.symm
   obtain rfl : fn = Go.Proofs.Tryd.f3 := (Option.some.inj (Go.Proofs.Tryd.func3.symm.trans hfn)).symm
   exact ⟨by kernel_rfl, fun j t ht => by
    have hp : Go.Proofs.Tryd.f3.params = #[22] := by kernel_rfl
    rw [hp] at ht
    have hm : t ∈ [22] := by simpa using Array.mem_of_getElem? ht
    have hall : ([22].all fun u => !Go.Proofs.Tryd.prog.wantsStandIn u) = true := by kernel_rfl
    exact (show Go.Proofs.Tryd.prog.wantsStandIn t = false by simpa using List.all_eq_true.1 hall t hm)⟩)
  (by kernel_rfl)
end Go.Proofs.YtogomlkoocbhcaaDoor.Ab

namespace Go.Proofs.YtogomlkoocbhcaaDoor
theorem fnExactMailText_card_proved : Rows.FnExactMailTextCardSaid := Ab.fnExactMailText_card
end Go.Proofs.YtogomlkoocbhcaaDoor
