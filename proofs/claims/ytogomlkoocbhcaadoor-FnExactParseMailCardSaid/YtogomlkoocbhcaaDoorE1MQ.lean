/- What the laws of this text say, in the given statements' words; no condition. -/
import Derived.Test.YtogomlkoocbhcaaDoorE1MC
import Derived.Test.YtogomlkoocbhcaaDoorE1MP
import Derived.Test.YtogomlkoocbhcaaDoorAb5
import Derived.Test.YtogomlkoocbhcaaDoorAb5
import Derived.Test.YtogomlkoocbhcaaDoorTie
import Derived.Test.YtogomlkoocbhcaaDoorCards
import Derived.SevenTiedAt
import Derived.Lay
import Derived.Test.YtogomlkoocbhcaaDoorRows
set_option linter.unusedVariables false
set_option linter.unusedSimpArgs false
open Go Go.Proofs Go.RowKit
namespace Go.Proofs.YtogomlkoocbhcaaDoor.Ab

theorem own_ : ownKnob Go.Proofs.Tryd.prog.godebug = none := by kernel_rfl
set_option maxRecDepth 100000 in
theorem door_met4 (os : Os) (args : Array Value) : laidMetH Go.Proofs.Tryd.prog [("math/bits.deBruijn32tab", Go.Proofs.YtogomlkoocbhcaaDoor.Rows.laid_math_bits_deBruijn32tab), ("math/bits.deBruijn64tab", Go.Proofs.YtogomlkoocbhcaaDoor.Rows.laid_math_bits_deBruijn64tab), ("internal/strconv.uint64pow10", Go.Proofs.YtogomlkoocbhcaaDoor.Rows.laid_internal_strconv_uint64pow10), ("unicode/utf8.acceptRanges", Go.Proofs.YtogomlkoocbhcaaDoor.Rows.laid_unicode_utf8_acceptRanges), ("strconv.ErrRange", Go.Proofs.YtogomlkoocbhcaaDoor.Rows.laid_strconv_ErrRange), ("strconv.ErrSyntax", Go.Proofs.YtogomlkoocbhcaaDoor.Rows.laid_strconv_ErrSyntax), ("unicode/utf8.first", Go.Proofs.YtogomlkoocbhcaaDoor.Rows.laid_unicode_utf8_first)] ((World.laidAll Go.Proofs.Tryd.prog os [("math/bits.deBruijn32tab", Go.Proofs.YtogomlkoocbhcaaDoor.Rows.laid_math_bits_deBruijn32tab), ("math/bits.deBruijn64tab", Go.Proofs.YtogomlkoocbhcaaDoor.Rows.laid_math_bits_deBruijn64tab), ("internal/strconv.uint64pow10", Go.Proofs.YtogomlkoocbhcaaDoor.Rows.laid_internal_strconv_uint64pow10), ("unicode/utf8.acceptRanges", Go.Proofs.YtogomlkoocbhcaaDoor.Rows.laid_unicode_utf8_acceptRanges), ("strconv.ErrRange", Go.Proofs.YtogomlkoocbhcaaDoor.Rows.laid_strconv_ErrRange), ("strconv.ErrSyntax", Go.Proofs.YtogomlkoocbhcaaDoor.Rows.laid_strconv_ErrSyntax), ("unicode/utf8.first", Go.Proofs.YtogomlkoocbhcaaDoor.Rows.laid_unicode_utf8_first)]).forCall (fun _ _ => 0) ⟨#[], args, []⟩).memory :=
 laidMetH_of_parts3 (fuel := 8) (laidMet_laidAll args (by kernel_rfl) (by kernel_rfl)) (by kernel_rfl) (by kernel_rfl)
set_option maxRecDepth 100000 in
theorem lifted4 (os : Os) (started : os.Started) (H : Type) (enc : TypeId × Value → H) :
  ReturnsInHanded {} Go.Proofs.Tryd.checked os 4 .any (fun w args => (Go.Proofs.YtogomlkoocbhcaaDoor.Rows.fnExactParseMailSpec.pre enc Go.Proofs.Tryd.prog Go.Proofs.Tryd.f4 [] false w args ∧ laidMetH Go.Proofs.Tryd.prog [("math/bits.deBruijn32tab", Go.Proofs.YtogomlkoocbhcaaDoor.Rows.laid_math_bits_deBruijn32tab), ("math/bits.deBruijn64tab", Go.Proofs.YtogomlkoocbhcaaDoor.Rows.laid_math_bits_deBruijn64tab), ("internal/strconv.uint64pow10", Go.Proofs.YtogomlkoocbhcaaDoor.Rows.laid_internal_strconv_uint64pow10), ("unicode/utf8.acceptRanges", Go.Proofs.YtogomlkoocbhcaaDoor.Rows.laid_unicode_utf8_acceptRanges), ("strconv.ErrRange", Go.Proofs.YtogomlkoocbhcaaDoor.Rows.laid_strconv_ErrRange), ("strconv.ErrSyntax", Go.Proofs.YtogomlkoocbhcaaDoor.Rows.laid_strconv_ErrSyntax), ("unicode/utf8.first", Go.Proofs.YtogomlkoocbhcaaDoor.Rows.laid_unicode_utf8_first)] w) ∧ sizedMet enc Go.Proofs.Tryd.prog Go.Proofs.Tryd.f4 (OpenSpec.ofChange Go.Proofs.YtogomlkoocbhcaaDoor.Rows.fnExactParseMailSpec) false w args) (Go.Proofs.YtogomlkoocbhcaaDoor.Rows.fnExactParseMailSpec.post enc Go.Proofs.Tryd.prog Go.Proofs.Tryd.f4 false true false false) :=
 law_returns_laid (C := Go.Proofs.Tryd.checked) (rt := 4) (gl := X.gl) own_ started (by kernel_rfl) Go.Proofs.Tryd.func4
  (ChangeSpec.witness_shaped (enc := enc) (C := Go.Proofs.Tryd.checked) (os := os) (X := fun w _ => laidMetH Go.Proofs.Tryd.prog [("math/bits.deBruijn32tab", Go.Proofs.YtogomlkoocbhcaaDoor.Rows.laid_math_bits_deBruijn32tab), ("math/bits.deBruijn64tab", Go.Proofs.YtogomlkoocbhcaaDoor.Rows.laid_math_bits_deBruijn64tab), ("internal/strconv.uint64pow10", Go.Proofs.YtogomlkoocbhcaaDoor.Rows.laid_internal_strconv_uint64pow10), ("unicode/utf8.acceptRanges", Go.Proofs.YtogomlkoocbhcaaDoor.Rows.laid_unicode_utf8_acceptRanges), ("strconv.ErrRange", Go.Proofs.YtogomlkoocbhcaaDoor.Rows.laid_strconv_ErrRange), ("strconv.ErrSyntax", Go.Proofs.YtogomlkoocbhcaaDoor.Rows.laid_strconv_ErrSyntax), ("unicode/utf8.first", Go.Proofs.YtogomlkoocbhcaaDoor.Rows.laid_unicode_utf8_first)] w) false (World.laidAll Go.Proofs.Tryd.prog os [("math/bits.deBruijn32tab", Go.Proofs.YtogomlkoocbhcaaDoor.Rows.laid_math_bits_deBruijn32tab), ("math/bits.deBruijn64tab", Go.Proofs.YtogomlkoocbhcaaDoor.Rows.laid_math_bits_deBruijn64tab), ("internal/strconv.uint64pow10", Go.Proofs.YtogomlkoocbhcaaDoor.Rows.laid_internal_strconv_uint64pow10), ("unicode/utf8.acceptRanges", Go.Proofs.YtogomlkoocbhcaaDoor.Rows.laid_unicode_utf8_acceptRanges), ("strconv.ErrRange", Go.Proofs.YtogomlkoocbhcaaDoor.Rows.laid_strconv_ErrRange), ("strconv.ErrSyntax", Go.Proofs.YtogomlkoocbhcaaDoor.Rows.laid_strconv_ErrSyntax), ("unicode/utf8.first", Go.Proofs.YtogomlkoocbhcaaDoor.Rows.laid_unicode_utf8_first)]) #[.string ByteArray.empty] 8 rfl (World.shaped_of_ZipB (by kernel_rfl) (by kernel_rfl)) (by kernel_rfl) (by kernel_rfl) (by kernel_rfl) (door_met4 os _))
  (by kernel_rfl) (by kernel_rfl) (by kernel_rfl) (by kernel_rfl) (by kernel_rfl)
  (fun ds gs hd hg => match ds, gs, hd, hg with | [_], [], _, _ => rfl)
  (by kernel_rfl) (by kernel_rfl)
  (.cons (OpnV.str (by kernel_rfl)) (.nil))
  (fun xs hq => by
   obtain ⟨_, _, rfl, ⟨x0, rfl, hb0⟩, rfl⟩ := hq
   exact cw_FnExactParseMail (lawParseMail x0 (Nat.lt_of_le_of_lt hb0 (by decide))))
theorem fnExactParseMail_holds : Go.Proofs.YtogomlkoocbhcaaDoor.Rows.FnExactParseMailSaid :=
 OpenClaim.holds_of_wide 4 Go.Proofs.Tryd.f4 rfl rfl rfl rfl rfl rfl rfl ⟨rfl, rfl, rfl, rfl, rfl⟩ rfl rfl rfl rfl rfl (by kernel_rfl) Go.Proofs.Tryd.func4 (by kernel_rfl)
  (of_decide_eq_true (by kernel_rfl)) (by unfold Func.isWrapper; first | (rw [if_pos (by decide +kernel)]; kernel_rfl) | (rw [if_neg (by decide +kernel)]; exact ⟨rfl, rfl⟩))
  (fun os started H enc _ => lifted4 os started H enc)
theorem fnExactParseMail_card : Go.Proofs.YtogomlkoocbhcaaDoor.Rows.FnExactParseMailCardSaid :=
 Claim7.holds_tied_plain_at .later [] [.data, .data, .data, .data, .sentinel, .sentinel, .pinned] true (true, "8c4f2786434bcb89d157a2dc0795873916fac98be09842bc62da51087793ce39") true
  fnExactParseMail_holds (fun _ h => by cases h) (by kernel_rfl) (fun _ h => by cases h) Go.Proofs.YtogomlkoocbhcaaDoor.fnExactParseMail_row_tie rfl ⟨rfl, rfl⟩ (by kernel_rfl) rfl
  (fun f fn hf hfn => by
   obtain rfl : f = 4 := Option.some.inj ((show Go.Proofs.Tryd.prog.funcNamed "loop.example/g00886/laws.FnExactParseMail" = some 4 by kernel_rfl).symm.trans hf) |>.symm
   obtain rfl : fn = Go.Proofs.Tryd.f4 := (Option.some.inj (Go.Proofs.Tryd.func4.symm.trans hfn)).symm
   exact ⟨by kernel_rfl, fun j t ht => by
    have hp : Go.Proofs.Tryd.f4.params = #[9] := by kernel_rfl
    rw [hp] at ht
    have hm : t ∈ [9] := by simpa using Array.mem_of_getElem? ht
    have hall : ([9].all fun u => !Go.Proofs.Tryd.prog.wantsStandIn u) = true := by kernel_rfl
    exact (show Go.Proofs.Tryd.prog.wantsStandIn t = false by simpa using List.all_eq_true.1 hall t hm)⟩)
  (by kernel_rfl)
end Go.Proofs.YtogomlkoocbhcaaDoor.Ab

namespace Go.Proofs.YtogomlkoocbhcaaDoor
theorem fnExactParseMail_card_proved : Rows.FnExactParseMailCardSaid := Ab.fnExactParseMail_card
end Go.Proofs.YtogomlkoocbhcaaDoor
