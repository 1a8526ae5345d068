/- Part of the proof of FnExactParseMailCard: no condition of its own. -/
import Derived.Test.YtogomlkoocbhcaaDoorAb4
set_option linter.unusedVariables false
set_option linter.unusedSimpArgs false
open Go
namespace Go.Proofs.YtogomlkoocbhcaaDoor.Ab
structure Gi_Mail where
 mk ::
 Turn : Int
 Side : Int
 Seal : Int
def gi_Mail (x : Gi_Mail) : D := .agg [I x.Turn, I x.Side, I x.Seal]
def gv105 : List Int := [1, 10, 100, 1000, 10000, 100000, 1000000, 10000000, 100000000, 1000000000, 10000000000, 100000000000, 1000000000000, 10000000000000, 100000000000000, 1000000000000000, 10000000000000000, 100000000000000000, 1000000000000000000, 10000000000000000000]
def gc105 : List D := [.agg (gv105.flatMap fun y => ((D.int .u64) y).cells)]
inductive Ss_l1Split where
 | h1 (s0 : ByteArray) (b1 : Int) (vfrom2 : Int) (i3 : Int) (l4 : (List ByteArray))
noncomputable def Bs_l1Split : Ss_l1Split → Option (Ss_l1Split ⊕ ((List ByteArray)))
 | .h1 s0 b1 vfrom2 i3 l4 =>
  if i3 < ((ByteArray.size s0 : Nat) : Int) then
  if 0 ≤ i3 then
  if i3 < (ByteArray.size s0 : Int) then
  if (((byteAt s0 (Int.toNat i3) : Nat) : Int) : Int) = b1 then
  if (0 : Int) ≤ vfrom2 then
  if (vfrom2 : Int) ≤ i3 then
  if (i3 : Int) ≤ ((ByteArray.size s0 : Nat) : Int) then
  if (l4 ++ [(ByteArray.extract s0 (Int.toNat vfrom2) (Int.toNat i3))]).length * 16 ≤ 70368744177664 then
  some (.inl (.h1 s0 b1 (IntKind.wrap .i64 (i3 + 1)) (IntKind.wrap .i64 (i3 + 1)) (l4 ++ [(ByteArray.extract s0 (Int.toNat vfrom2) (Int.toNat i3))])))
  else none
  else none
  else none
  else none
  else
  some (.inl (.h1 s0 b1 vfrom2 (IntKind.wrap .i64 (i3 + 1)) l4))
  else none
  else none
  else
  if (0 : Int) ≤ vfrom2 then
  if (vfrom2 : Int) ≤ ((ByteArray.size s0 : Nat) : Int) then
  if (l4 ++ [(ByteArray.extract s0 (Int.toNat vfrom2) (ByteArray.size s0))]).length * 16 ≤ 70368744177664 then
  some (.inr (l4 ++ [(ByteArray.extract s0 (Int.toNat vfrom2) (ByteArray.size s0))]))
  else none
  else none
  else none
noncomputable def Ds_l1Split (a0 : ByteArray) (a1 : Int) : Option ((List ByteArray)) :=
 loop Bs_l1Split (.h1 a0 a1 0 0 ([] : List ByteArray))
noncomputable def Ds_l1In (a0 : Int) (a1 : Int) (a2 : Int) : Option (Bool) :=
 if a0 ≥ a1 then
 some (decide (a0 ≤ a2))
 else
 some false
inductive Ss_l1Read where
 | h1 (s0 : ByteArray) (n1 : Int) (i2 : Int)
noncomputable def Bs_l1Read : Ss_l1Read → Option (Ss_l1Read ⊕ (Int))
 | .h1 s0 n1 i2 =>
  if i2 < ((ByteArray.size s0 : Nat) : Int) then
  if 0 ≤ i2 then
  if i2 < (ByteArray.size s0 : Int) then
  if ((byteAt s0 (Int.toNat i2) : Nat) : Int) < 48 then
  some (.inr (-1))
  else
  if 0 ≤ i2 then
  if i2 < (ByteArray.size s0 : Int) then
  if ((byteAt s0 (Int.toNat i2) : Nat) : Int) > 57 then
  some (.inr (-1))
  else
  if 0 ≤ i2 then
  if i2 < (ByteArray.size s0 : Int) then
  some (.inl (.h1 s0 (IntKind.wrap .i64 ((IntKind.wrap .i64 (10 * n1)) + (IntKind.wrap .i64 (IntKind.wrap .u8 (((byteAt s0 (Int.toNat i2) : Nat) : Int) - 48))))) (IntKind.wrap .i64 (i2 + 1))))
  else none
  else none
  else none
  else none
  else none
  else none
  else
  some (.inr n1)
noncomputable def Ds_l1Read (a0 : ByteArray) : Option (Int) :=
 Option.bind (Ds_l1In ((ByteArray.size a0 : Nat) : Int) 1 6) fun r1 =>
 if r1 = true then
 if 0 < (ByteArray.size a0 : Int) then
 if (((byteAt a0 (Int.toNat 0) : Nat) : Int) : Int) = 48 then
 if ((ByteArray.size a0 : Nat) : Int) > 1 then
 some (-1)
 else
 loop Bs_l1Read (.h1 a0 0 0)
 else
 loop Bs_l1Read (.h1 a0 0 0)
 else none
 else
 some (-1)
inductive Ss_eDigits where
 | h1 (s0 : ByteArray) (n1 : Int) (i2 : Int)
noncomputable def Bs_eDigits : Ss_eDigits → Option (Ss_eDigits ⊕ (Int))
 | .h1 s0 n1 i2 =>
  if i2 < ((ByteArray.size s0 : Nat) : Int) then
  if i2 < 19 then
  if 0 ≤ i2 then
  if i2 < (ByteArray.size s0 : Int) then
  some (.inl (.h1 s0 (IntKind.wrap .i64 ((IntKind.wrap .i64 ((IntKind.wrap .i64 (10 * n1)) + (IntKind.wrap .i64 ((byteAt s0 (Int.toNat i2) : Nat) : Int)))) - 48)) (IntKind.wrap .i64 (i2 + 1))))
  else none
  else none
  else
  some (.inr n1)
  else
  some (.inr n1)
noncomputable def Ds_eDigits (a0 : ByteArray) : Option (Int) :=
 loop Bs_eDigits (.h1 a0 0 0)
noncomputable def Ds_dSeed (a0 : Int) : Option (Bool) :=
 Option.bind (Ds_l1In a0 0 4611686016279904236) fun r1 =>
 some r1
noncomputable def Ds_nKey (a0 : Gi_Mail) : Option (Int) :=
 some (IntKind.wrap .i64 ((IntKind.wrap .i64 (2 * a0.Turn)) + a0.Side))
inductive Ss_nMails where
 | h1 (l0 : (List Gi_Mail)) (t1 : (List Gi_Mail)) (t2 : Int) (t3 : Int)
noncomputable def Bs_nMails : Ss_nMails → Option (Ss_nMails ⊕ (Bool))
 | .h1 l0 t1 t2 t3 =>
  if t3 < t2 then
  if 0 ≤ t3 then
  Option.bind (t1[(Int.toNat t3)]?) fun x3 =>
  Option.bind (Ds_l1In x3.Turn 0 30) fun r4 =>
  if r4 = true then
  Option.bind (Ds_l1In x3.Side 0 1) fun r6 =>
  if r6 = true then
  Option.bind (Ds_dSeed x3.Seal) fun r8 =>
  if r8 = true then
  if t3 > 0 then
  if 0 ≤ (IntKind.wrap .i64 (t3 - 1)) then
  Option.bind (l0[(Int.toNat (IntKind.wrap .i64 (t3 - 1)))]?) fun x12 =>
  Option.bind (Ds_nKey x12) fun r13 =>
  Option.bind (Ds_nKey x3) fun r14 =>
  if r13 ≥ r14 then
  some (.inr false)
  else
  some (.inl (.h1 l0 t1 t2 (IntKind.wrap .i64 (t3 + 1))))
  else none
  else
  some (.inl (.h1 l0 t1 t2 (IntKind.wrap .i64 (t3 + 1))))
  else
  some (.inr false)
  else
  some (.inr false)
  else
  some (.inr false)
  else none
  else
  some (.inr (decide (((l0.length : Nat) : Int) ≤ 20)))
noncomputable def Ds_nMails (a0 : (List Gi_Mail)) : Option (Bool) :=
 loop Bs_nMails (.h1 a0 a0 ((a0.length : Nat) : Int) 0)
noncomputable def Fs_l1Num (rec_ : Int → Option (ByteArray)) (a0 : Int) : Option (ByteArray) :=
 if a0 < 10 then
 if ∀ x ∈ [(IntKind.wrap .u8 (IntKind.wrap .i64 (48 + a0)))], 0 ≤ x ∧ x < 256 then
 some (bytesOf [(IntKind.wrap .u8 (IntKind.wrap .i64 (48 + a0)))])
 else none
 else
 Option.bind (rec_ (IntKind.wrap .i64 (Int.tdiv a0 10))) fun r2 =>
 if ∀ x ∈ [(IntKind.wrap .u8 (IntKind.wrap .i64 (48 + (Int.tmod a0 10))))], 0 ≤ x ∧ x < 256 then
 if ByteArray.size r2 + ByteArray.size (bytesOf [(IntKind.wrap .u8 (IntKind.wrap .i64 (48 + (Int.tmod a0 10))))]) ≤ 9223372036854775807 then
 some (r2 ++ (bytesOf [(IntKind.wrap .u8 (IntKind.wrap .i64 (48 + (Int.tmod a0 10))))]))
 else none
 else none
noncomputable def Ds_l1Num : Nat → Int → Option (ByteArray)
 | 0 => fun _ => none
 | n_ + 1 => Fs_l1Num (Ds_l1Num n_)
inductive Ss_nText where
 | h1 (s0 : ByteArray) (t1 : (List Gi_Mail)) (t2 : Int) (t3 : Int)
noncomputable def Bs_nText : Ss_nText → Option (Ss_nText ⊕ (ByteArray))
 | .h1 s0 t1 t2 t3 =>
  if t3 < t2 then
  if 0 ≤ t3 then
  Option.bind (t1[(Int.toNat t3)]?) fun x3 =>
  Option.bind (Ds_l1Num 100 x3.Turn) fun r4 =>
  if ByteArray.size ⟨#[109, 97, 105, 108, 32]⟩ + ByteArray.size r4 ≤ 9223372036854775807 then
  if ByteArray.size (⟨#[109, 97, 105, 108, 32]⟩ ++ r4) + ByteArray.size ⟨#[32]⟩ ≤ 9223372036854775807 then
  Option.bind (Ds_l1Num 100 x3.Side) fun r7 =>
  if ByteArray.size ((⟨#[109, 97, 105, 108, 32]⟩ ++ r4) ++ ⟨#[32]⟩) + ByteArray.size r7 ≤ 9223372036854775807 then
  if ByteArray.size (((⟨#[109, 97, 105, 108, 32]⟩ ++ r4) ++ ⟨#[32]⟩) ++ r7) + ByteArray.size ⟨#[32]⟩ ≤ 9223372036854775807 then
  Option.bind (Ds_l1Num 100 x3.Seal) fun r10 =>
  if ByteArray.size ((((⟨#[109, 97, 105, 108, 32]⟩ ++ r4) ++ ⟨#[32]⟩) ++ r7) ++ ⟨#[32]⟩) + ByteArray.size r10 ≤ 9223372036854775807 then
  if ByteArray.size (((((⟨#[109, 97, 105, 108, 32]⟩ ++ r4) ++ ⟨#[32]⟩) ++ r7) ++ ⟨#[32]⟩) ++ r10) + ByteArray.size ⟨#[10]⟩ ≤ 9223372036854775807 then
  if ByteArray.size s0 + ByteArray.size ((((((⟨#[109, 97, 105, 108, 32]⟩ ++ r4) ++ ⟨#[32]⟩) ++ r7) ++ ⟨#[32]⟩) ++ r10) ++ ⟨#[10]⟩) ≤ 9223372036854775807 then
  some (.inl (.h1 (s0 ++ ((((((⟨#[109, 97, 105, 108, 32]⟩ ++ r4) ++ ⟨#[32]⟩) ++ r7) ++ ⟨#[32]⟩) ++ r10) ++ ⟨#[10]⟩)) t1 t2 (IntKind.wrap .i64 (t3 + 1))))
  else none
  else none
  else none
  else none
  else none
  else none
  else none
  else none
  else
  some (.inr s0)
noncomputable def Ds_nText (a0 : (List Gi_Mail)) : Option (ByteArray) :=
 loop Bs_nText (.h1 ⟨#[]⟩ a0 ((a0.length : Nat) : Int) 0)
inductive Ss_ParseMail where
 | h1 (s0 : ByteArray) (t1 : Int) (t2 : Int) (l3 : (List Gi_Mail)) (l4 : (List ByteArray))
noncomputable def Bs_ParseMail : Ss_ParseMail → Option (Ss_ParseMail ⊕ ((List Gi_Mail) × Bool))
 | .h1 s0 t1 t2 l3 l4 =>
  if t2 < t1 then
  if 0 ≤ t2 then
  Option.bind (l4[(Int.toNat t2)]?) fun x3 =>
  Option.bind (Ds_l1Split x3 32) fun r4 =>
  if (((r4.length : Nat) : Int) : Int) = 4 then
  Option.bind (r4[(Int.toNat 3)]?) fun x6 =>
  if ((ByteArray.size x6 : Nat) : Int) > 19 then
  some (.inr ([], false))
  else
  Option.bind (r4[(Int.toNat 1)]?) fun x8 =>
  Option.bind (Ds_l1Read x8) fun r9 =>
  Option.bind (r4[(Int.toNat 2)]?) fun x10 =>
  Option.bind (Ds_l1Read x10) fun r11 =>
  Option.bind (r4[(Int.toNat 3)]?) fun x12 =>
  Option.bind (Ds_eDigits x12) fun r13 =>
  if (l3 ++ [(Gi_Mail.mk r9 r11 r13)]).length * 24 ≤ 70368744177664 then
  some (.inl (.h1 s0 t1 (IntKind.wrap .i64 (t2 + 1)) (l3 ++ [(Gi_Mail.mk r9 r11 r13)]) l4))
  else none
  else
  some (.inr ([], false))
  else none
  else
  Option.bind (Ds_nMails l3) fun r2 =>
  if r2 = true then
  Option.bind (Ds_nText l3) fun r4 =>
  if r4 = s0 then
  some (.inr (l3, true))
  else
  some (.inr ([], false))
  else
  some (.inr ([], false))
noncomputable def Ds_ParseMail (a0 : ByteArray) : Option ((List Gi_Mail) × Bool) :=
 Option.bind (Ds_l1Split a0 10) fun r1 =>
 if (0 : Int) ≤ (IntKind.wrap .i64 (((r1.length : Nat) : Int) - 1)) then
 if ((IntKind.wrap .i64 (((r1.length : Nat) : Int) - 1)) : Int) ≤ ((r1.length : Nat) : Int) then
 loop Bs_ParseMail (.h1 a0 ((((Int.toNat (IntKind.wrap .i64 (((r1.length : Nat) : Int) - 1))) - 0) : Nat) : Int) 0 ([] : List Gi_Mail) (List.take ((Int.toNat (IntKind.wrap .i64 (((r1.length : Nat) : Int) - 1))) - 0) (List.drop 0 r1)))
 else none
 else none
noncomputable def Dstrings_Split (a0 : ByteArray) (a1 : ByteArray) : Option (List ByteArray) := splitD a0 a1
noncomputable def Dstrconv_Atoi (a0 : ByteArray) : Option (Int × Bool) := atoiD a0
noncomputable def Dstrconv_Itoa (a0 : Int) : Option ByteArray := itoaD a0
noncomputable def Di_readInt (a0 : ByteArray) : Option (Int × Bool) :=
 Option.bind (Dstrconv_Atoi a0) fun r1 =>
 if r1.2 = true then
 some (0, false)
 else
 if ((ByteArray.size a0 : Nat) : Int) > 10 then
 some (0, false)
 else
 Option.bind (Dstrconv_Itoa r1.1) fun r4 =>
 if r4 = a0 then
 some (r1.1, true)
 else
 some (0, false)
noncomputable def Di_inRange (a0 : Int) (a1 : Int) (a2 : Int) : Option (Bool) :=
 if a1 ≤ a0 then
 some (decide (a0 ≤ a2))
 else
 some false
noncomputable def Di_isTurn (a0 : Int) : Option (Bool) :=
 Option.bind (Di_inRange a0 0 30) fun r1 =>
 some r1
noncomputable def Di_isSide (a0 : Int) : Option (Bool) :=
 Option.bind (Di_inRange a0 0 1) fun r1 =>
 some r1
noncomputable def Di_isSeed (a0 : Int) : Option (Bool) :=
 Option.bind (Di_inRange a0 0 4611686016279904236) fun r1 =>
 some r1
noncomputable def Di_compareMails (a0 : Gi_Mail) (a1 : Gi_Mail) : Option (Int) :=
 if (a0.Turn : Int) = a1.Turn then
 some (IntKind.wrap .i64 (a0.Side - a1.Side))
 else
 some (IntKind.wrap .i64 (a0.Turn - a1.Turn))
inductive Si_IsMailbox where
 | h1 (l0 : (List Gi_Mail)) (t1 : (List Gi_Mail)) (t2 : Int) (t3 : Int)
noncomputable def Bi_IsMailbox : Si_IsMailbox → Option (Si_IsMailbox ⊕ (Bool))
 | .h1 l0 t1 t2 t3 =>
  if t3 < t2 then
  if 0 ≤ t3 then
  Option.bind (t1[(Int.toNat t3)]?) fun x3 =>
  Option.bind (Di_isTurn x3.Turn) fun r4 =>
  if r4 = true then
  Option.bind (Di_isSide x3.Side) fun r6 =>
  if r6 = true then
  Option.bind (Di_isSeed x3.Seal) fun r8 =>
  if r8 = true then
  if t3 > 0 then
  if 0 ≤ (IntKind.wrap .i64 (t3 - 1)) then
  Option.bind (l0[(Int.toNat (IntKind.wrap .i64 (t3 - 1)))]?) fun x12 =>
  Option.bind (Di_compareMails x12 x3) fun r13 =>
  if r13 ≥ 0 then
  some (.inr false)
  else
  some (.inl (.h1 l0 t1 t2 (IntKind.wrap .i64 (t3 + 1))))
  else none
  else
  some (.inl (.h1 l0 t1 t2 (IntKind.wrap .i64 (t3 + 1))))
  else
  some (.inr false)
  else
  some (.inr false)
  else
  some (.inr false)
  else none
  else
  some (.inr true)
noncomputable def Di_IsMailbox (a0 : (List Gi_Mail)) : Option (Bool) :=
 if ((a0.length : Nat) : Int) > 20 then
 some false
 else
 loop Bi_IsMailbox (.h1 a0 a0 ((a0.length : Nat) : Int) 0)
noncomputable def Dstrings_Join (a0 : (List ByteArray)) (a1 : ByteArray) : Option ByteArray := joinD a0 a1
inductive Si_wordsText where
 | h1 (t0 : (List Int)) (t1 : Int) (t2 : Int) (l3 : (List ByteArray))
noncomputable def Bi_wordsText : Si_wordsText → Option (Si_wordsText ⊕ (ByteArray))
 | .h1 t0 t1 t2 l3 =>
  if t2 < t1 then
  if 0 ≤ t2 then
  Option.bind (t0[(Int.toNat t2)]?) fun x3 =>
  Option.bind (Dstrconv_Itoa x3) fun r4 =>
  if (l3 ++ [r4]).length * 16 ≤ 70368744177664 then
  some (.inl (.h1 t0 t1 (IntKind.wrap .i64 (t2 + 1)) (l3 ++ [r4])))
  else none
  else none
  else
  Option.bind (Dstrings_Join l3 ⟨#[32]⟩) fun r2 =>
  some (.inr r2)
noncomputable def Di_wordsText (a0 : ByteArray) (a1 : (List Int)) : Option (ByteArray) :=
 loop Bi_wordsText (.h1 a1 ((a1.length : Nat) : Int) 0 [a0])
inductive Si_mailText where
 | h1 (out0 : ByteArray) (t1 : (List Gi_Mail)) (t2 : Int) (t3 : Int)
noncomputable def Bi_mailText : Si_mailText → Option (Si_mailText ⊕ (ByteArray))
 | .h1 out0 t1 t2 t3 =>
  if t3 < t2 then
  if 0 ≤ t3 then
  Option.bind (t1[(Int.toNat t3)]?) fun x3 =>
  Option.bind (Di_wordsText ⟨#[109, 97, 105, 108]⟩ [x3.Turn, x3.Side, x3.Seal]) fun r4 =>
  if ByteArray.size r4 + ByteArray.size ⟨#[10]⟩ ≤ 9223372036854775807 then
  if ByteArray.size out0 + ByteArray.size (r4 ++ ⟨#[10]⟩) ≤ 9223372036854775807 then
  some (.inl (.h1 (out0 ++ (r4 ++ ⟨#[10]⟩)) t1 t2 (IntKind.wrap .i64 (t3 + 1))))
  else none
  else none
  else none
  else
  some (.inr out0)
noncomputable def Di_mailText (a0 : (List Gi_Mail)) : Option (ByteArray) :=
 loop Bi_mailText (.h1 ⟨#[]⟩ a0 ((a0.length : Nat) : Int) 0)
inductive Si_ParseMail where
 | h1 (s0 : ByteArray) (t1 : Int) (t2 : Int) (l3 : (List Gi_Mail)) (l4 : (List ByteArray))
noncomputable def Bi_ParseMail : Si_ParseMail → Option (Si_ParseMail ⊕ ((List Gi_Mail) × Bool))
 | .h1 s0 t1 t2 l3 l4 =>
  if t2 < t1 then
  if 0 ≤ t2 then
  Option.bind (l4[(Int.toNat t2)]?) fun x3 =>
  Option.bind (Dstrings_Split x3 ⟨#[32]⟩) fun r4 =>
  if (((r4.length : Nat) : Int) : Int) = 4 then
  if (((l3.length : Nat) : Int) : Int) = 20 then
  some (.inr ([], false))
  else
  Option.bind (r4[(Int.toNat 1)]?) fun x7 =>
  Option.bind (Di_readInt x7) fun r8 =>
  if r8.2 = true then
  Option.bind (r4[(Int.toNat 2)]?) fun x10 =>
  Option.bind (Di_readInt x10) fun r11 =>
  if r11.2 = true then
  Option.bind (r4[(Int.toNat 3)]?) fun x13 =>
  Option.bind (Dstrconv_Atoi x13) fun r14 =>
  if r14.2 = true then
  some (.inr ([], false))
  else
  if (l3 ++ [(Gi_Mail.mk r8.1 r11.1 r14.1)]).length * 24 ≤ 70368744177664 then
  some (.inl (.h1 s0 t1 (IntKind.wrap .i64 (t2 + 1)) (l3 ++ [(Gi_Mail.mk r8.1 r11.1 r14.1)]) l4))
  else none
  else
  Option.bind (r4[(Int.toNat 3)]?) fun x13 =>
  Option.bind (Dstrconv_Atoi x13) fun r14 =>
  some (.inr ([], false))
  else
  Option.bind (r4[(Int.toNat 2)]?) fun x10 =>
  Option.bind (Di_readInt x10) fun r11 =>
  Option.bind (r4[(Int.toNat 3)]?) fun x12 =>
  Option.bind (Dstrconv_Atoi x12) fun r13 =>
  some (.inr ([], false))
  else
  some (.inr ([], false))
  else none
  else
  Option.bind (Di_IsMailbox l3) fun r2 =>
  if r2 = true then
  Option.bind (Di_mailText l3) fun r4 =>
  if r4 = s0 then
  some (.inr (l3, true))
  else
  some (.inr ([], false))
  else
  some (.inr ([], false))
noncomputable def Di_ParseMail (a0 : ByteArray) : Option ((List Gi_Mail) × Bool) :=
 Option.bind (Dstrings_Split a0 ⟨#[10]⟩) fun r1 =>
 if (0 : Int) ≤ (IntKind.wrap .i64 (((r1.length : Nat) : Int) - 1)) then
 if ((IntKind.wrap .i64 (((r1.length : Nat) : Int) - 1)) : Int) ≤ ((r1.length : Nat) : Int) then
 loop Bi_ParseMail (.h1 a0 ((((Int.toNat (IntKind.wrap .i64 (((r1.length : Nat) : Int) - 1))) - 0) : Nat) : Int) 0 ([] : List Gi_Mail) (List.take ((Int.toNat (IntKind.wrap .i64 (((r1.length : Nat) : Int) - 1))) - 0) (List.drop 0 r1)))
 else none
 else none
noncomputable def Dw_eqMail (a0 : Gi_Mail) (a1 : Gi_Mail) : Option (Bool) :=
 if (a0.Turn : Int) = a1.Turn then
 if (a0.Side : Int) = a1.Side then
 if (a0.Seal : Int) = a1.Seal then
 some true
 else
 some false
 else
 some false
 else
 some false
inductive Sw_eqMailS where
 | h1 (va0 : (List Gi_Mail)) (b1 : (List Gi_Mail)) (i2 : Int)
noncomputable def Bw_eqMailS : Sw_eqMailS → Option (Sw_eqMailS ⊕ (Bool))
 | .h1 va0 b1 i2 =>
  if i2 < ((va0.length : Nat) : Int) then
  if 0 ≤ i2 then
  Option.bind (va0[(Int.toNat i2)]?) fun x3 =>
  if 0 ≤ i2 then
  Option.bind (b1[(Int.toNat i2)]?) fun x5 =>
  Option.bind (Dw_eqMail x3 x5) fun r6 =>
  if r6 = true then
  some (.inl (.h1 va0 b1 (IntKind.wrap .i64 (i2 + 1))))
  else
  some (.inr false)
  else none
  else none
  else
  some (.inr true)
noncomputable def Dw_eqMailS (a0 : (List Gi_Mail)) (a1 : (List Gi_Mail)) : Option (Bool) :=
 if (((a0.length : Nat) : Int) : Int) = ((a1.length : Nat) : Int) then
 loop Bw_eqMailS (.h1 a0 a1 0)
 else
 some false
inductive Sw_markMailS where
 | h1 (k0 : Int) (i1 : Int) (l2 : (List Gi_Mail))
noncomputable def Bw_markMailS : Sw_markMailS → Option (Sw_markMailS ⊕ (Int × (List Gi_Mail)))
 | .h1 k0 i1 l2 =>
  if i1 < ((l2.length : Nat) : Int) then
  if 0 ≤ i1 then
  Option.bind (l2[(Int.toNat i1)]?) fun x3 =>
  if 0 ≤ i1 then
  Option.bind ((List.set l2 (Int.toNat i1) (Gi_Mail.mk k0 x3.Side x3.Seal))[(Int.toNat i1)]?) fun x5 =>
  if 0 ≤ i1 then
  Option.bind ((List.set (List.set l2 (Int.toNat i1) (Gi_Mail.mk k0 x3.Side x3.Seal)) (Int.toNat i1) (Gi_Mail.mk x5.Turn (IntKind.wrap .i64 (k0 + 1)) x5.Seal))[(Int.toNat i1)]?) fun x7 =>
  some (.inl (.h1 (IntKind.wrap .i64 ((IntKind.wrap .i64 ((IntKind.wrap .i64 (k0 + 1)) + 1)) + 1)) (IntKind.wrap .i64 (i1 + 1)) (List.set (List.set (List.set l2 (Int.toNat i1) (Gi_Mail.mk k0 x3.Side x3.Seal)) (Int.toNat i1) (Gi_Mail.mk x5.Turn (IntKind.wrap .i64 (k0 + 1)) x5.Seal)) (Int.toNat i1) (Gi_Mail.mk x7.Turn x7.Side (IntKind.wrap .i64 ((IntKind.wrap .i64 (k0 + 1)) + 1))))))
  else none
  else none
  else none
  else
  some (.inr (k0, l2))
noncomputable def Dw_markMailS (a0 : (List Gi_Mail)) (a1 : Int) : Option (Int × (List Gi_Mail)) :=
 loop Bw_markMailS (.h1 a1 0 a0)
inductive Sw_heldMailS where
 | h1 (va0 : (List Gi_Mail)) (k1 : Int) (i2 : Int)
noncomputable def Bw_heldMailS : Sw_heldMailS → Option (Sw_heldMailS ⊕ (Int))
 | .h1 va0 k1 i2 =>
  if i2 < ((va0.length : Nat) : Int) then
  if 0 ≤ i2 then
  Option.bind (va0[(Int.toNat i2)]?) fun x3 =>
  if (x3.Turn : Int) = k1 then
  if 0 ≤ i2 then
  Option.bind (va0[(Int.toNat i2)]?) fun x6 =>
  if (x6.Side : Int) = (IntKind.wrap .i64 (k1 + 1)) then
  if 0 ≤ i2 then
  Option.bind (va0[(Int.toNat i2)]?) fun x9 =>
  if (x9.Seal : Int) = (IntKind.wrap .i64 ((IntKind.wrap .i64 (k1 + 1)) + 1)) then
  some (.inl (.h1 va0 (IntKind.wrap .i64 ((IntKind.wrap .i64 ((IntKind.wrap .i64 (k1 + 1)) + 1)) + 1)) (IntKind.wrap .i64 (i2 + 1))))
  else
  some (.inr (-1))
  else none
  else
  some (.inr (-1))
  else none
  else
  some (.inr (-1))
  else none
  else
  some (.inr k1)
noncomputable def Dw_heldMailS (a0 : (List Gi_Mail)) (a1 : Int) : Option (Int) :=
 loop Bw_heldMailS (.h1 a0 a1 0)
noncomputable def Dw_FnExactParseMail (a0 : ByteArray) : Option (Bool) :=
 if ((ByteArray.size a0 : Nat) : Int) > 1048576 then
 some true
 else
 Option.bind (Ds_ParseMail a0) fun r2 =>
 Option.bind (Di_ParseMail a0) fun r3 =>
 Option.bind (Dw_eqMailS r3.1 r2.1) fun r4 =>
 if r4 = true then
 if (!(r3.2 == r2.2)) = true then
 some false
 else
 Option.bind (Dw_markMailS r3.1 1) fun r7 =>
 if r7.2.length = r3.1.length then
 Option.bind (Dw_heldMailS r7.2 1) fun r9 =>
 if r9 < 0 then
 some false
 else
 if (r9 : Int) = r7.1 then
 Option.bind (Di_ParseMail a0) fun r12 =>
 Option.bind (Dw_eqMailS r12.1 r2.1) fun r13 =>
 if r13 = true then
 if (!(r12.2 == r2.2)) = true then
 some false
 else
 Option.bind (Dw_heldMailS r7.2 1) fun r16 =>
 if r16 < 0 then
 some false
 else
 if (r16 : Int) = r7.1 then
 some true
 else
 some false
 else
 some false
 else
 some false
 else none
 else
 some false
end Go.Proofs.YtogomlkoocbhcaaDoor.Ab
