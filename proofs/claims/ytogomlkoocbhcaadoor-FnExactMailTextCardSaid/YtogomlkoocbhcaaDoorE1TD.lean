/- Part of the proof of FnExactMailTextCard: no condition of its own. -/
import Derived.Test.YtogomlkoocbhcaaDoorAb4
set_option linter.unusedVariables false
set_option linter.unusedSimpArgs false
open Go
namespace Go.Proofs.YtogomlkoocbhcaaDoor.Ab
structure Gw_Mail where
 mk ::
 Turn : Int
 Side : Int
 Seal : Int
def gw_Mail (x : Gw_Mail) : D := .agg [I x.Turn, I x.Side, I x.Seal]
structure Gi_Mail where
 mk ::
 Turn : Int
 Side : Int
 Seal : Int
def gi_Mail (x : Gi_Mail) : D := .agg [I x.Turn, I x.Side, I x.Seal]
def gv105 : List Int := [1, 10, 100, 1000, 10000, 100000, 1000000, 10000000, 100000000, 1000000000, 10000000000, 100000000000, 1000000000000, 10000000000000, 100000000000000, 1000000000000000, 10000000000000000, 100000000000000000, 1000000000000000000, 10000000000000000000]
def gc105 : List D := [.agg (gv105.flatMap fun y => ((D.int .u64) y).cells)]
noncomputable def Dw_szMailS (a0 : (List Gw_Mail)) (a1 : Int) : Option (Int) :=
 if (IntKind.wrap .i64 (a1 - ((a0.length : Nat) : Int))) < 0 then
 some (-1)
 else
 some (IntKind.wrap .i64 (a1 - ((a0.length : Nat) : Int)))
noncomputable def Dw_toMail (a0 : Gw_Mail) : Option (Gi_Mail) :=
 some (Gi_Mail.mk a0.Turn a0.Side a0.Seal)
inductive Sw_toMailS where
 | h1 (va0 : (List Gw_Mail)) (i1 : Int) (l2 : (List Gi_Mail))
noncomputable def Bw_toMailS : Sw_toMailS → Option (Sw_toMailS ⊕ ((List Gi_Mail)))
 | .h1 va0 i1 l2 =>
  if i1 < ((va0.length : Nat) : Int) then
  if 0 ≤ i1 then
  Option.bind (va0[(Int.toNat i1)]?) fun x3 =>
  Option.bind (Dw_toMail x3) fun r4 =>
  if 0 ≤ i1 then
  Option.bind (l2[(Int.toNat i1)]?) fun x6 =>
  some (.inl (.h1 va0 (IntKind.wrap .i64 (i1 + 1)) (List.set l2 (Int.toNat i1) r4)))
  else none
  else none
  else
  some (.inr l2)
noncomputable def Dw_toMailS (a0 : (List Gw_Mail)) : Option ((List Gi_Mail)) :=
 if Int.toNat ((a0.length : Nat) : Int) * 24 ≤ 140737488355328 then
 loop Bw_toMailS (.h1 a0 0 (List.replicate (Int.toNat ((a0.length : Nat) : Int)) (Gi_Mail.mk 0 0 0)))
 else none
noncomputable def Ds_l1In (a0 : Int) (a1 : Int) (a2 : Int) : Option (Bool) :=
 if a0 ≥ a1 then
 some (decide (a0 ≤ a2))
 else
 some false
noncomputable def Ds_dSeed (a0 : Int) : Option (Bool) :=
 Option.bind (Ds_l1In a0 0 4611686016279904236) fun r1 =>
 some r1
noncomputable def Ds_nKey (a0 : Gi_Mail) : Option (Int) :=
 some (IntKind.wrap .i64 ((IntKind.wrap .i64 (2 * a0.Turn)) + a0.Side))
inductive Ss_nMails where
 | h1 (l0 : (List Gi_Mail)) (t1 : (List Gi_Mail)) (t2 : Int) (t3 : Int)
noncomputable def Bs_nMails : Ss_nMails → Option (Ss_nMails ⊕ (Bool))
 | .h1 l0 t1 t2 t3 =>
  if t3 < t2 then
  if 0 ≤ t3 then
  Option.bind (t1[(Int.toNat t3)]?) fun x3 =>
  Option.bind (Ds_l1In x3.Turn 0 30) fun r4 =>
  if r4 = true then
  Option.bind (Ds_l1In x3.Side 0 1) fun r6 =>
  if r6 = true then
  Option.bind (Ds_dSeed x3.Seal) fun r8 =>
  if r8 = true then
  if t3 > 0 then
  if 0 ≤ (IntKind.wrap .i64 (t3 - 1)) then
  Option.bind (l0[(Int.toNat (IntKind.wrap .i64 (t3 - 1)))]?) fun x12 =>
  Option.bind (Ds_nKey x12) fun r13 =>
  Option.bind (Ds_nKey x3) fun r14 =>
  if r13 ≥ r14 then
  some (.inr false)
  else
  some (.inl (.h1 l0 t1 t2 (IntKind.wrap .i64 (t3 + 1))))
  else none
  else
  some (.inl (.h1 l0 t1 t2 (IntKind.wrap .i64 (t3 + 1))))
  else
  some (.inr false)
  else
  some (.inr false)
  else
  some (.inr false)
  else none
  else
  some (.inr (decide (((l0.length : Nat) : Int) ≤ 20)))
noncomputable def Ds_nMails (a0 : (List Gi_Mail)) : Option (Bool) :=
 loop Bs_nMails (.h1 a0 a0 ((a0.length : Nat) : Int) 0)
noncomputable def Fs_l1Num (rec_ : Int → Option (ByteArray)) (a0 : Int) : Option (ByteArray) :=
 if a0 < 10 then
 if ∀ x ∈ [(IntKind.wrap .u8 (IntKind.wrap .i64 (48 + a0)))], 0 ≤ x ∧ x < 256 then
 some (bytesOf [(IntKind.wrap .u8 (IntKind.wrap .i64 (48 + a0)))])
 else none
 else
 Option.bind (rec_ (IntKind.wrap .i64 (Int.tdiv a0 10))) fun r2 =>
 if ∀ x ∈ [(IntKind.wrap .u8 (IntKind.wrap .i64 (48 + (Int.tmod a0 10))))], 0 ≤ x ∧ x < 256 then
 if ByteArray.size r2 + ByteArray.size (bytesOf [(IntKind.wrap .u8 (IntKind.wrap .i64 (48 + (Int.tmod a0 10))))]) ≤ 9223372036854775807 then
 some (r2 ++ (bytesOf [(IntKind.wrap .u8 (IntKind.wrap .i64 (48 + (Int.tmod a0 10))))]))
 else none
 else none
noncomputable def Ds_l1Num : Nat → Int → Option (ByteArray)
 | 0 => fun _ => none
 | n_ + 1 => Fs_l1Num (Ds_l1Num n_)
inductive Ss_nText where
 | h1 (s0 : ByteArray) (t1 : (List Gi_Mail)) (t2 : Int) (t3 : Int)
noncomputable def Bs_nText : Ss_nText → Option (Ss_nText ⊕ (ByteArray))
 | .h1 s0 t1 t2 t3 =>
  if t3 < t2 then
  if 0 ≤ t3 then
  Option.bind (t1[(Int.toNat t3)]?) fun x3 =>
  Option.bind (Ds_l1Num 100 x3.Turn) fun r4 =>
  if ByteArray.size ⟨#[109, 97, 105, 108, 32]⟩ + ByteArray.size r4 ≤ 9223372036854775807 then
  if ByteArray.size (⟨#[109, 97, 105, 108, 32]⟩ ++ r4) + ByteArray.size ⟨#[32]⟩ ≤ 9223372036854775807 then
  Option.bind (Ds_l1Num 100 x3.Side) fun r7 =>
  if ByteArray.size ((⟨#[109, 97, 105, 108, 32]⟩ ++ r4) ++ ⟨#[32]⟩) + ByteArray.size r7 ≤ 9223372036854775807 then
  if ByteArray.size (((⟨#[109, 97, 105, 108, 32]⟩ ++ r4) ++ ⟨#[32]⟩) ++ r7) + ByteArray.size ⟨#[32]⟩ ≤ 9223372036854775807 then
  Option.bind (Ds_l1Num 100 x3.Seal) fun r10 =>
  if ByteArray.size ((((⟨#[109, 97, 105, 108, 32]⟩ ++ r4) ++ ⟨#[32]⟩) ++ r7) ++ ⟨#[32]⟩) + ByteArray.size r10 ≤ 9223372036854775807 then
  if ByteArray.size (((((⟨#[109, 97, 105, 108, 32]⟩ ++ r4) ++ ⟨#[32]⟩) ++ r7) ++ ⟨#[32]⟩) ++ r10) + ByteArray.size ⟨#[10]⟩ ≤ 9223372036854775807 then
  if ByteArray.size s0 + ByteArray.size ((((((⟨#[109, 97, 105, 108, 32]⟩ ++ r4) ++ ⟨#[32]⟩) ++ r7) ++ ⟨#[32]⟩) ++ r10) ++ ⟨#[10]⟩) ≤ 9223372036854775807 then
  some (.inl (.h1 (s0 ++ ((((((⟨#[109, 97, 105, 108, 32]⟩ ++ r4) ++ ⟨#[32]⟩) ++ r7) ++ ⟨#[32]⟩) ++ r10) ++ ⟨#[10]⟩)) t1 t2 (IntKind.wrap .i64 (t3 + 1))))
  else none
  else none
  else none
  else none
  else none
  else none
  else none
  else none
  else
  some (.inr s0)
noncomputable def Ds_nText (a0 : (List Gi_Mail)) : Option (ByteArray) :=
 loop Bs_nText (.h1 ⟨#[]⟩ a0 ((a0.length : Nat) : Int) 0)
noncomputable def Ds_MailText (a0 : (List Gi_Mail)) : Option (ByteArray × Bool) :=
 Option.bind (Ds_nMails a0) fun r1 =>
 if r1 = true then
 Option.bind (Ds_nText a0) fun r3 =>
 some (r3, true)
 else
 some (⟨#[]⟩, false)
noncomputable def Di_inRange (a0 : Int) (a1 : Int) (a2 : Int) : Option (Bool) :=
 if a1 ≤ a0 then
 some (decide (a0 ≤ a2))
 else
 some false
noncomputable def Di_isTurn (a0 : Int) : Option (Bool) :=
 Option.bind (Di_inRange a0 0 30) fun r1 =>
 some r1
noncomputable def Di_isSide (a0 : Int) : Option (Bool) :=
 Option.bind (Di_inRange a0 0 1) fun r1 =>
 some r1
noncomputable def Di_isSeed (a0 : Int) : Option (Bool) :=
 Option.bind (Di_inRange a0 0 4611686016279904236) fun r1 =>
 some r1
noncomputable def Di_compareMails (a0 : Gi_Mail) (a1 : Gi_Mail) : Option (Int) :=
 if (a0.Turn : Int) = a1.Turn then
 some (IntKind.wrap .i64 (a0.Side - a1.Side))
 else
 some (IntKind.wrap .i64 (a0.Turn - a1.Turn))
inductive Si_IsMailbox where
 | h1 (l0 : (List Gi_Mail)) (t1 : (List Gi_Mail)) (t2 : Int) (t3 : Int)
noncomputable def Bi_IsMailbox : Si_IsMailbox → Option (Si_IsMailbox ⊕ (Bool))
 | .h1 l0 t1 t2 t3 =>
  if t3 < t2 then
  if 0 ≤ t3 then
  Option.bind (t1[(Int.toNat t3)]?) fun x3 =>
  Option.bind (Di_isTurn x3.Turn) fun r4 =>
  if r4 = true then
  Option.bind (Di_isSide x3.Side) fun r6 =>
  if r6 = true then
  Option.bind (Di_isSeed x3.Seal) fun r8 =>
  if r8 = true then
  if t3 > 0 then
  if 0 ≤ (IntKind.wrap .i64 (t3 - 1)) then
  Option.bind (l0[(Int.toNat (IntKind.wrap .i64 (t3 - 1)))]?) fun x12 =>
  Option.bind (Di_compareMails x12 x3) fun r13 =>
  if r13 ≥ 0 then
  some (.inr false)
  else
  some (.inl (.h1 l0 t1 t2 (IntKind.wrap .i64 (t3 + 1))))
  else none
  else
  some (.inl (.h1 l0 t1 t2 (IntKind.wrap .i64 (t3 + 1))))
  else
  some (.inr false)
  else
  some (.inr false)
  else
  some (.inr false)
  else none
  else
  some (.inr true)
noncomputable def Di_IsMailbox (a0 : (List Gi_Mail)) : Option (Bool) :=
 if ((a0.length : Nat) : Int) > 20 then
 some false
 else
 loop Bi_IsMailbox (.h1 a0 a0 ((a0.length : Nat) : Int) 0)
noncomputable def Dstrconv_Itoa (a0 : Int) : Option ByteArray := itoaD a0
noncomputable def Dstrings_Join (a0 : (List ByteArray)) (a1 : ByteArray) : Option ByteArray := joinD a0 a1
inductive Si_wordsText where
 | h1 (t0 : (List Int)) (t1 : Int) (t2 : Int) (l3 : (List ByteArray))
noncomputable def Bi_wordsText : Si_wordsText → Option (Si_wordsText ⊕ (ByteArray))
 | .h1 t0 t1 t2 l3 =>
  if t2 < t1 then
  if 0 ≤ t2 then
  Option.bind (t0[(Int.toNat t2)]?) fun x3 =>
  Option.bind (Dstrconv_Itoa x3) fun r4 =>
  if (l3 ++ [r4]).length * 16 ≤ 70368744177664 then
  some (.inl (.h1 t0 t1 (IntKind.wrap .i64 (t2 + 1)) (l3 ++ [r4])))
  else none
  else none
  else
  Option.bind (Dstrings_Join l3 ⟨#[32]⟩) fun r2 =>
  some (.inr r2)
noncomputable def Di_wordsText (a0 : ByteArray) (a1 : (List Int)) : Option (ByteArray) :=
 loop Bi_wordsText (.h1 a1 ((a1.length : Nat) : Int) 0 [a0])
inductive Si_mailText where
 | h1 (out0 : ByteArray) (t1 : (List Gi_Mail)) (t2 : Int) (t3 : Int)
noncomputable def Bi_mailText : Si_mailText → Option (Si_mailText ⊕ (ByteArray))
 | .h1 out0 t1 t2 t3 =>
  if t3 < t2 then
  if 0 ≤ t3 then
  Option.bind (t1[(Int.toNat t3)]?) fun x3 =>
  Option.bind (Di_wordsText ⟨#[109, 97, 105, 108]⟩ [x3.Turn, x3.Side, x3.Seal]) fun r4 =>
  if ByteArray.size r4 + ByteArray.size ⟨#[10]⟩ ≤ 9223372036854775807 then
  if ByteArray.size out0 + ByteArray.size (r4 ++ ⟨#[10]⟩) ≤ 9223372036854775807 then
  some (.inl (.h1 (out0 ++ (r4 ++ ⟨#[10]⟩)) t1 t2 (IntKind.wrap .i64 (t3 + 1))))
  else none
  else none
  else none
  else
  some (.inr out0)
noncomputable def Di_mailText (a0 : (List Gi_Mail)) : Option (ByteArray) :=
 loop Bi_mailText (.h1 ⟨#[]⟩ a0 ((a0.length : Nat) : Int) 0)
noncomputable def Di_MailText (a0 : (List Gi_Mail)) : Option (ByteArray × Bool) :=
 Option.bind (Di_IsMailbox a0) fun r1 =>
 if r1 = true then
 Option.bind (Di_mailText a0) fun r3 =>
 some (r3, true)
 else
 some (⟨#[]⟩, false)
noncomputable def Dw_eqMail (a0 : Gi_Mail) (a1 : Gi_Mail) : Option (Bool) :=
 if (a0.Turn : Int) = a1.Turn then
 if (a0.Side : Int) = a1.Side then
 if (a0.Seal : Int) = a1.Seal then
 some true
 else
 some false
 else
 some false
 else
 some false
inductive Sw_eqMailS where
 | h1 (va0 : (List Gi_Mail)) (b1 : (List Gi_Mail)) (i2 : Int)
noncomputable def Bw_eqMailS : Sw_eqMailS → Option (Sw_eqMailS ⊕ (Bool))
 | .h1 va0 b1 i2 =>
  if i2 < ((va0.length : Nat) : Int) then
  if 0 ≤ i2 then
  Option.bind (va0[(Int.toNat i2)]?) fun x3 =>
  if 0 ≤ i2 then
  Option.bind (b1[(Int.toNat i2)]?) fun x5 =>
  Option.bind (Dw_eqMail x3 x5) fun r6 =>
  if r6 = true then
  some (.inl (.h1 va0 b1 (IntKind.wrap .i64 (i2 + 1))))
  else
  some (.inr false)
  else none
  else none
  else
  some (.inr true)
noncomputable def Dw_eqMailS (a0 : (List Gi_Mail)) (a1 : (List Gi_Mail)) : Option (Bool) :=
 if (((a0.length : Nat) : Int) : Int) = ((a1.length : Nat) : Int) then
 loop Bw_eqMailS (.h1 a0 a1 0)
 else
 some false
noncomputable def Dw_FnExactMailText (a0 : (List Gw_Mail)) : Option (Bool) :=
 Option.bind (Dw_szMailS a0 1048576) fun r1 =>
 if r1 < 0 then
 some true
 else
 Option.bind (Dw_toMailS a0) fun r3 =>
 Option.bind (Ds_MailText r3) fun r4 =>
 Option.bind (Dw_toMailS a0) fun r5 =>
 Option.bind (Di_MailText r5) fun r6 =>
 if r6.1 = r4.1 then
 if (!(r6.2 == r4.2)) = true then
 some false
 else
 Option.bind (Dw_toMailS a0) fun r9 =>
 Option.bind (Dw_eqMailS r5 r9) fun r10 =>
 if r10 = true then
 some true
 else
 some false
 else
 some false
end Go.Proofs.YtogomlkoocbhcaaDoor.Ab
