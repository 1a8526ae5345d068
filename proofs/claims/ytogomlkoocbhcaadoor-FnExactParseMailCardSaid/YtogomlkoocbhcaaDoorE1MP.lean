/- Part of the proof of FnExactParseMailCard: no condition of its own. -/
import Derived.Test.YtogomlkoocbhcaaDoorE1MD
import Derived.Test.YtogomlkoocbhcaaDoorPuA
set_option linter.unusedVariables false
set_option linter.unusedSimpArgs false
open Go
namespace Go.Proofs.YtogomlkoocbhcaaDoor.Ab
def inr3 (n a b : Int) : Bool := decide (a ≤ n) && decide (n ≤ b)
theorem inr3_iff {n a b : Int} : inr3 n a b = true ↔ a ≤ n ∧ n ≤ b := by simp [inr3]
theorem th51 (n a b : Int) : Ds_l1In n a b = some (inr3 n a b) := by
 unfold Ds_l1In inr3; by_cases h : a ≤ n <;> simp [h]
theorem th38 (n a b : Int) : Di_inRange n a b = some (inr3 n a b) := by
 unfold Di_inRange inr3; by_cases h : a ≤ n <;> simp [h]
theorem th48 (n : Int) : Ds_dSeed n = some (inr3 n 0 4611686016279904236) := by simp [Ds_dSeed, th51]
theorem th33 (n : Int) : Di_isSeed n = some (inr3 n 0 4611686016279904236) := by simp [Di_isSeed, th38]
theorem th31 (n : Int) : Di_isTurn n = some (inr3 n 0 30) := by simp [Di_isTurn, th38]
theorem th32 (n : Int) : Di_isSide n = some (inr3 n 0 1) := by simp [Di_isSide, th38]

theorem th13 (l : List Gi_Mail) (hl : l.length ≤ 1048576) : Dw_eqMailS l l = some true := by
 unfold Dw_eqMailS
 rw [if_pos rfl]
 refine true_loop (S := fun i => Sw_eqMailS.h1 l l (i : Int)) (n := l.length) (fun i hi => ?_) ?_
 ·simp [Bw_eqMailS, hi, Dw_eqMail, wsucc (show i < 9223372036854775807 by omega)]
 ·simp [Bw_eqMailS]
def mkey (x : Gi_Mail) : Int := 2 * x.Turn + x.Side
def okr (x : Gi_Mail) : Bool := inr3 x.Turn 0 30 && inr3 x.Side 0 1 && inr3 x.Seal 0 4611686016279904236
def okm (l : List Gi_Mail) (i : Nat) (x : Gi_Mail) : Bool := okr x && (if i = 0 then true else match l[i - 1]? with | some y => decide (mkey y < mkey x) | none => true)
def mb (l : List Gi_Mail) : Bool := alli (okm l) l && decide ((l.length : Int) ≤ 20)

theorem okr_lim {x : Gi_Mail} (h : okr x = true) : 0 ≤ x.Turn ∧ x.Turn ≤ 30 ∧ 0 ≤ x.Side ∧ x.Side ≤ 1 := by
 simp [okr, inr3_iff] at h
 omega
theorem th52 {x : Gi_Mail} (h : okr x = true) : Ds_nKey x = some (mkey x) := by
 have := okr_lim h
 unfold Ds_nKey mkey
 rw [w64 (n := 2 * x.Turn) (by omega), w64 (by omega)]
theorem th34 {x y : Gi_Mail} (h : okr x = true) (h' : okr y = true) : ∃ c, Di_compareMails x y = some c ∧ (c ≥ 0 ↔ ¬ mkey x < mkey y) := by
 have h1 := okr_lim h
 have h2 := okr_lim h'
 unfold Di_compareMails mkey
 split
 ·exact ⟨_, rfl, by rw [w64 (by omega)]; omega⟩
 ·exact ⟨_, rfl, by rw [w64 (by omega)]; omega⟩

theorem th29 (l : List Gi_Mail) (hl : l.length ≤ 1048576) : Ds_nMails l = some (mb l) := by
 unfold Ds_nMails mb
 refine all_loop2 (S := fun i => Ss_nMails.h1 l l (l.length : Int) (i : Int)) (fun i x hx hi hb => ?_) ?_
 ·simp only [Bs_nMails, Int.ofNat_lt, hi, if_true, Int.natCast_nonneg, Int.toNat_natCast, hx, Option.bind_some, wsucc (show i < 9223372036854775807 by omega), th51, th48, okm]
  by_cases h1 : inr3 x.Turn 0 30 = true
  ·by_cases h2 : inr3 x.Side 0 1 = true
   ·by_cases h3 : inr3 x.Seal 0 4611686016279904236 = true
    ·have hx' : okr x = true := by simp [okr, h1, h2, h3]
     simp only [h1, h2, h3, if_true, hx', Bool.true_and]
     by_cases h4 : i = 0
     ·subst h4; simp
     ·have h5 : i - 1 < l.length := by omega
      have hy := hb (i - 1) l[i - 1] (by omega) (List.getElem?_eq_getElem h5)
      simp only [okm, Bool.and_eq_true] at hy
      rw [if_pos (by omega), w64 (by omega), if_pos (by omega), show ((i : Int) - 1).toNat = i - 1 by omega, List.getElem?_eq_getElem h5, if_neg h4]
      simp only [Option.bind_some, th52 hy.1, th52 hx']
      by_cases h6 : mkey l[i - 1] < mkey x
      ·rw [if_neg (by omega)]; simp [h6]
      ·rw [if_pos (by omega)]; simp [h6]
    ·simp [h1, h2, h3, okr]
   ·simp [h1, h2, okr]
  ·simp [h1, okr]
 ·simp [Bs_nMails]

theorem th12 (l : List Gi_Mail) (hl : l.length ≤ 1048576) : Di_IsMailbox l = some (mb l) := by
 unfold Di_IsMailbox mb
 by_cases h0 : (l.length : Int) > 20
 ·rw [if_pos h0]
  simp [show ¬ (l.length : Int) ≤ 20 by omega]
 ·rw [if_neg h0, decide_eq_true (show (l.length : Int) ≤ 20 by omega), Bool.and_true]
  refine all_loop (S := fun i => Si_IsMailbox.h1 l l (l.length : Int) (i : Int)) (fun i x hx hi hb => ?_) ?_
  ·simp only [Bi_IsMailbox, Int.ofNat_lt, hi, if_true, Int.natCast_nonneg, Int.toNat_natCast, hx, Option.bind_some, wsucc (show i < 9223372036854775807 by omega), th31, th32, th33, okm]
   by_cases h1 : inr3 x.Turn 0 30 = true
   ·by_cases h2 : inr3 x.Side 0 1 = true
    ·by_cases h3 : inr3 x.Seal 0 4611686016279904236 = true
     ·have hx' : okr x = true := by simp [okr, h1, h2, h3]
      simp only [h1, h2, h3, if_true, hx', Bool.true_and]
      by_cases h4 : i = 0
      ·subst h4; simp
      ·have h5 : i - 1 < l.length := by omega
       have hy := hb (i - 1) l[i - 1] (by omega) (List.getElem?_eq_getElem h5)
       simp only [okm, Bool.and_eq_true] at hy
       obtain ⟨c, hc, hc'⟩ := th34 hy.1 hx'
       rw [if_pos (by omega), w64 (by omega), if_pos (by omega), show ((i : Int) - 1).toNat = i - 1 by omega, List.getElem?_eq_getElem h5, if_neg h4]
       simp only [Option.bind_some, hc]
       by_cases h6 : mkey l[i - 1] < mkey x
       ·rw [if_neg (fun h => hc'.1 h h6)]; simp [h6]
       ·rw [if_pos (hc'.2 h6)]; simp [h6]
     ·simp [h1, h2, h3, okr]
    ·simp [h1, h2, okr]
   ·simp [h1, okr]
  ·simp [Bi_IsMailbox]

theorem mb_sorted {l : List Gi_Mail} (h : mb l = true) : (∀ x ∈ l, okr x = true) ∧ ∀ (a b : Nat) (x y : Gi_Mail), a < b → l[a]? = some x → l[b]? = some y → mkey x < mkey y := by
 simp only [mb, Bool.and_eq_true] at h
 have h1 := alli_iff.1 h.1
 refine ⟨fun x hx => ?_, fun a b => ?_⟩
 ·obtain ⟨i, hi⟩ := List.getElem?_of_mem hx
  have := h1 i x hi
  simp only [okm, Bool.and_eq_true] at this
  exact this.1
 ·induction b with
  | zero => intro x y h; omega
  | succ b ih =>
   intro x y hab hx hy
   have h2 := h1 (b + 1) y hy
   have hb : b < l.length := by have := (List.getElem?_eq_some_iff.1 hy).1; omega
   simp only [okm, Bool.and_eq_true, Nat.add_sub_cancel, List.getElem?_eq_getElem hb] at h2
   have h3 : mkey l[b] < mkey y := by simpa using h2.2
   by_cases h4 : a = b
   ·subst h4
    rw [List.getElem?_eq_getElem hb] at hx
    cases hx
    exact h3
   ·have := ih x l[b] (by omega) hx (List.getElem?_eq_getElem hb)
    omega

def kIn (x lo hi : Int) : Bool := decide (lo ≤ x) && decide (x ≤ hi)
theorem kIn_iff {x lo hi : Int} : kIn x lo hi = true ↔ lo ≤ x ∧ x ≤ hi := by simp [kIn]
theorem kin_s (x lo hi : Int) : Ds_l1In x lo hi = some (kIn x lo hi) := by
 unfold Ds_l1In kIn
 by_cases c : lo ≤ x
 ·rw [if_pos c]; simp [c]
 ·rw [if_neg c]; simp [c]
def Ok {α : Type} (o : Option α) (Q : α → Prop) : Prop := ∃ a, o = some a ∧ Q a
theorem Ok.ret {α : Type} {a : α} {Q : α → Prop} (h : Q a) : Ok (some a) Q := ⟨a, rfl, h⟩
theorem Ok.mono {α : Type} {o : Option α} {P Q : α → Prop} (h : Ok o P) (k : ∀ a, P a → Q a) : Ok o Q := by
 obtain ⟨a, e, h⟩ := h
 exact ⟨a, e, k a h⟩
theorem Ok.bind {α β : Type} {o : Option α} {f : α → Option β} {P : α → Prop} {Q : β → Prop} (h : Ok o P) (k : ∀ a, P a → Ok (f a) Q) : Ok (Option.bind o f) Q := by
 obtain ⟨a, rfl, h⟩ := h
 exact k a h
theorem Ok.ite {α : Type} {c : Prop} [Decidable c] {a b : Option α} {Q : α → Prop} (h1 : c → Ok a Q) (h2 : ¬ c → Ok b Q) : Ok (if c then a else b) Q := by
 by_cases h : c
 ·rw [if_pos h]; exact h1 h
 ·rw [if_neg h]; exact h2 h
theorem Ok.chk {α : Type} {c : Prop} [Decidable c] {a b : Option α} {Q : α → Prop} (h : c) (h1 : Ok a Q) : Ok (if c then a else b) Q := by
 rw [if_pos h]; exact h1
theorem Ok.els {α : Type} {c : Prop} [Decidable c] {a b : Option α} {Q : α → Prop} (h : ¬ c) (h1 : Ok b Q) : Ok (if c then a else b) Q := by
 rw [if_neg h]; exact h1
theorem Ok.get {α β : Type} {l : List α} {i : Nat} {f : α → Option β} {Q : β → Prop} (h : i < l.length) (k : ∀ x, l[i]? = some x → x ∈ l → Ok (f x) Q) : Ok (Option.bind l[i]? f) Q := by
 have e := List.getElem?_eq_getElem h
 rw [e]
 exact k _ e (List.mem_of_getElem? e)
theorem Ok.eq {α β : Type} {o : Option α} {a : α} {f : α → Option β} {Q : β → Prop} (e : o = some a) (k : Ok (f a) Q) : Ok (Option.bind o f) Q := by
 rw [e]; exact k
theorem Ok.loop {σ ρ : Type} {B : σ → Option (σ ⊕ ρ)} {Q : ρ → Prop} (I : σ → Prop) (m : σ → Nat) (hs : ∀ s, I s → Ok (B s) fun o => match o with | .inl s' => I s' ∧ m s' < m s | .inr r => Q r) : ∀ {s}, I s → Ok (loop B s) Q := by
 have key : ∀ n s, m s < n → I s → Ok (Ab.loop B s) Q := by
  intro n
  induction n with
  | zero => intro s h; omega
  | succ n ih =>
   intro s hn hI
   obtain ⟨o, e, h⟩ := hs s hI
   rw [loop_eq, e]
   cases o with
   | inl s' => exact ih s' (by omega) h.1
   | inr r => exact ⟨r, rfl, h⟩
 intro s h
 exact key _ s (Nat.lt_succ_self _) h

theorem ltc {i n : Nat} (h : i < n) : ((i : Int) < (n : Int)) = True := by simp [h]
theorem nltc (n : Nat) : ((n : Int) < (n : Int)) = False := by simp
theorem nnc (i : Nat) : ((0 : Int) ≤ (i : Int)) = True := by simp

theorem Ok.isTrue {o : Option Bool} (h : Ok o fun r => r = true) : o = some true := by
 obtain ⟨a, e, rfl⟩ := h
 exact e
theorem Ok.is {α : Type} {o : Option α} {a : α} (h : Ok o fun r => r = a) : o = some a := by
 obtain ⟨a, e, rfl⟩ := h
 exact e
theorem Ok.and' {α : Type} {o : Option α} {P Q : α → Prop} (h : Ok o P) (g : Ok o Q) : Ok o fun a => P a ∧ Q a := by
 obtain ⟨a, e, p⟩ := h
 obtain ⟨a', e', q⟩ := g
 rw [e] at e'
 cases e'
 exact ⟨a, e, p, q⟩
theorem app_loop {σ α β ρ : Type} {B : σ → Option (σ ⊕ ρ)} {S : List β → Nat → σ} {l : List α} {g : α → β} {fin : List β → Option ρ}
  (hs : ∀ acc i x, l[i]? = some x → i < l.length → acc.length = i → B (S acc i) = some (.inl (S (acc ++ [g x]) (i + 1)))) (he : ∀ acc, acc.length = l.length → goOn (loop B) (B (S acc l.length)) = fin acc) :
  loop B (S [] 0) = fin (l.map g) := by
 have key : ∀ (k i : Nat), i + k = l.length → loop B (S ((l.take i).map g) i) = fin (l.map g) := by
  intro k
  induction k with
  | zero =>
   intro i h
   have : i = l.length := by omega
   subst this
   rw [loop_eq, List.take_length, he _ (by simp)]
  | succ k ih =>
   intro i h
   have hlt : i < l.length := by omega
   have hx := List.getElem?_eq_getElem hlt
   rw [loop_eq, hs _ i l[i] hx hlt (by simp; omega)]
   simp only [goOn]
   rw [show (l.take i).map g ++ [g l[i]] = (l.take (i + 1)).map g by rw [List.take_add_one, hx, List.map_append]; rfl]
   exact ih (i + 1) (by omega)
 simpa using key l.length 0 (by omega)
theorem mb_len {l : List Gi_Mail} (h : mb l = true) : l.length ≤ 20 := by
 simp only [mb, Bool.and_eq_true, decide_eq_true_eq] at h
 omega
def mkM (k : Int) : Gi_Mail := ⟨k, k + 1, k + 2⟩
theorem markM (l : List Gi_Mail) (hl : l.length ≤ 1048577) (k0 : Int) (h0 : 0 ≤ k0) (h1 : k0 ≤ 1099511627776) : Dw_markMailS l k0 = some (k0 + (3 * l.length : Nat), marked mkM 3 k0 l.length) := by
 unfold Dw_markMailS
 refine mark_loop (S := fun k i m => Sw_markMailS.h1 k (i : Int) m) h0 (by omega) (fun i k m x hm hi hx h0 hb => ?_) (fun k m hm => ?_) l rfl
 ·have hlt : i < m.length := by omega
  have a1 : k + 1 + 1 = k + 2 := by omega
  have a2 : k + 2 + 1 = k + 3 := by omega
  simp only [Bw_markMailS, hm, Int.ofNat_lt, hi, if_true, Int.natCast_nonneg, Int.toNat_natCast, hx, Option.bind_some, List.getElem?_set, List.length_set]
  rw [wsucc (by omega), w64 (n := k + 1) (by omega), a1, w64 (n := k + 2) (by omega), a2, w64 (n := k + 3) (by omega)]
  simp [mkM, List.set_set]
 ·simp [Bw_markMailS, hm]
theorem heldM (n : Nat) (hn : n ≤ 1048577) (k0 : Int) (h0 : 0 ≤ k0) (h1 : k0 ≤ 1099511627776) : Dw_heldMailS (marked mkM 3 k0 n) k0 = some (k0 + (3 * n : Nat)) := by
 unfold Dw_heldMailS
 have hlen := marked_len mkM 3 k0 n
 refine held_loop (f := mkM) (c := 3) (n := n) (S := fun k i => Sw_heldMailS.h1 (marked mkM 3 k0 n) k (i : Int)) h0 (by omega) (fun i k hi hx h0 hb => ?_) (fun k => ?_)
 ·have a1 : k + 1 + 1 = k + 2 := by omega
  have a2 : k + 2 + 1 = k + 3 := by omega
  simp only [Bw_heldMailS, hlen, Int.ofNat_lt, hi, if_true, Int.natCast_nonneg, Int.toNat_natCast, hx, Option.bind_some]
  rw [wsucc (by omega), w64 (n := k + 1) (by omega), a1, w64 (n := k + 2) (by omega), a2, w64 (n := k + 3) (by omega)]
  simp [mkM]
 ·simp [Bw_heldMailS, hlen]
def byL (b : ByteArray) : List UInt8 := b.data.toList
theorem by_ext {a b : ByteArray} (h : byL a = byL b) : a = b := ByteArray.ext (Array.toList_inj.1 h)
theorem byL_app (a b : ByteArray) : byL (a ++ b) = byL a ++ byL b := ByteArray.toList_data_append
theorem byL_mk (l : List UInt8) : byL ⟨l.toArray⟩ = l := rfl
theorem by_size (b : ByteArray) : ByteArray.size b = (byL b).length := by
 show b.data.size = b.data.toList.length
 simp
theorem by_one (x : Int) : byL (bytesOf [x]) = [UInt8.ofNat x.toNat] := by simp [byL, bytesOf]
theorem byL_itoa (n : Int) : byL (itoaB n) = Lib.itoa n := by unfold itoaB byL; simp
theorem wu8 {n : Int} (h : 0 ≤ n ∧ n < 256) : IntKind.wrap .u8 n = n := by
 simp only [IntKind.wrap, IntKind.bits, IntKind.signed]
 simp
 omega
theorem dec_small {u : Nat} (h : u < 10) : Lib.decDigits u = [UInt8.ofNat (48 + u)] := by rw [Lib.decDigits, dif_pos h]
theorem dec_big {u : Nat} (h : ¬ u < 10) : Lib.decDigits u = Lib.decDigits (u / 10) ++ [UInt8.ofNat (48 + u % 10)] := by rw [Lib.decDigits, dif_neg h]
theorem dec_len : ∀ (k u : Nat), u < 10 ^ (k + 1) → (Lib.decDigits u).length ≤ k + 1
 | 0, u, h => by rw [dec_small (by simpa using h)]; simp
 | k + 1, u, h => by
  by_cases c : u < 10
  ·rw [dec_small c]; simp
  ·rw [dec_big c, List.length_append]
   have := dec_len k (u / 10) (by rw [Nat.pow_succ] at h; omega)
   simp
   omega
theorem itoa_nn {n : Int} (h : 0 ≤ n) : Lib.itoa n = Lib.decDigits n.toNat := by unfold Lib.itoa; rw [if_neg (by omega)]
theorem itoa_len {n : Int} (h : -9223372036854775808 ≤ n ∧ n ≤ 9223372036854775807) : (Lib.itoa n).length ≤ 20 := by
 unfold Lib.itoa
 split
 ·have := dec_len 18 n.natAbs (by omega)
  simp
  omega
 ·have := dec_len 18 n.toNat (by omega)
  omega
theorem itoa_i {n : Int} (h : -9223372036854775808 ≤ n ∧ n ≤ 9223372036854775807) : Dstrconv_Itoa n = some (itoaB n) := if_pos h
theorem num_fs : ∀ (k f : Nat) (n : Int), k < f → k ≤ 18 → 0 ≤ n → n < (10 : Int) ^ (k + 1) → n ≤ 9223372036854775807 → Ds_l1Num f n = some (itoaB n) := by
 have small : ∀ (f : Nat) (n : Int), 0 < f → 0 ≤ n → n < 10 → Ds_l1Num f n = some (itoaB n) := fun f n hf h0 h1 => by
  obtain ⟨f, rfl⟩ : ∃ g, f = g + 1 := ⟨f - 1, by omega⟩
  show Fs_l1Num (Ds_l1Num f) n = _
  unfold Fs_l1Num
  rw [if_pos h1, w64 (by omega), wu8 (by omega), if_pos (by simp; omega)]
  congr 1
  refine by_ext ?_
  rw [byL_itoa, itoa_nn h0, dec_small (by omega), by_one, show (48 + n).toNat = 48 + n.toNat by omega]
 intro k
 induction k with
 | zero => intro f n hf _ h0 h1 _; exact small f n hf h0 (by simpa using h1)
 | succ k ih =>
  intro f n hf hk h0 h1 h2
  by_cases c : n < 10
  ·exact small f n (by omega) h0 c
  ·obtain ⟨f, rfl⟩ : ∃ g, f = g + 1 := ⟨f - 1, by omega⟩
   show Fs_l1Num (Ds_l1Num f) n = _
   unfold Fs_l1Num
   have hdv : IntKind.wrap .i64 (Int.tdiv n 10) = n / 10 := by rw [Int.tdiv_eq_ediv_of_nonneg h0, w64 (by omega)]
   have hm : Int.tmod n 10 = n % 10 := Int.tmod_eq_emod_of_nonneg h0
   have hr := ih f (n / 10) (by omega) (by omega) (by omega) (by rw [Int.pow_succ] at h1; omega) (by omega)
   have hl := itoa_len (n := n / 10) (by omega)
   have hs : ByteArray.size (itoaB (n / 10)) ≤ 20 := by rw [by_size, byL_itoa]; exact hl
   have hs1 : ∀ x : Int, ByteArray.size (bytesOf [x]) = 1 := fun x => by rw [by_size, by_one]; rfl
   rw [if_neg c, hdv, hr, Option.bind_some, hm, w64 (by omega), wu8 (by omega), if_pos (by simp; omega), hs1, if_pos (by omega)]
   congr 1
   refine by_ext ?_
   rw [byL_app, byL_itoa, byL_itoa, itoa_nn h0, itoa_nn (show 0 ≤ n / 10 by omega), dec_big (u := n.toNat) (by omega)]
   rw [by_one, show (n / 10).toNat = n.toNat / 10 by omega, show (48 + n % 10).toNat = 48 + n.toNat % 10 by omega]
theorem num_s {n : Int} (h0 : 0 ≤ n) (h1 : n ≤ 9223372036854775807) : Ds_l1Num 100 n = some (itoaB n) := num_fs 18 100 n (by omega) (by omega) h0 (by omega) h1
def wordsB (w : ByteArray) (l : List Int) : ByteArray := joinB (w :: l.map itoaB) ⟨#[32]⟩
theorem byL_words (w : ByteArray) (l : List Int) : byL (wordsB w l) = byL w ++ (l.map fun n => 32 :: Lib.itoa n).flatten := by
 unfold wordsB joinB
 rw [byL_mk, List.map_cons, Lib.join_cons]
 unfold Lib.joinTail byL
 rw [List.map_map, List.map_map]
 rfl
def I64 (n : Int) : Prop := -9223372036854775808 ≤ n ∧ n ≤ 9223372036854775807
theorem words_len {l : List Int} (hl : ∀ n ∈ l, I64 n) : ((l.map fun n => (32 : UInt8) :: Lib.itoa n).flatten).length ≤ 21 * l.length := by
 induction l with
 | nil => simp
 | cons n l ih =>
  have h1 := ih fun m hm => hl m (List.mem_cons_of_mem _ hm)
  have h2 := itoa_len (hl n (List.mem_cons_self ..))
  simp only [List.map_cons, List.flatten_cons, List.length_append, List.length_cons]
  omega
theorem words_i {w : ByteArray} {l : List Int} (hw : w.size ≤ 2000000) (hn : l.length ≤ 2000000) (hl : ∀ n ∈ l, I64 n) : Di_wordsText w l = some (wordsB w l) := by
 unfold Di_wordsText
 have key := app_loop (B := Bi_wordsText) (S := fun acc i => .h1 l (l.length : Int) (i : Int) (w :: acc)) (l := l) (g := itoaB) (fin := fun acc => (Dstrings_Join (w :: acc) ⟨#[32]⟩).bind fun r => some r) (fun acc i x hx hi ha => by
  have e := itoa_i (hl x (List.mem_of_getElem? hx))
  simp (disch := omega) only [Bi_wordsText, if_pos, Int.toNat_natCast, hx, e, Option.bind_some, wsucc, List.length_append, List.length_singleton, List.length_cons, List.length_nil, List.cons_append]) fun acc ha => by
  simp (disch := omega) only [Bi_wordsText, if_neg]
  cases Dstrings_Join (w :: acc) ⟨#[32]⟩ <;> rfl
 refine Eq.trans key ?_
 have hj : Dstrings_Join (w :: l.map itoaB) ⟨#[32]⟩ = some (wordsB w l) := by
  refine if_pos ⟨by simp; omega, ?_⟩
  have h1 : byL (wordsB w l) = Lib.join ((w :: l.map itoaB).map (·.data.toList)) (ByteArray.mk #[32]).data.toList := rfl
  rw [← h1, byL_words, List.length_append, ← by_size]
  have := words_len hl
  omega
 rw [hj]
 rfl
theorem words_size {w : ByteArray} {l : List Int} (hl : ∀ n ∈ l, I64 n) : (wordsB w l).size ≤ w.size + 21 * l.length := by
 rw [by_size, byL_words, List.length_append, ← by_size]
 have := words_len hl
 omega
theorem cat_loop {σ α ρ : Type} {B : σ → Option (σ ⊕ ρ)} {S : ByteArray → Nat → σ} {l : List α} {g : α → ByteArray} {fin : ByteArray → Option ρ} {K : Nat} {a0 : ByteArray}
  (hs : ∀ acc i x, l[i]? = some x → i < l.length → ByteArray.size acc ≤ ByteArray.size a0 + K * i → B (S acc i) = some (.inl (S (acc ++ g x) (i + 1))) ∧ ByteArray.size (g x) ≤ K) (he : ∀ acc, ByteArray.size acc ≤ ByteArray.size a0 + K * l.length → goOn (loop B) (B (S acc l.length)) = fin acc) :
  loop B (S a0 0) = fin (l.foldl (fun o x => o ++ g x) a0) := by
 have key : ∀ (k i : Nat) acc, i + k = l.length → ByteArray.size acc ≤ ByteArray.size a0 + K * i → loop B (S acc i) = fin ((l.drop i).foldl (fun o x => o ++ g x) acc) := by
  intro k
  induction k with
  | zero =>
   intro i acc h ha
   have : i = l.length := by omega
   subst this
   rw [loop_eq, he _ ha, List.drop_of_length_le (Nat.le_refl _)]
   rfl
  | succ k ih =>
   intro i acc h ha
   have hlt : i < l.length := by omega
   have hx := List.getElem?_eq_getElem hlt
   obtain ⟨h1, h2⟩ := hs _ i l[i] hx hlt ha
   rw [loop_eq, h1, List.drop_eq_getElem_cons hlt]
   simp only [goOn, List.foldl_cons]
   exact ih (i + 1) _ (by omega) (by rw [ByteArray.size_append, Nat.mul_succ]; omega)
 simpa using key l.length 0 a0 (by omega) (by simp)
def mlLine (x : Gi_Mail) : ByteArray := wordsB ⟨#[109, 97, 105, 108]⟩ [x.Turn, x.Side, x.Seal] ++ ⟨#[10]⟩
def mlText (l : List Gi_Mail) : ByteArray := l.foldl (fun o x => o ++ mlLine x) ⟨#[]⟩
theorem okr_all {x : Gi_Mail} (h : okr x = true) : (0 ≤ x.Turn ∧ x.Turn ≤ 30) ∧ (0 ≤ x.Side ∧ x.Side ≤ 1) ∧ 0 ≤ x.Seal ∧ x.Seal ≤ 4611686016279904236 := by
 unfold okr at h
 simp only [Bool.and_eq_true, inr3_iff] at h
 exact ⟨h.1.1, h.1.2, h.2⟩
theorem mail_i64 {x : Gi_Mail} (h : okr x = true) : ∀ n ∈ [x.Turn, x.Side, x.Seal], I64 n := fun n hn => by
 have := okr_all h
 unfold I64
 simp only [List.mem_cons, List.not_mem_nil, or_false] at hn
 rcases hn with rfl | rfl | rfl <;> omega
theorem mlLine_size {x : Gi_Mail} (h : okr x = true) : (mlLine x).size ≤ 68 := by
 unfold mlLine
 rw [ByteArray.size_append]
 have := words_size (w := ⟨#[109, 97, 105, 108]⟩) (mail_i64 h)
 have e1 : (ByteArray.mk #[109, 97, 105, 108]).size = 4 := rfl
 have e2 : (ByteArray.mk #[10]).size = 1 := rfl
 simp only [List.length_cons, List.length_nil] at this
 omega
theorem mailText_i {l : List Gi_Mail} (h : mb l = true) : Di_mailText l = some (mlText l) := by
 have hn := mb_len h
 have hr := (mb_sorted h).1
 unfold Di_mailText
 have key := cat_loop (B := Bi_mailText) (S := fun acc i => .h1 acc l (l.length : Int) (i : Int)) (l := l) (g := mlLine) (fin := fun acc => some acc) (K := 68) (a0 := ⟨#[]⟩) (fun acc i x hx hi ha => by
  have hk := hr x (List.mem_of_getElem? hx)
  have e := words_i (w := ⟨#[109, 97, 105, 108]⟩) (by decide) (by simp) (mail_i64 hk)
  have hs := mlLine_size hk
  have hs2 := words_size (w := ⟨#[109, 97, 105, 108]⟩) (mail_i64 hk)
  have e0 : (ByteArray.mk #[]).size = 0 := rfl
  have e1 : (ByteArray.mk #[109, 97, 105, 108]).size = 4 := rfl
  have e2 : (ByteArray.mk #[10]).size = 1 := rfl
  simp only [List.length_cons, List.length_nil] at hs2
  unfold mlLine at hs
  refine ⟨?_, hs⟩
  simp (disch := omega) only [Bi_mailText, if_pos, Int.toNat_natCast, hx, e, Option.bind_some, wsucc]
  rfl) fun acc ha => by
  simp (disch := omega) only [Bi_mailText, if_neg, goOn]
 exact key
theorem mlLine_s (x : Gi_Mail) : (((((⟨#[109, 97, 105, 108, 32]⟩ ++ itoaB x.Turn) ++ ⟨#[32]⟩) ++ itoaB x.Side) ++ ⟨#[32]⟩) ++ itoaB x.Seal) ++ ⟨#[10]⟩ = mlLine x := by
 unfold mlLine
 refine by_ext ?_
 simp only [byL_app, byL_words, byL_itoa]
 simp [byL]
theorem nText_s {l : List Gi_Mail} (h : mb l = true) : Ds_nText l = some (mlText l) := by
 have hn := mb_len h
 have hr := (mb_sorted h).1
 unfold Ds_nText
 have key := cat_loop (B := Bs_nText) (S := fun acc i => .h1 acc l (l.length : Int) (i : Int)) (l := l) (g := mlLine) (fin := fun acc => some acc) (K := 68) (a0 := ⟨#[]⟩) (fun acc i x hx hi ha => by
  have hk := hr x (List.mem_of_getElem? hx)
  have hb := okr_all hk
  have i1 := num_s (n := x.Turn) (by omega) (by omega)
  have i2 := num_s (n := x.Side) (by omega) (by omega)
  have i3 := num_s (n := x.Seal) (by omega) (by omega)
  have hs := mlLine_size hk
  have q1 : (itoaB x.Turn).size ≤ 20 := by rw [by_size, byL_itoa]; exact itoa_len (by omega)
  have q2 : (itoaB x.Side).size ≤ 20 := by rw [by_size, byL_itoa]; exact itoa_len (by omega)
  have q3 : (itoaB x.Seal).size ≤ 20 := by rw [by_size, byL_itoa]; exact itoa_len (by omega)
  have e0 : (ByteArray.mk #[]).size = 0 := rfl
  have e1 : (ByteArray.mk #[109, 97, 105, 108, 32]).size = 5 := rfl
  have e2 : (ByteArray.mk #[10]).size = 1 := rfl
  have e3 : (ByteArray.mk #[32]).size = 1 := rfl
  refine ⟨?_, hs⟩
  have e4 := mlLine_s x
  rw [← e4]
  rw [← e4] at hs
  simp only [Bs_nText, Int.toNat_natCast, hx, i1, i2, i3, Option.bind_some]
  generalize itoaB x.Turn = t at *
  generalize itoaB x.Side = s at *
  generalize itoaB x.Seal = u at *
  simp only [ByteArray.size_append] at hs ⊢
  rw [if_pos (by omega), if_pos (by omega), if_pos (by omega), if_pos (by omega), if_pos (by omega), if_pos (by omega), if_pos (by omega), if_pos (by omega), if_pos (by omega), wsucc (by omega)]) fun acc ha => by
  simp (disch := omega) only [Bs_nText, if_neg, goOn]
 exact key
def valD (acc : Nat) (l : List UInt8) : Nat := l.foldl (fun a c => 10 * a + (c.toNat - 48)) acc
def dgsL (l : List UInt8) : Prop := ∀ c ∈ l, 48 ≤ c.toNat ∧ c.toNat ≤ 57
theorem valD_app (a : Nat) (l : List UInt8) (c : UInt8) : valD a (l ++ [c]) = 10 * valD a l + (c.toNat - 48) := by
 unfold valD; rw [List.foldl_append]; rfl
theorem valD_ge : ∀ (l : List UInt8) (a : Nat), a ≤ valD a l
 | [], a => Nat.le_refl _
 | c :: r, a => by
  have := valD_ge r (10 * a + (c.toNat - 48))
  show a ≤ valD (10 * a + (c.toNat - 48)) r
  omega
theorem dig_nat {d : Nat} (h : d < 10) : (UInt8.ofNat (48 + d)).toNat = 48 + d := by
 rw [UInt8.toNat_ofNat_of_lt' (by show 48 + d < 256; omega)]
theorem dec_digs (u : Nat) : dgsL (Lib.decDigits u) ∧ valD 0 (Lib.decDigits u) = u ∧ Lib.decDigits u ≠ [] ∧ (1 ≤ u → ∀ c r, Lib.decDigits u = c :: r → c.toNat ≠ 48) ∧ (u = 0 → (Lib.decDigits u).length = 1) := by
 induction u using Nat.strongRecOn with
 | _ u ih =>
  by_cases h : u < 10
  ·rw [dec_small h]
   have e := dig_nat h
   refine ⟨fun c hc => ?_, ?_, by simp, fun h1 c r hr => ?_, fun _ => rfl⟩
   ·rw [List.mem_singleton.1 hc, e]; omega
   ·show 10 * 0 + ((UInt8.ofNat (48 + u)).toNat - 48) = u
    rw [e]; omega
   ·cases hr
    rw [e]; omega
  ·obtain ⟨h1, h2, h3, h4, _⟩ := ih (u / 10) (by omega)
   have e := dig_nat (d := u % 10) (by omega)
   rw [dec_big h]
   refine ⟨fun c hc => ?_, ?_, by simp, fun _ c r hr => ?_, fun h0 => by omega⟩
   ·rcases List.mem_append.1 hc with hc | hc
    ·exact h1 c hc
    ·rw [List.mem_singleton.1 hc, e]; omega
   ·rw [valD_app, h2, e]; omega
   ·cases hdg : Lib.decDigits (u / 10) with
    | nil => exact absurd hdg h3
    | cons c0 r0 =>
     rw [hdg] at hr
     cases hr
     exact h4 (by omega) _ _ hdg
theorem pu10 : ∀ (l : List UInt8) (acc : Nat), dgsL l → valD acc l ≤ 9223372036854775807 → Lib.parseUint10 acc l = .ok (valD acc l)
 | [], acc, _, _ => rfl
 | c :: r, acc, hdg, hv => by
  have hc := hdg c (List.mem_cons_self ..)
  have hge := valD_ge r (10 * acc + (c.toNat - 48))
  have hv' : valD (10 * acc + (c.toNat - 48)) r ≤ 9223372036854775807 := hv
  have e : acc * 10 + (c.toNat - 48) = 10 * acc + (c.toNat - 48) := by rw [Nat.mul_comm]
  unfold Lib.parseUint10
  rw [if_pos hc, if_neg (by omega), if_neg (by omega), e]
  exact pu10 r _ (fun x hx => hdg x (List.mem_cons_of_mem _ hx)) hv'
theorem atoi_itoa {n : Int} (h0 : 0 ≤ n) (h1 : n ≤ 9223372036854775807) : Lib.atoiAll (Lib.itoa n) = .ok n := by
 obtain ⟨d1, d2, d3, _⟩ := dec_digs n.toNat
 rw [itoa_nn h0]
 generalize Lib.decDigits n.toNat = l at *
 match l, d3 with
 | c :: r, _ =>
  have hc := d1 c (List.mem_cons_self ..)
  have hp : Lib.parseMag (c :: r) = .ok n.toNat := by
   unfold Lib.parseMag
   rw [if_neg (by simp), pu10 _ _ d1 (by omega), d2]
  unfold Lib.atoiAll
  simp only
  rw [if_neg (by omega), hp]
  simp only
  rw [if_neg (by omega), if_neg (by omega), if_neg (by omega)]
  congr 1
  omega
theorem atoiB {n : Int} (h0 : 0 ≤ n) (h1 : n ≤ 9223372036854775807) : Dstrconv_Atoi (itoaB n) = some (n, false) := by
 have hs := itoa_len (n := n) (by omega)
 have hz : (itoaB n).size ≤ 20 := by rw [by_size, byL_itoa]; exact hs
 have e : (itoaB n).data.toList = Lib.itoa n := byL_itoa n
 unfold Dstrconv_Atoi atoiD
 rw [if_pos (by omega)]
 unfold atoiV atoiE
 rw [e, atoi_itoa h0 h1]
theorem atoi_some {s : ByteArray} (h : s.size ≤ 281474976710656) : Dstrconv_Atoi s = some (atoiV s, atoiE s) := if_pos h
theorem atoi_bnd {l : List UInt8} {v : Int} (h : Lib.atoiAll l = .ok v) : I64 v := by
 unfold Lib.atoiAll at h
 split at h
 ·cases h
 ·simp only at h
  split at h
  ·cases h
  ·cases h
  ·rename_i u hu
   split at h
   ·cases h
   ·split at h
    ·cases h
    ·injection h with h
     unfold I64
     split at h <;> omega
theorem atoiV_i64 (s : ByteArray) : I64 (atoiV s) := by
 unfold atoiV I64
 split
 ·rename_i v h
  exact atoi_bnd h
 ·unfold Lib.atoiSat
  split <;> omega
 ·omega
theorem readInt_b {n : Int} (h0 : 0 ≤ n) (h1 : n ≤ 999) : Di_readInt (itoaB n) = some (n, true) := by
 have hs : (itoaB n).size ≤ 3 := by
  rw [by_size, byL_itoa, itoa_nn h0]
  exact dec_len 2 n.toNat (by omega)
 unfold Di_readInt
 rw [atoiB h0 (by omega), Option.bind_some, if_neg (by simp), if_neg (by omega), itoa_i (by omega), Option.bind_some, if_pos rfl]
theorem readInt_ok {s : ByteArray} (h : s.size ≤ 2000000) : ∃ r, Di_readInt s = some r := by
 unfold Di_readInt
 rw [atoi_some (by omega), Option.bind_some]
 split
 ·exact ⟨_, rfl⟩
 ·split
  ·exact ⟨_, rfl⟩
  ·rw [itoa_i (atoiV_i64 s), Option.bind_some]
   split <;> exact ⟨_, rfl⟩
theorem byteAt_b (s : ByteArray) (i : Nat) (h : i < s.size) : ∃ c, (byL s)[i]? = some c ∧ byteAt s i = c.toNat ∧ c ∈ byL s := by
 have hi : i < (byL s).length := by rw [← by_size]; exact h
 have e := List.getElem?_eq_getElem hi
 refine ⟨_, e, ?_, List.getElem_mem hi⟩
 unfold byteAt
 rw [show s.data.toList[i]? = (byL s)[i]? from rfl, e]
theorem valD_take (l : List UInt8) (i : Nat) {c : UInt8} (h : l[i]? = some c) : valD 0 (l.take (i + 1)) = 10 * valD 0 (l.take i) + (c.toNat - 48) := by
 rw [List.take_add_one, h]
 exact valD_app 0 _ c
theorem valD_mono (l : List UInt8) (i : Nat) : valD 0 (l.take i) ≤ valD 0 l := by
 have : valD 0 l = valD (valD 0 (l.take i)) (l.drop i) := by
  unfold valD
  rw [← List.foldl_append, List.take_append_drop]
 rw [this]
 exact valD_ge _ _
theorem eDig_s {s : ByteArray} (hdg : dgsL (byL s)) (hz : s.size ≤ 19) (hv : valD 0 (byL s) ≤ 5000000000000000000) : Ds_eDigits s = some (valD 0 (byL s) : Int) := by
 have key : ∀ (k i : Nat), i + k = s.size → loop Bs_eDigits (.h1 s (valD 0 ((byL s).take i) : Int) (i : Int)) = some (valD 0 (byL s) : Int) := by
  intro k
  induction k with
  | zero =>
   intro i h
   have : i = s.size := by omega
   subst this
   rw [loop_eq]
   simp only [Bs_eDigits, nltc, if_false, goOn]
   rw [by_size, List.take_length]
  | succ k ih =>
   intro i h
   have hlt : i < s.size := by omega
   obtain ⟨c, hc, hb, hm⟩ := byteAt_b s i hlt
   have hdc := hdg c hm
   have ht := valD_take _ _ hc
   have hmo := valD_mono (byL s) (i + 1)
   have hih := ih (i + 1) (by omega)
   rw [ht] at hih hmo
   generalize valD 0 ((byL s).take i) = n at *
   rw [loop_eq]
   simp only [Bs_eDigits, ltc hlt, nnc, if_true, Int.toNat_natCast, hb]
   rw [if_pos (by omega), w64 (n := 10 * (n : Int)) (by omega), w64 (n := (c.toNat : Int)) (by omega), w64 (n := 10 * (n : Int) + (c.toNat : Int)) (by omega), w64 (n := 10 * (n : Int) + (c.toNat : Int) - 48) (by omega), wsucc (by omega)]
   rw [show 10 * (n : Int) + (c.toNat : Int) - 48 = ((10 * n + (c.toNat - 48) : Nat) : Int) by omega]
   exact hih
 exact key s.size 0 (by omega)
theorem eDig_ok (s : ByteArray) : ∃ r, Ds_eDigits s = some r := by
 have key : ∀ (k i : Nat) (n : Int), i + k = 20 → ∃ r, loop Bs_eDigits (.h1 s n (i : Int)) = some r := by
  intro k
  induction k with
  | zero =>
   intro i n h
   rw [loop_eq]
   simp only [Bs_eDigits]
   split
   ·rw [if_neg (by omega)]; exact ⟨_, rfl⟩
   ·exact ⟨_, rfl⟩
  | succ k ih =>
   intro i n h
   rw [loop_eq]
   simp only [Bs_eDigits]
   split
   ·rename_i hlt
    split
    ·rw [if_pos (by omega)]
     try rw [if_pos (by omega)]
     rw [wsucc (by omega)]
     exact ih (i + 1) _ (by omega)
    ·exact ⟨_, rfl⟩
   ·exact ⟨_, rfl⟩
 exact key 20 0 0 rfl

theorem rdL_ok {s : ByteArray} (hz : s.size ≤ 6) : ∀ (k i : Nat) (n : Int), i + k = s.size → ∃ r, loop Bs_l1Read (.h1 s n (i : Int)) = some r := by
 intro k
 induction k with
 | zero =>
  intro i n h
  rw [loop_eq]
  simp only [Bs_l1Read]
  rw [if_neg (by omega)]
  exact ⟨_, rfl⟩
 | succ k ih =>
  intro i n h
  have hlt : i < s.size := by omega
  rw [loop_eq]
  simp only [Bs_l1Read, ltc hlt, nnc, if_true, Int.toNat_natCast]
  split
  ·exact ⟨_, rfl⟩
  ·split
   ·exact ⟨_, rfl⟩
   ·rw [wsucc (show i < 9223372036854775807 by omega)]
    exact ih (i + 1) _ (by omega)
theorem rd_ok (s : ByteArray) : ∃ r, Ds_l1Read s = some r := by
 unfold Ds_l1Read
 rw [kin_s, Option.bind_some]
 by_cases c : kIn (s.size : Int) 1 6 = true
 ·have hb := kIn_iff.1 c
  rw [if_pos c, if_pos (by omega)]
  have h := rdL_ok (s := s) (by omega) s.size 0 0 (by omega)
  split
  ·split
   ·exact ⟨_, rfl⟩
   ·exact h
  ·exact h
 ·rw [if_neg c]
  exact ⟨_, rfl⟩
theorem rdL_b {s : ByteArray} (hdg : dgsL (byL s)) (hz : s.size ≤ 6) (hv : valD 0 (byL s) ≤ 999999) : ∀ (k i : Nat), i + k = s.size → loop Bs_l1Read (.h1 s (valD 0 ((byL s).take i) : Int) (i : Int)) = some (valD 0 (byL s) : Int) := by
 intro k
 induction k with
 | zero =>
  intro i h
  have : i = s.size := by omega
  subst this
  rw [loop_eq]
  simp only [Bs_l1Read, nltc, if_false, goOn]
  rw [by_size, List.take_length]
 | succ k ih =>
  intro i h
  have hlt : i < s.size := by omega
  obtain ⟨c, hc, hb, hm⟩ := byteAt_b s i hlt
  have hdc := hdg c hm
  have ht := valD_take _ _ hc
  have hmo := valD_mono (byL s) (i + 1)
  have hih := ih (i + 1) (by omega)
  rw [ht] at hih hmo
  generalize valD 0 ((byL s).take i) = n at *
  rw [loop_eq]
  simp only [Bs_l1Read, ltc hlt, nnc, if_true, Int.toNat_natCast, hb]
  rw [if_neg (by omega), if_neg (by omega), wu8 (n := (c.toNat : Int) - 48) (by omega), w64 (n := 10 * (n : Int)) (by omega), w64 (n := (c.toNat : Int) - 48) (by omega), w64 (n := 10 * (n : Int) + ((c.toNat : Int) - 48)) (by omega), wsucc (show i < 9223372036854775807 by omega)]
  rw [show 10 * (n : Int) + ((c.toNat : Int) - 48) = ((10 * n + (c.toNat - 48) : Nat) : Int) by omega]
  exact hih
theorem rd_b {n : Int} (h0 : 0 ≤ n) (h1 : n ≤ 999) : Ds_l1Read (itoaB n) = some n := by
 obtain ⟨d1, d2, d3, d4, d5⟩ := dec_digs n.toNat
 have hl : byL (itoaB n) = Lib.decDigits n.toNat := by rw [byL_itoa, itoa_nn h0]
 have hlen := dec_len 2 n.toNat (by omega)
 rw [← hl] at d1 d2 d3 d4 d5 hlen
 rw [← by_size] at hlen d5
 generalize itoaB n = s at *
 have hpos : 0 < s.size := by
  rw [by_size]
  exact List.length_pos_iff.2 d3
 have hL := rdL_b d1 (by omega) (by omega) s.size 0 (by omega)
 rw [d2] at hL
 have hL' : loop Bs_l1Read (.h1 s 0 0) = some n := by
  have e : ((n.toNat : Nat) : Int) = n := by omega
  rw [e] at hL
  exact hL
 unfold Ds_l1Read
 rw [kin_s, Option.bind_some, if_pos (kIn_iff.2 (by omega)), if_pos (by omega)]
 obtain ⟨c, hc, hb, hm⟩ := byteAt_b s 0 hpos
 split
 ·rename_i h48
  have hc48 : c.toNat = 48 := by
   have e0 : Int.toNat 0 = 0 := rfl
   rw [e0, hb] at h48
   omega
  split
  ·rename_i hsz
   exfalso
   by_cases hz : n.toNat = 0
   ·have := d5 hz
    omega
   ·cases hb2 : byL s with
    | nil => exact d3 hb2
    | cons c0 r =>
     rw [hb2] at hc
     simp at hc
     subst hc
     exact d4 (by omega) _ _ hb2 hc48
  ·exact hL'
 ·exact hL'
theorem seal_s {n : Int} (h0 : 0 ≤ n) (h1 : n ≤ 4611686016279904236) : Ds_eDigits (itoaB n) = some n ∧ (itoaB n).size ≤ 19 := by
 obtain ⟨d1, d2, _⟩ := dec_digs n.toNat
 have hl : byL (itoaB n) = Lib.decDigits n.toNat := by rw [byL_itoa, itoa_nn h0]
 have hlen := dec_len 18 n.toNat (by omega)
 rw [← hl] at d1 d2 hlen
 rw [← by_size] at hlen
 refine ⟨?_, hlen⟩
 rw [eDig_s d1 hlen (by omega), d2]
 congr 1
 omega
theorem splL_app (c : UInt8) : ∀ (a l : List UInt8), c ∉ a → splL c (a ++ l) = match splL c l with | [] => [a] | x :: r => (a ++ x) :: r
 | [], l, _ => by
  rw [List.nil_append]
  have : splL c l ≠ [] := by
   cases l with
   | nil => simp [splL]
   | cons b l => unfold splL; split; · simp
                 ·split <;> simp
  cases h : splL c l with
  | nil => exact absurd h this
  | cons x r => rfl
 | b :: a, l, h => by
  rw [List.mem_cons, not_or] at h
  have ih := splL_app c a l h.2
  show (if b = c then [] :: splL c (a ++ l) else match splL c (a ++ l) with | [] => [[b]] | x :: r => (b :: x) :: r) = _
  rw [if_neg (fun e => h.1 e.symm), ih]
  cases splL c l <;> rfl
theorem splL_end (c : UInt8) (a : List UInt8) (h : c ∉ a) : splL c a = [a] := by
 have := splL_app c a [] h
 rw [List.append_nil] at this
 rw [this]
 simp [splL]
theorem splL_sep (c : UInt8) (a l : List UInt8) (h : c ∉ a) : splL c (a ++ c :: l) = a :: splL c l := by
 rw [splL_app c a _ h]
 simp [splL]
theorem splL_ne (c : UInt8) (l : List UInt8) : splL c l ≠ [] := by
 cases l with
 | nil => simp [splL]
 | cons b l =>
  unfold splL
  split
  ·simp
  ·split <;> simp
theorem splL_len (c : UInt8) : ∀ l : List UInt8, (splL c l).length ≤ l.length + 1
 | [] => Nat.le_refl _
 | b :: l => by
  have ih := splL_len c l
  unfold splL
  split
  ·simp; omega
  ·split
   ·simp
   ·rename_i x r e
    rw [e] at ih
    simp at ih ⊢
    omega
theorem splL_mem (c : UInt8) : ∀ (l x : List UInt8), x ∈ splL c l → x.length ≤ l.length
 | [], x, h => by simp [splL] at h; subst h; exact Nat.le_refl _
 | b :: l, x, h => by
  have ih := splL_mem c l
  unfold splL at h
  split at h
  ·rcases List.mem_cons.1 h with rfl | h
   ·simp
   ·have := ih x h; simp; omega
  ·split at h
   ·simp at h; subst h; simp
   ·rename_i y r e
    rcases List.mem_cons.1 h with rfl | h
    ·have := ih y (by rw [e]; exact List.mem_cons_self ..)
     simp; omega
    ·have := ih x (by rw [e]; exact List.mem_cons_of_mem _ h)
     simp; omega

theorem byL_ext (s : ByteArray) (a b : Nat) : byL (s.extract a b) = ((byL s).drop a).take (b - a) := by
 unfold byL
 rw [ByteArray.data_extract, Array.toList_extract]
def mkB (x : List UInt8) : ByteArray := ⟨x.toArray⟩
theorem spl_s {s : ByteArray} (hz : s.size ≤ 2000000) (c : UInt8) : Ds_l1Split s (c.toNat : Int) = some (splitB1 s c) := by
 have hlen := by_size s
 have key : ∀ (k i f : Nat) (acc : List ByteArray), i + k = s.size → f ≤ i → acc.length ≤ i → c ∉ ((byL s).drop f).take (i - f) →
   loop Bs_l1Split (.h1 s (c.toNat : Int) (f : Int) (i : Int) acc) = some (acc ++ (splL c ((byL s).drop f)).map mkB) := by
  intro k
  induction k with
  | zero =>
   intro i f acc h hf ha hc
   have hi : i = s.size := by omega
   subst hi
   rw [List.take_of_length_le (by rw [List.length_drop]; omega)] at hc
   have e : s.extract f s.size = mkB ((byL s).drop f) := by
    refine by_ext ?_
    rw [byL_ext, List.take_of_length_le (by rw [List.length_drop]; omega)]
    rfl
   rw [loop_eq, splL_end c _ hc]
   simp only [Bs_l1Split, nltc, if_false, nnc, if_true, Int.toNat_natCast, e]
   rw [if_pos (by omega), if_pos (by simp; omega)]
   rfl
  | succ k ih =>
   intro i f acc h hf ha hc
   have hlt : i < s.size := by omega
   obtain ⟨b, hb, hbb, hm⟩ := byteAt_b s i hlt
   have hdrop : (byL s).drop f = ((byL s).drop f).take (i - f) ++ b :: (byL s).drop (i + 1) := by
    have h1 : ((byL s).drop f).drop (i - f) = b :: (byL s).drop (i + 1) := by
     rw [List.drop_drop, show f + (i - f) = i by omega]
     have hi : i < (byL s).length := by omega
     rw [List.drop_eq_getElem_cons hi]
     rw [List.getElem?_eq_getElem hi] at hb
     rw [Option.some.inj hb]
    rw [← h1, List.take_append_drop]
   rw [loop_eq]
   simp only [Bs_l1Split, ltc hlt, nnc, if_true, Int.toNat_natCast, hbb]
   by_cases hbc : b = c
   ·subst hbc
    have e : s.extract f i = mkB (((byL s).drop f).take (i - f)) := by_ext (by rw [byL_ext]; rfl)
    rw [if_pos rfl, if_pos (by omega), if_pos (by omega), if_pos (by simp; omega), wsucc (by omega), e]
    have hih := ih (i + 1) (i + 1) (acc ++ [mkB (((byL s).drop f).take (i - f))]) (by omega) (Nat.le_refl _) (by simp; omega) (by simp)
    refine Eq.trans hih ?_
    conv => rhs; rw [hdrop, splL_sep b _ _ hc]
    simp
   ·rw [if_neg (fun e => hbc (UInt8.toNat_inj.1 (by omega))), wsucc (by omega)]
    refine ih (i + 1) f acc (by omega) (by omega) (by omega) fun hmem => ?_
    rw [show i + 1 - f = (i - f) + 1 by omega, List.take_add_one] at hmem
    rcases List.mem_append.1 hmem with hmem | hmem
    ·exact hc hmem
    ·rw [List.getElem?_drop, show f + (i - f) = i by omega, hb] at hmem
     simp at hmem
     exact hbc hmem.symm
 have := key s.size 0 0 [] (by omega) (Nat.le_refl _) (Nat.le_refl _) (by simp)
 rw [List.drop_zero, List.nil_append] at this
 exact this
def lnL (x : Gi_Mail) : List UInt8 := byL (wordsB ⟨#[109, 97, 105, 108]⟩ [x.Turn, x.Side, x.Seal])
theorem lnL_eq (x : Gi_Mail) : lnL x = [109, 97, 105, 108] ++ 32 :: (Lib.itoa x.Turn ++ 32 :: (Lib.itoa x.Side ++ 32 :: Lib.itoa x.Seal)) := by
 unfold lnL
 rw [byL_words]
 simp [byL]
theorem itoa_no {n : Int} (h0 : 0 ≤ n) {c : UInt8} (hc : c.toNat < 48) : c ∉ Lib.itoa n := fun hm => by
 rw [itoa_nn h0] at hm
 have := (dec_digs n.toNat).1 c hm
 omega
theorem ln_words {x : Gi_Mail} (h : okr x = true) : splL 32 (lnL x) = [[109, 97, 105, 108], Lib.itoa x.Turn, Lib.itoa x.Side, Lib.itoa x.Seal] := by
 have hb := okr_all h
 rw [lnL_eq, splL_sep 32 _ _ (by decide), splL_sep 32 _ _ (itoa_no (by omega) (by decide)), splL_sep 32 _ _ (itoa_no (by omega) (by decide)), splL_end 32 _ (itoa_no (by omega) (by decide))]
theorem ln_no {x : Gi_Mail} (h : okr x = true) : (10 : UInt8) ∉ lnL x := by
 have hb := okr_all h
 rw [lnL_eq]
 simp only [List.mem_append, List.mem_cons, not_or]
 exact ⟨by decide, by decide, itoa_no (by omega) (by decide), by decide, itoa_no (by omega) (by decide), by decide, itoa_no (by omega) (by decide)⟩
theorem tx_byL (l : List Gi_Mail) : byL (mlText l) = (l.map fun x => lnL x ++ [10]).flatten := by
 have key : ∀ (l : List Gi_Mail) (a : ByteArray), byL (l.foldl (fun o x => o ++ mlLine x) a) = byL a ++ (l.map fun x => lnL x ++ [10]).flatten := by
  intro l
  induction l with
  | nil => intro a; simp
  | cons x r ih =>
   intro a
   rw [List.foldl_cons, ih, byL_app, List.map_cons, List.flatten_cons, List.append_assoc]
   rfl
 have := key l ⟨#[]⟩
 unfold mlText
 rw [this]
 rfl
theorem tx_lines : ∀ {l : List Gi_Mail}, (∀ x ∈ l, okr x = true) → splL 10 ((l.map fun x => lnL x ++ [10]).flatten) = l.map lnL ++ [[]]
 | [], _ => by simp [splL]
 | x :: r, h => by
  rw [List.map_cons, List.flatten_cons, List.append_assoc, List.singleton_append, splL_sep 10 _ _ (ln_no (h x (List.mem_cons_self ..))), tx_lines fun y hy => h y (List.mem_cons_of_mem _ hy)]
  rfl
theorem tx_split {l : List Gi_Mail} (h : ∀ x ∈ l, okr x = true) : splitB1 (mlText l) 10 = (l.map fun x => mkB (lnL x)) ++ [mkB []] := by
 unfold splitB1
 rw [show (mlText l).data.toList = byL (mlText l) from rfl, tx_byL, tx_lines h, List.map_append, List.map_map]
 rfl
theorem ln_split {x : Gi_Mail} (h : okr x = true) : splitB1 (mkB (lnL x)) 32 = [⟨#[109, 97, 105, 108]⟩, itoaB x.Turn, itoaB x.Side, itoaB x.Seal] := by
 unfold splitB1
 rw [show (mkB (lnL x)).data.toList = lnL x from rfl, ln_words h]
 rfl
theorem split_size {s x : ByteArray} {c : UInt8} (h : x ∈ splitB1 s c) : x.size ≤ s.size := by
 unfold splitB1 at h
 obtain ⟨y, hy, rfl⟩ := List.mem_map.1 h
 have := splL_mem c _ _ hy
 rw [by_size, by_size]
 exact this
theorem split_len (s : ByteArray) (c : UInt8) : 1 ≤ (splitB1 s c).length ∧ (splitB1 s c).length ≤ s.size + 1 := by
 unfold splitB1
 rw [List.length_map, by_size]
 exact ⟨List.length_pos_iff.2 (splL_ne c _), splL_len c _⟩

def PmQ (s : ByteArray) (r : List Gi_Mail × Bool) : Prop := (r = ([], false) ∧ ∀ l, mb l = true → mlText l = s → False) ∨ (r.2 = true ∧ mb r.1 = true ∧ mlText r.1 = s ∧ ∀ l, mb l = true → mlText l = s → r.1 = l)
theorem PmQ.eq {s : ByteArray} {r q : List Gi_Mail × Bool} (h : PmQ s r) (k : PmQ s q) : r = q := by
 rcases h with ⟨rfl, h⟩ | ⟨h1, h2, h3, h4⟩ <;> rcases k with ⟨rfl, k⟩ | ⟨k1, k2, k3, k4⟩
 ·rfl
 ·exact (h _ k2 k3).elim
 ·exact (k _ h2 h3).elim
 ·obtain ⟨r1, r2⟩ := r
  obtain ⟨q1, q2⟩ := q
  have := h4 q1 k2 k3
  dsimp only at h1 k1 this
  rw [h1, k1, this]
theorem pm_rej {s : ByteArray} (h : ∀ l, mb l = true → mlText l = s → False) : PmQ s ([], false) := .inl ⟨rfl, h⟩
def pmL (s : ByteArray) : List ByteArray := (splitB1 s 10).take ((splitB1 s 10).length - 1)
theorem pm_lines {s : ByteArray} {l : List Gi_Mail} (h : mb l = true) (e : mlText l = s) : pmL s = l.map fun x => mkB (lnL x) := by
 subst e
 unfold pmL
 rw [tx_split (mb_sorted h).1, List.length_append, List.length_singleton, Nat.add_sub_cancel, List.take_append_of_le_length (Nat.le_refl _), List.take_length]
theorem pm_word {s x : ByteArray} {i : Nat} (hx : (pmL s)[i]? = some x) : ∀ l, mb l = true → mlText l = s → ∃ m, l[i]? = some m ∧ i < l.length ∧ l.length ≤ 20 ∧ okr m = true ∧ splitB1 x 32 = [⟨#[109, 97, 105, 108]⟩, itoaB m.Turn, itoaB m.Side, itoaB m.Seal] := fun l h e => by
 rw [pm_lines h e, List.getElem?_map, Option.map_eq_some_iff] at hx
 obtain ⟨m, hm, rfl⟩ := hx
 have hk := (mb_sorted h).1 m (List.mem_of_getElem? hm)
 exact ⟨m, hm, (List.getElem?_eq_some_iff.1 hm).1, mb_len h, hk, ln_split hk⟩
theorem pm_size {s x : ByteArray} (h : x ∈ pmL s) : x.size ≤ s.size := split_size (List.mem_of_mem_take h)
def PmI (s : ByteArray) (t2 : Int) (l3 : List Gi_Mail) : Prop := 0 ≤ t2 ∧ t2 ≤ (pmL s).length ∧ (l3.length : Int) ≤ t2 ∧ ∀ l, mb l = true → mlText l = s → l3 = l.take t2.toNat
theorem pm_end {s : ByteArray} {t2 : Int} {l3 : List Gi_Mail} (h : PmI s t2 l3) (c : ¬ t2 < ((pmL s).length : Int)) : ∀ l, mb l = true → mlText l = s → l3 = l := fun l k e => by
 obtain ⟨h0, h1, h2, h3⟩ := h
 have hl := pm_lines k e
 have : (pmL s).length = l.length := by rw [hl, List.length_map]
 rw [h3 l k e, List.take_of_length_le (by omega)]
theorem pm_next {s : ByteArray} {t2 : Int} {l3 : List Gi_Mail} {x : Gi_Mail} (h : PmI s t2 l3) (c : t2 < ((pmL s).length : Int)) (hx : ∀ l, mb l = true → mlText l = s → l[t2.toNat]? = some x) : PmI s (t2 + 1) (l3 ++ [x]) := by
 obtain ⟨h0, h1, h2, h3⟩ := h
 refine ⟨by omega, by omega, by rw [List.length_append, List.length_singleton]; omega, fun l k e => ?_⟩
 rw [h3 l k e, show (t2 + 1).toNat = t2.toNat + 1 by omega, List.take_add_one, hx l k e]
 rfl
theorem pm_len {s : ByteArray} (hs : s.size ≤ 1048576) : (pmL s).length ≤ 1048576 := by
 have := split_len s 10
 unfold pmL
 rw [List.length_take]
 omega
theorem parse_i {s : ByteArray} (hs : s.size ≤ 1048576) : Ok (Di_ParseMail s) (PmQ s) := by
 have hL := split_len s 10
 have hP := pm_len hs
 have e10 : Dstrings_Split s ⟨#[10]⟩ = some (splitB1 s 10) := if_pos ⟨by omega, rfl⟩
 unfold Di_ParseMail
 refine Ok.eq e10 ?_
 rw [w64 (n := ((splitB1 s 10).length : Int) - 1) (by omega)]
 refine Ok.chk (by omega) (Ok.chk (by omega) ?_)
 have e1 : Int.toNat (((splitB1 s 10).length : Int) - 1) - 0 = (splitB1 s 10).length - 1 := by omega
 rw [e1, List.drop_zero]
 refine Ok.loop (B := Bi_ParseMail) (fun | .h1 s0 t1 t2 l3 l4 => s0 = s ∧ t1 = ((pmL s).length : Int) ∧ l4 = pmL s ∧ PmI s t2 l3) (fun | .h1 s0 t1 t2 l3 l4 => ((pmL s).length - t2).toNat) (fun st hI => ?_) ⟨rfl, by unfold pmL; rw [List.length_take]; omega, rfl, by omega, by omega, by simp, fun l _ _ => by simp⟩
 match st, hI with
 | .h1 s0 t1 t2 l3 l4, ⟨a1, a2, a3, hI⟩ =>
  subst a1 a2 a3
  have h0 := hI.1
  have h2 := hI.2.2.1
  have h1 := hI.2.1
  simp only [Bi_ParseMail]
  refine Ok.ite (fun c => ?_) fun c => ?_
  ·refine Ok.chk h0 (Ok.get (by omega) fun x hx hm => ?_)
   have hz := pm_size hm
   have hw := pm_word hx
   have e32 : Dstrings_Split x ⟨#[32]⟩ = some (splitB1 x 32) := if_pos ⟨by omega, rfl⟩
   have hsz : ∀ y ∈ splitB1 x 32, y.size ≤ 1048576 := fun y hy => Nat.le_trans (split_size hy) (by omega)
   refine Ok.eq e32 ?_
   generalize splitB1 x 32 = r4 at hw hsz
   refine Ok.ite (fun c4 => ?_) fun c4 => Ok.ret (pm_rej fun l k e => by obtain ⟨m, _, _, _, _, hr⟩ := hw l k e; rw [hr] at c4; exact c4 rfl)
   have h4 : r4.length = 4 := by omega
   refine Ok.ite (fun c20 => Ok.ret (pm_rej fun l k e => ?_)) fun c20 => ?_
   ·obtain ⟨m, _, g1, g2, _, _⟩ := hw l k e
    have := hI.2.2.2 l k e
    rw [this, List.length_take] at c20
    omega
   refine Ok.get (show Int.toNat 1 < r4.length by rw [h4]; decide) fun x7 hx7 hm7 => ?_
   obtain ⟨r8, e8⟩ := readInt_ok (s := x7) (by have := hsz x7 hm7; omega)
   have g8 : ∀ l, mb l = true → mlText l = s0 → ∃ m, l[t2.toNat]? = some m ∧ okr m = true ∧ r8 = (m.Turn, true) ∧ r4 = [⟨#[109, 97, 105, 108]⟩, itoaB m.Turn, itoaB m.Side, itoaB m.Seal] := fun l k e => by
    obtain ⟨m, f1, _, _, f2, f3⟩ := hw l k e
    have hb := okr_all f2
    rw [f3] at hx7
    obtain rfl : itoaB m.Turn = x7 := Option.some.inj hx7
    rw [readInt_b (by omega) (by omega)] at e8
    exact ⟨m, f1, f2, (Option.some.inj e8).symm, f3⟩
   refine Ok.eq e8 (Ok.ite (fun c8 => ?_) fun c8 => ?_)
   ·refine Ok.get (show Int.toNat 2 < r4.length by rw [h4]; decide) fun x10 hx10 hm10 => ?_
    obtain ⟨r11, e11⟩ := readInt_ok (s := x10) (by have := hsz x10 hm10; omega)
    have g11 : ∀ l, mb l = true → mlText l = s0 → ∃ m, l[t2.toNat]? = some m ∧ okr m = true ∧ r8 = (m.Turn, true) ∧ r11 = (m.Side, true) ∧ r4 = [⟨#[109, 97, 105, 108]⟩, itoaB m.Turn, itoaB m.Side, itoaB m.Seal] := fun l k e => by
     obtain ⟨m, f1, f2, f4, f3⟩ := g8 l k e
     have hb := okr_all f2
     rw [f3] at hx10
     obtain rfl : itoaB m.Side = x10 := Option.some.inj hx10
     rw [readInt_b (by omega) (by omega)] at e11
     exact ⟨m, f1, f2, f4, (Option.some.inj e11).symm, f3⟩
    refine Ok.eq e11 (Ok.ite (fun c11 => ?_) fun c11 => ?_)
    ·refine Ok.get (show Int.toNat 3 < r4.length by rw [h4]; decide) fun x13 hx13 hm13 => ?_
     have e14 := atoi_some (s := x13) (by have := hsz x13 hm13; omega)
     have g14 : ∀ l, mb l = true → mlText l = s0 → ∃ m, l[t2.toNat]? = some m ∧ r8 = (m.Turn, true) ∧ r11 = (m.Side, true) ∧ (atoiV x13, atoiE x13) = (m.Seal, false) := fun l k e => by
      obtain ⟨m, f1, f2, f4, f5, f3⟩ := g11 l k e
      have hb := okr_all f2
      rw [f3] at hx13
      obtain rfl : itoaB m.Seal = x13 := Option.some.inj hx13
      rw [atoiB (by omega) (by omega)] at e14
      exact ⟨m, f1, f4, f5, (Option.some.inj e14).symm⟩
     refine Ok.eq e14 (Ok.ite (fun c14 => Ok.ret (pm_rej fun l k e => ?_)) fun c14 => ?_)
     ·obtain ⟨m, _, _, _, f⟩ := g14 l k e
      rw [f] at c14
      cases c14
     ·refine Ok.chk (by rw [List.length_append, List.length_singleton]; omega) (Ok.ret ?_)
      rw [w64 (n := t2 + 1) (by omega)]
      refine ⟨⟨rfl, rfl, rfl, pm_next hI c fun l k e => ?_⟩, by dsimp only; omega⟩
      obtain ⟨m, f1, rfl, rfl, f⟩ := g14 l k e
      rw [f1]
      have : atoiV x13 = m.Seal := congrArg Prod.fst f
      rw [this]
    ·refine Ok.get (show Int.toNat 3 < r4.length by rw [h4]; decide) fun x13 hx13 hm13 => ?_
     refine Ok.eq (atoi_some (s := x13) (by have := hsz x13 hm13; omega)) (Ok.ret (pm_rej fun l k e => ?_))
     obtain ⟨m, _, _, _, rfl, _⟩ := g11 l k e
     exact c11 rfl
   ·refine Ok.get (show Int.toNat 2 < r4.length by rw [h4]; decide) fun x10 hx10 hm10 => ?_
    obtain ⟨r11, e11⟩ := readInt_ok (s := x10) (by have := hsz x10 hm10; omega)
    refine Ok.eq e11 (Ok.get (show Int.toNat 3 < r4.length by rw [h4]; decide) fun x13 hx13 hm13 => ?_)
    have e14 := atoi_some (s := x13) (by have := hsz x13 hm13; omega)
    refine Ok.eq e14 ?_
    have hrej : PmQ s0 ([], false) := pm_rej fun l k e => by
     obtain ⟨m, _, _, rfl, _⟩ := g8 l k e
     exact c8 rfl
    first | exact Ok.ret hrej | (split <;> exact Ok.ret hrej)
  ·have he := pm_end hI c
   refine Ok.eq (th12 l3 (by omega)) (Ok.ite (fun cm => ?_) fun cm => Ok.ret (pm_rej fun l k e => by rw [he l k e] at cm; exact cm k))
   refine Ok.eq (mailText_i cm) (Ok.ite (fun ct => Ok.ret (.inr ⟨rfl, cm, ct, he⟩)) fun ct => Ok.ret (pm_rej fun l k e => by rw [he l k e] at ct; exact ct e))
theorem parse_s {s : ByteArray} (hs : s.size ≤ 1048576) : Ok (Ds_ParseMail s) (PmQ s) := by
 have hL := split_len s 10
 have hP := pm_len hs
 have e10 : Ds_l1Split s 10 = some (splitB1 s 10) := spl_s (by omega) 10
 unfold Ds_ParseMail
 refine Ok.eq e10 ?_
 rw [w64 (n := ((splitB1 s 10).length : Int) - 1) (by omega)]
 refine Ok.chk (by omega) (Ok.chk (by omega) ?_)
 have e1 : Int.toNat (((splitB1 s 10).length : Int) - 1) - 0 = (splitB1 s 10).length - 1 := by omega
 rw [e1, List.drop_zero]
 refine Ok.loop (B := Bs_ParseMail) (fun | .h1 s0 t1 t2 l3 l4 => s0 = s ∧ t1 = ((pmL s).length : Int) ∧ l4 = pmL s ∧ PmI s t2 l3) (fun | .h1 s0 t1 t2 l3 l4 => ((pmL s).length - t2).toNat) (fun st hI => ?_) ⟨rfl, by unfold pmL; rw [List.length_take]; omega, rfl, by omega, by omega, by simp, fun l _ _ => by simp⟩
 match st, hI with
 | .h1 s0 t1 t2 l3 l4, ⟨a1, a2, a3, hI⟩ =>
  subst a1 a2 a3
  have h0 := hI.1
  have h2 := hI.2.2.1
  have h1 := hI.2.1
  simp only [Bs_ParseMail]
  refine Ok.ite (fun c => ?_) fun c => ?_
  ·refine Ok.chk h0 (Ok.get (by omega) fun x hx hm => ?_)
   have hz := pm_size hm
   have hw := pm_word hx
   have e32 : Ds_l1Split x 32 = some (splitB1 x 32) := spl_s (by omega) 32
   refine Ok.eq e32 ?_
   generalize splitB1 x 32 = r4 at hw
   refine Ok.ite (fun c4 => ?_) fun c4 => Ok.ret (pm_rej fun l k e => by obtain ⟨m, _, _, _, _, hr⟩ := hw l k e; rw [hr] at c4; exact c4 rfl)
   have h4 : r4.length = 4 := by omega
   refine Ok.get (show Int.toNat 3 < r4.length by rw [h4]; decide) fun x6 hx6 hm6 => ?_
   refine Ok.ite (fun c19 => Ok.ret (pm_rej fun l k e => ?_)) fun c19 => ?_
   ·obtain ⟨m, _, _, _, f2, f3⟩ := hw l k e
    have hb := okr_all f2
    rw [f3] at hx6
    obtain rfl : itoaB m.Seal = x6 := Option.some.inj hx6
    have := (seal_s (n := m.Seal) (by omega) (by omega)).2
    omega
   refine Ok.get (show Int.toNat 1 < r4.length by rw [h4]; decide) fun x8 hx8 hm8 => ?_
   obtain ⟨r9, e9⟩ := rd_ok x8
   refine Ok.eq e9 (Ok.get (show Int.toNat 2 < r4.length by rw [h4]; decide) fun x10 hx10 hm10 => ?_)
   obtain ⟨r11, e11⟩ := rd_ok x10
   refine Ok.eq e11 (Ok.get (show Int.toNat 3 < r4.length by rw [h4]; decide) fun x12 hx12 hm12 => ?_)
   obtain ⟨r13, e13⟩ := eDig_ok x12
   refine Ok.eq e13 (Ok.chk (by rw [List.length_append, List.length_singleton]; omega) (Ok.ret ?_))
   rw [w64 (n := t2 + 1) (by omega)]
   refine ⟨⟨rfl, rfl, rfl, pm_next hI c fun l k e => ?_⟩, by dsimp only; omega⟩
   obtain ⟨m, f1, _, _, f2, f3⟩ := hw l k e
   have hb := okr_all f2
   rw [f3] at hx8 hx10 hx12
   obtain rfl : itoaB m.Turn = x8 := Option.some.inj hx8
   obtain rfl : itoaB m.Side = x10 := Option.some.inj hx10
   obtain rfl : itoaB m.Seal = x12 := Option.some.inj hx12
   rw [rd_b (by omega) (by omega)] at e9 e11
   rw [(seal_s (by omega) (by omega)).1] at e13
   rw [f1, ← Option.some.inj e9, ← Option.some.inj e11, ← Option.some.inj e13]
  ·have he := pm_end hI c
   refine Ok.eq (th29 l3 (by omega)) (Ok.ite (fun cm => ?_) fun cm => Ok.ret (pm_rej fun l k e => by rw [he l k e] at cm; exact cm k))
   refine Ok.eq (nText_s cm) (Ok.ite (fun ct => Ok.ret (.inr ⟨rfl, cm, ct, he⟩)) fun ct => Ok.ret (pm_rej fun l k e => by rw [he l k e] at ct; exact ct e))
theorem pmQ_len {s : ByteArray} {r : List Gi_Mail × Bool} (h : PmQ s r) : r.1.length ≤ 20 := by
 rcases h with ⟨rfl, _⟩ | ⟨_, h, _⟩
 ·simp
 ·exact mb_len h
theorem lawParseMail (a0 : ByteArray) (hl : a0.size < 9223372036854775808) : Dw_FnExactParseMail a0 = some true := Ok.isTrue <| by
 unfold Dw_FnExactParseMail
 refine Ok.ite (fun _ => Ok.ret rfl) fun hn => ?_
 have hz : a0.size ≤ 1048576 := by omega
 obtain ⟨r2, e2, h2⟩ := parse_s hz
 obtain ⟨r3, e3, h3⟩ := parse_i hz
 obtain rfl := h2.eq h3
 have hlen := pmQ_len h2
 obtain ⟨l, ok⟩ := r2
 simp only at hlen
 have hm := markM l (by omega) 1 (by decide) (by decide)
 have hh := heldM l.length (by omega) 1 (by decide) (by decide)
 have he := th13 l (by omega)
 refine Ok.eq e2 (Ok.eq e3 (Ok.eq he (Ok.chk rfl (Ok.els (by simp) (Ok.eq hm (Ok.chk (marked_len ..) ?_))))))
 refine Ok.eq hh (Ok.els (by omega) (Ok.chk rfl ?_))
 refine Ok.eq e3 (Ok.eq he (Ok.chk rfl (Ok.els (by simp) ?_)))
 exact Ok.eq hh (Ok.els (by omega) (Ok.chk rfl (Ok.ret rfl)))

end Go.Proofs.YtogomlkoocbhcaaDoor.Ab
