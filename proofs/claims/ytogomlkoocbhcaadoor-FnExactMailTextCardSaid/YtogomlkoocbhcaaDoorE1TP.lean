/- Part of the proof of FnExactMailTextCard: no condition of its own. -/
import Derived.Test.YtogomlkoocbhcaaDoorE1TD
import Derived.Test.YtogomlkoocbhcaaDoorPuA
set_option linter.unusedVariables false
set_option linter.unusedSimpArgs false
open Go
namespace Go.Proofs.YtogomlkoocbhcaaDoor.Ab
def inr3 (n a b : Int) : Bool := decide (a ≤ n) && decide (n ≤ b)
theorem inr3_iff {n a b : Int} : inr3 n a b = true ↔ a ≤ n ∧ n ≤ b := by simp [inr3]
theorem th51 (n a b : Int) : Ds_l1In n a b = some (inr3 n a b) := by
 unfold Ds_l1In inr3; by_cases h : a ≤ n <;> simp [h]
theorem th38 (n a b : Int) : Di_inRange n a b = some (inr3 n a b) := by
 unfold Di_inRange inr3; by_cases h : a ≤ n <;> simp [h]
theorem th48 (n : Int) : Ds_dSeed n = some (inr3 n 0 4611686016279904236) := by simp [Ds_dSeed, th51]
theorem th33 (n : Int) : Di_isSeed n = some (inr3 n 0 4611686016279904236) := by simp [Di_isSeed, th38]
theorem th31 (n : Int) : Di_isTurn n = some (inr3 n 0 30) := by simp [Di_isTurn, th38]
theorem th32 (n : Int) : Di_isSide n = some (inr3 n 0 1) := by simp [Di_isSide, th38]

def toM (x : Gw_Mail) : Gi_Mail := ⟨x.Turn, x.Side, x.Seal⟩
theorem th11 (l : List Gw_Mail) (hl : l.length ≤ 1048576) : Dw_toMailS l = some (l.map toM) := by
 unfold Dw_toMailS
 rw [if_pos (by omega), Int.toNat_natCast]
 refine fill_loop (S := fun i out => Sw_toMailS.h1 l (i : Int) out) (fun i x y out hx hi hy => ?_) (fun out => ?_) _
 ·simp only [Bw_toMailS, Int.ofNat_lt, hi, if_true, Int.natCast_nonneg, Int.toNat_natCast, hx, hy, Option.bind_some, Dw_toMail, wsucc (show i < 9223372036854775807 by omega), toM]
 ·simp [Bw_toMailS]
theorem th13 (l : List Gi_Mail) (hl : l.length ≤ 1048576) : Dw_eqMailS l l = some true := by
 unfold Dw_eqMailS
 rw [if_pos rfl]
 refine true_loop (S := fun i => Sw_eqMailS.h1 l l (i : Int)) (n := l.length) (fun i hi => ?_) ?_
 ·simp [Bw_eqMailS, hi, Dw_eqMail, wsucc (show i < 9223372036854775807 by omega)]
 ·simp [Bw_eqMailS]
theorem th9 (l : List Gw_Mail) (hl : l.length < 9223372036854775808) : Dw_szMailS l 1048576 = some (if (1048576 : Int) - (l.length : Int) < 0 then (-1 : Int) else (1048576 : Int) - (l.length : Int)) := by
 unfold Dw_szMailS
 rw [w64 (by omega)]
 split <;> rfl

def mkey (x : Gi_Mail) : Int := 2 * x.Turn + x.Side
def okr (x : Gi_Mail) : Bool := inr3 x.Turn 0 30 && inr3 x.Side 0 1 && inr3 x.Seal 0 4611686016279904236
def okm (l : List Gi_Mail) (i : Nat) (x : Gi_Mail) : Bool := okr x && (if i = 0 then true else match l[i - 1]? with | some y => decide (mkey y < mkey x) | none => true)
def mb (l : List Gi_Mail) : Bool := alli (okm l) l && decide ((l.length : Int) ≤ 20)

theorem okr_lim {x : Gi_Mail} (h : okr x = true) : 0 ≤ x.Turn ∧ x.Turn ≤ 30 ∧ 0 ≤ x.Side ∧ x.Side ≤ 1 := by
 simp [okr, inr3_iff] at h
 omega
theorem th52 {x : Gi_Mail} (h : okr x = true) : Ds_nKey x = some (mkey x) := by
 have := okr_lim h
 unfold Ds_nKey mkey
 rw [w64 (n := 2 * x.Turn) (by omega), w64 (by omega)]
theorem th34 {x y : Gi_Mail} (h : okr x = true) (h' : okr y = true) : ∃ c, Di_compareMails x y = some c ∧ (c ≥ 0 ↔ ¬ mkey x < mkey y) := by
 have h1 := okr_lim h
 have h2 := okr_lim h'
 unfold Di_compareMails mkey
 split
 ·exact ⟨_, rfl, by rw [w64 (by omega)]; omega⟩
 ·exact ⟨_, rfl, by rw [w64 (by omega)]; omega⟩

theorem th29 (l : List Gi_Mail) (hl : l.length ≤ 1048576) : Ds_nMails l = some (mb l) := by
 unfold Ds_nMails mb
 refine all_loop2 (S := fun i => Ss_nMails.h1 l l (l.length : Int) (i : Int)) (fun i x hx hi hb => ?_) ?_
 ·simp only [Bs_nMails, Int.ofNat_lt, hi, if_true, Int.natCast_nonneg, Int.toNat_natCast, hx, Option.bind_some, wsucc (show i < 9223372036854775807 by omega), th51, th48, okm]
  by_cases h1 : inr3 x.Turn 0 30 = true
  ·by_cases h2 : inr3 x.Side 0 1 = true
   ·by_cases h3 : inr3 x.Seal 0 4611686016279904236 = true
    ·have hx' : okr x = true := by simp [okr, h1, h2, h3]
     simp only [h1, h2, h3, if_true, hx', Bool.true_and]
     by_cases h4 : i = 0
     ·subst h4; simp
     ·have h5 : i - 1 < l.length := by omega
      have hy := hb (i - 1) l[i - 1] (by omega) (List.getElem?_eq_getElem h5)
      simp only [okm, Bool.and_eq_true] at hy
      rw [if_pos (by omega), w64 (by omega), if_pos (by omega), show ((i : Int) - 1).toNat = i - 1 by omega, List.getElem?_eq_getElem h5, if_neg h4]
      simp only [Option.bind_some, th52 hy.1, th52 hx']
      by_cases h6 : mkey l[i - 1] < mkey x
      ·rw [if_neg (by omega)]; simp [h6]
      ·rw [if_pos (by omega)]; simp [h6]
    ·simp [h1, h2, h3, okr]
   ·simp [h1, h2, okr]
  ·simp [h1, okr]
 ·simp [Bs_nMails]

theorem th12 (l : List Gi_Mail) (hl : l.length ≤ 1048576) : Di_IsMailbox l = some (mb l) := by
 unfold Di_IsMailbox mb
 by_cases h0 : (l.length : Int) > 20
 ·rw [if_pos h0]
  simp [show ¬ (l.length : Int) ≤ 20 by omega]
 ·rw [if_neg h0, decide_eq_true (show (l.length : Int) ≤ 20 by omega), Bool.and_true]
  refine all_loop (S := fun i => Si_IsMailbox.h1 l l (l.length : Int) (i : Int)) (fun i x hx hi hb => ?_) ?_
  ·simp only [Bi_IsMailbox, Int.ofNat_lt, hi, if_true, Int.natCast_nonneg, Int.toNat_natCast, hx, Option.bind_some, wsucc (show i < 9223372036854775807 by omega), th31, th32, th33, okm]
   by_cases h1 : inr3 x.Turn 0 30 = true
   ·by_cases h2 : inr3 x.Side 0 1 = true
    ·by_cases h3 : inr3 x.Seal 0 4611686016279904236 = true
     ·have hx' : okr x = true := by simp [okr, h1, h2, h3]
      simp only [h1, h2, h3, if_true, hx', Bool.true_and]
      by_cases h4 : i = 0
      ·subst h4; simp
      ·have h5 : i - 1 < l.length := by omega
       have hy := hb (i - 1) l[i - 1] (by omega) (List.getElem?_eq_getElem h5)
       simp only [okm, Bool.and_eq_true] at hy
       obtain ⟨c, hc, hc'⟩ := th34 hy.1 hx'
       rw [if_pos (by omega), w64 (by omega), if_pos (by omega), show ((i : Int) - 1).toNat = i - 1 by omega, List.getElem?_eq_getElem h5, if_neg h4]
       simp only [Option.bind_some, hc]
       by_cases h6 : mkey l[i - 1] < mkey x
       ·rw [if_neg (fun h => hc'.1 h h6)]; simp [h6]
       ·rw [if_pos (hc'.2 h6)]; simp [h6]
     ·simp [h1, h2, h3, okr]
    ·simp [h1, h2, okr]
   ·simp [h1, okr]
  ·simp [Bi_IsMailbox]

theorem mb_sorted {l : List Gi_Mail} (h : mb l = true) : (∀ x ∈ l, okr x = true) ∧ ∀ (a b : Nat) (x y : Gi_Mail), a < b → l[a]? = some x → l[b]? = some y → mkey x < mkey y := by
 simp only [mb, Bool.and_eq_true] at h
 have h1 := alli_iff.1 h.1
 refine ⟨fun x hx => ?_, fun a b => ?_⟩
 ·obtain ⟨i, hi⟩ := List.getElem?_of_mem hx
  have := h1 i x hi
  simp only [okm, Bool.and_eq_true] at this
  exact this.1
 ·induction b with
  | zero => intro x y h; omega
  | succ b ih =>
   intro x y hab hx hy
   have h2 := h1 (b + 1) y hy
   have hb : b < l.length := by have := (List.getElem?_eq_some_iff.1 hy).1; omega
   simp only [okm, Bool.and_eq_true, Nat.add_sub_cancel, List.getElem?_eq_getElem hb] at h2
   have h3 : mkey l[b] < mkey y := by simpa using h2.2
   by_cases h4 : a = b
   ·subst h4
    rw [List.getElem?_eq_getElem hb] at hx
    cases hx
    exact h3
   ·have := ih x l[b] (by omega) hx (List.getElem?_eq_getElem hb)
    omega

theorem app_loop {σ α β ρ : Type} {B : σ → Option (σ ⊕ ρ)} {S : List β → Nat → σ} {l : List α} {g : α → β} {fin : List β → Option ρ}
  (hs : ∀ acc i x, l[i]? = some x → i < l.length → acc.length = i → B (S acc i) = some (.inl (S (acc ++ [g x]) (i + 1)))) (he : ∀ acc, acc.length = l.length → goOn (loop B) (B (S acc l.length)) = fin acc) :
  loop B (S [] 0) = fin (l.map g) := by
 have key : ∀ (k i : Nat), i + k = l.length → loop B (S ((l.take i).map g) i) = fin (l.map g) := by
  intro k
  induction k with
  | zero =>
   intro i h
   have : i = l.length := by omega
   subst this
   rw [loop_eq, List.take_length, he _ (by simp)]
  | succ k ih =>
   intro i h
   have hlt : i < l.length := by omega
   have hx := List.getElem?_eq_getElem hlt
   rw [loop_eq, hs _ i l[i] hx hlt (by simp; omega)]
   simp only [goOn]
   rw [show (l.take i).map g ++ [g l[i]] = (l.take (i + 1)).map g by rw [List.take_add_one, hx, List.map_append]; rfl]
   exact ih (i + 1) (by omega)
 simpa using key l.length 0 (by omega)
theorem mb_len {l : List Gi_Mail} (h : mb l = true) : l.length ≤ 20 := by
 simp only [mb, Bool.and_eq_true, decide_eq_true_eq] at h
 omega
def byL (b : ByteArray) : List UInt8 := b.data.toList
theorem by_ext {a b : ByteArray} (h : byL a = byL b) : a = b := ByteArray.ext (Array.toList_inj.1 h)
theorem byL_app (a b : ByteArray) : byL (a ++ b) = byL a ++ byL b := ByteArray.toList_data_append
theorem byL_mk (l : List UInt8) : byL ⟨l.toArray⟩ = l := rfl
theorem by_size (b : ByteArray) : ByteArray.size b = (byL b).length := by
 show b.data.size = b.data.toList.length
 simp
theorem by_one (x : Int) : byL (bytesOf [x]) = [UInt8.ofNat x.toNat] := by simp [byL, bytesOf]
theorem byL_itoa (n : Int) : byL (itoaB n) = Lib.itoa n := by unfold itoaB byL; simp
theorem wu8 {n : Int} (h : 0 ≤ n ∧ n < 256) : IntKind.wrap .u8 n = n := by
 simp only [IntKind.wrap, IntKind.bits, IntKind.signed]
 simp
 omega
theorem dec_small {u : Nat} (h : u < 10) : Lib.decDigits u = [UInt8.ofNat (48 + u)] := by rw [Lib.decDigits, dif_pos h]
theorem dec_big {u : Nat} (h : ¬ u < 10) : Lib.decDigits u = Lib.decDigits (u / 10) ++ [UInt8.ofNat (48 + u % 10)] := by rw [Lib.decDigits, dif_neg h]
theorem dec_len : ∀ (k u : Nat), u < 10 ^ (k + 1) → (Lib.decDigits u).length ≤ k + 1
 | 0, u, h => by rw [dec_small (by simpa using h)]; simp
 | k + 1, u, h => by
  by_cases c : u < 10
  ·rw [dec_small c]; simp
  ·rw [dec_big c, List.length_append]
   have := dec_len k (u / 10) (by rw [Nat.pow_succ] at h; omega)
   simp
   omega
theorem itoa_nn {n : Int} (h : 0 ≤ n) : Lib.itoa n = Lib.decDigits n.toNat := by unfold Lib.itoa; rw [if_neg (by omega)]
theorem itoa_len {n : Int} (h : -9223372036854775808 ≤ n ∧ n ≤ 9223372036854775807) : (Lib.itoa n).length ≤ 20 := by
 unfold Lib.itoa
 split
 ·have := dec_len 18 n.natAbs (by omega)
  simp
  omega
 ·have := dec_len 18 n.toNat (by omega)
  omega
theorem itoa_i {n : Int} (h : -9223372036854775808 ≤ n ∧ n ≤ 9223372036854775807) : Dstrconv_Itoa n = some (itoaB n) := if_pos h
theorem num_fs : ∀ (k f : Nat) (n : Int), k < f → k ≤ 18 → 0 ≤ n → n < (10 : Int) ^ (k + 1) → n ≤ 9223372036854775807 → Ds_l1Num f n = some (itoaB n) := by
 have small : ∀ (f : Nat) (n : Int), 0 < f → 0 ≤ n → n < 10 → Ds_l1Num f n = some (itoaB n) := fun f n hf h0 h1 => by
  obtain ⟨f, rfl⟩ : ∃ g, f = g + 1 := ⟨f - 1, by omega⟩
  show Fs_l1Num (Ds_l1Num f) n = _
  unfold Fs_l1Num
  rw [if_pos h1, w64 (by omega), wu8 (by omega), if_pos (by simp; omega)]
  congr 1
  refine by_ext ?_
  rw [byL_itoa, itoa_nn h0, dec_small (by omega), by_one, show (48 + n).toNat = 48 + n.toNat by omega]
 intro k
 induction k with
 | zero => intro f n hf _ h0 h1 _; exact small f n hf h0 (by simpa using h1)
 | succ k ih =>
  intro f n hf hk h0 h1 h2
  by_cases c : n < 10
  ·exact small f n (by omega) h0 c
  ·obtain ⟨f, rfl⟩ : ∃ g, f = g + 1 := ⟨f - 1, by omega⟩
   show Fs_l1Num (Ds_l1Num f) n = _
   unfold Fs_l1Num
   have hdv : IntKind.wrap .i64 (Int.tdiv n 10) = n / 10 := by rw [Int.tdiv_eq_ediv_of_nonneg h0, w64 (by omega)]
   have hm : Int.tmod n 10 = n % 10 := Int.tmod_eq_emod_of_nonneg h0
   have hr := ih f (n / 10) (by omega) (by omega) (by omega) (by rw [Int.pow_succ] at h1; omega) (by omega)
   have hl := itoa_len (n := n / 10) (by omega)
   have hs : ByteArray.size (itoaB (n / 10)) ≤ 20 := by rw [by_size, byL_itoa]; exact hl
   have hs1 : ∀ x : Int, ByteArray.size (bytesOf [x]) = 1 := fun x => by rw [by_size, by_one]; rfl
   rw [if_neg c, hdv, hr, Option.bind_some, hm, w64 (by omega), wu8 (by omega), if_pos (by simp; omega), hs1, if_pos (by omega)]
   congr 1
   refine by_ext ?_
   rw [byL_app, byL_itoa, byL_itoa, itoa_nn h0, itoa_nn (show 0 ≤ n / 10 by omega), dec_big (u := n.toNat) (by omega)]
   rw [by_one, show (n / 10).toNat = n.toNat / 10 by omega, show (48 + n % 10).toNat = 48 + n.toNat % 10 by omega]
theorem num_s {n : Int} (h0 : 0 ≤ n) (h1 : n ≤ 9223372036854775807) : Ds_l1Num 100 n = some (itoaB n) := num_fs 18 100 n (by omega) (by omega) h0 (by omega) h1
def wordsB (w : ByteArray) (l : List Int) : ByteArray := joinB (w :: l.map itoaB) ⟨#[32]⟩
theorem byL_words (w : ByteArray) (l : List Int) : byL (wordsB w l) = byL w ++ (l.map fun n => 32 :: Lib.itoa n).flatten := by
 unfold wordsB joinB
 rw [byL_mk, List.map_cons, Lib.join_cons]
 unfold Lib.joinTail byL
 rw [List.map_map, List.map_map]
 rfl
def I64 (n : Int) : Prop := -9223372036854775808 ≤ n ∧ n ≤ 9223372036854775807
theorem words_len {l : List Int} (hl : ∀ n ∈ l, I64 n) : ((l.map fun n => (32 : UInt8) :: Lib.itoa n).flatten).length ≤ 21 * l.length := by
 induction l with
 | nil => simp
 | cons n l ih =>
  have h1 := ih fun m hm => hl m (List.mem_cons_of_mem _ hm)
  have h2 := itoa_len (hl n (List.mem_cons_self ..))
  simp only [List.map_cons, List.flatten_cons, List.length_append, List.length_cons]
  omega
theorem words_i {w : ByteArray} {l : List Int} (hw : w.size ≤ 2000000) (hn : l.length ≤ 2000000) (hl : ∀ n ∈ l, I64 n) : Di_wordsText w l = some (wordsB w l) := by
 unfold Di_wordsText
 have key := app_loop (B := Bi_wordsText) (S := fun acc i => .h1 l (l.length : Int) (i : Int) (w :: acc)) (l := l) (g := itoaB) (fin := fun acc => (Dstrings_Join (w :: acc) ⟨#[32]⟩).bind fun r => some r) (fun acc i x hx hi ha => by
  have e := itoa_i (hl x (List.mem_of_getElem? hx))
  simp (disch := omega) only [Bi_wordsText, if_pos, Int.toNat_natCast, hx, e, Option.bind_some, wsucc, List.length_append, List.length_singleton, List.length_cons, List.length_nil, List.cons_append]) fun acc ha => by
  simp (disch := omega) only [Bi_wordsText, if_neg]
  cases Dstrings_Join (w :: acc) ⟨#[32]⟩ <;> rfl
 refine Eq.trans key ?_
 have hj : Dstrings_Join (w :: l.map itoaB) ⟨#[32]⟩ = some (wordsB w l) := by
  refine if_pos ⟨by simp; omega, ?_⟩
  have h1 : byL (wordsB w l) = Lib.join ((w :: l.map itoaB).map (·.data.toList)) (ByteArray.mk #[32]).data.toList := rfl
  rw [← h1, byL_words, List.length_append, ← by_size]
  have := words_len hl
  omega
 rw [hj]
 rfl
theorem words_size {w : ByteArray} {l : List Int} (hl : ∀ n ∈ l, I64 n) : (wordsB w l).size ≤ w.size + 21 * l.length := by
 rw [by_size, byL_words, List.length_append, ← by_size]
 have := words_len hl
 omega
theorem cat_loop {σ α ρ : Type} {B : σ → Option (σ ⊕ ρ)} {S : ByteArray → Nat → σ} {l : List α} {g : α → ByteArray} {fin : ByteArray → Option ρ} {K : Nat} {a0 : ByteArray}
  (hs : ∀ acc i x, l[i]? = some x → i < l.length → ByteArray.size acc ≤ ByteArray.size a0 + K * i → B (S acc i) = some (.inl (S (acc ++ g x) (i + 1))) ∧ ByteArray.size (g x) ≤ K) (he : ∀ acc, ByteArray.size acc ≤ ByteArray.size a0 + K * l.length → goOn (loop B) (B (S acc l.length)) = fin acc) :
  loop B (S a0 0) = fin (l.foldl (fun o x => o ++ g x) a0) := by
 have key : ∀ (k i : Nat) acc, i + k = l.length → ByteArray.size acc ≤ ByteArray.size a0 + K * i → loop B (S acc i) = fin ((l.drop i).foldl (fun o x => o ++ g x) acc) := by
  intro k
  induction k with
  | zero =>
   intro i acc h ha
   have : i = l.length := by omega
   subst this
   rw [loop_eq, he _ ha, List.drop_of_length_le (Nat.le_refl _)]
   rfl
  | succ k ih =>
   intro i acc h ha
   have hlt : i < l.length := by omega
   have hx := List.getElem?_eq_getElem hlt
   obtain ⟨h1, h2⟩ := hs _ i l[i] hx hlt ha
   rw [loop_eq, h1, List.drop_eq_getElem_cons hlt]
   simp only [goOn, List.foldl_cons]
   exact ih (i + 1) _ (by omega) (by rw [ByteArray.size_append, Nat.mul_succ]; omega)
 simpa using key l.length 0 a0 (by omega) (by simp)
def mlLine (x : Gi_Mail) : ByteArray := wordsB ⟨#[109, 97, 105, 108]⟩ [x.Turn, x.Side, x.Seal] ++ ⟨#[10]⟩
def mlText (l : List Gi_Mail) : ByteArray := l.foldl (fun o x => o ++ mlLine x) ⟨#[]⟩
theorem okr_all {x : Gi_Mail} (h : okr x = true) : (0 ≤ x.Turn ∧ x.Turn ≤ 30) ∧ (0 ≤ x.Side ∧ x.Side ≤ 1) ∧ 0 ≤ x.Seal ∧ x.Seal ≤ 4611686016279904236 := by
 unfold okr at h
 simp only [Bool.and_eq_true, inr3_iff] at h
 exact ⟨h.1.1, h.1.2, h.2⟩
theorem mail_i64 {x : Gi_Mail} (h : okr x = true) : ∀ n ∈ [x.Turn, x.Side, x.Seal], I64 n := fun n hn => by
 have := okr_all h
 unfold I64
 simp only [List.mem_cons, List.not_mem_nil, or_false] at hn
 rcases hn with rfl | rfl | rfl <;> omega
theorem mlLine_size {x : Gi_Mail} (h : okr x = true) : (mlLine x).size ≤ 68 := by
 unfold mlLine
 rw [ByteArray.size_append]
 have := words_size (w := ⟨#[109, 97, 105, 108]⟩) (mail_i64 h)
 have e1 : (ByteArray.mk #[109, 97, 105, 108]).size = 4 := rfl
 have e2 : (ByteArray.mk #[10]).size = 1 := rfl
 simp only [List.length_cons, List.length_nil] at this
 omega
theorem mailText_i {l : List Gi_Mail} (h : mb l = true) : Di_mailText l = some (mlText l) := by
 have hn := mb_len h
 have hr := (mb_sorted h).1
 unfold Di_mailText
 have key := cat_loop (B := Bi_mailText) (S := fun acc i => .h1 acc l (l.length : Int) (i : Int)) (l := l) (g := mlLine) (fin := fun acc => some acc) (K := 68) (a0 := ⟨#[]⟩) (fun acc i x hx hi ha => by
  have hk := hr x (List.mem_of_getElem? hx)
  have e := words_i (w := ⟨#[109, 97, 105, 108]⟩) (by decide) (by simp) (mail_i64 hk)
  have hs := mlLine_size hk
  have hs2 := words_size (w := ⟨#[109, 97, 105, 108]⟩) (mail_i64 hk)
  have e0 : (ByteArray.mk #[]).size = 0 := rfl
  have e1 : (ByteArray.mk #[109, 97, 105, 108]).size = 4 := rfl
  have e2 : (ByteArray.mk #[10]).size = 1 := rfl
  simp only [List.length_cons, List.length_nil] at hs2
  unfold mlLine at hs
  refine ⟨?_, hs⟩
  simp (disch := omega) only [Bi_mailText, if_pos, Int.toNat_natCast, hx, e, Option.bind_some, wsucc]
  rfl) fun acc ha => by
  simp (disch := omega) only [Bi_mailText, if_neg, goOn]
 exact key
theorem mlLine_s (x : Gi_Mail) : (((((⟨#[109, 97, 105, 108, 32]⟩ ++ itoaB x.Turn) ++ ⟨#[32]⟩) ++ itoaB x.Side) ++ ⟨#[32]⟩) ++ itoaB x.Seal) ++ ⟨#[10]⟩ = mlLine x := by
 unfold mlLine
 refine by_ext ?_
 simp only [byL_app, byL_words, byL_itoa]
 simp [byL]
theorem nText_s {l : List Gi_Mail} (h : mb l = true) : Ds_nText l = some (mlText l) := by
 have hn := mb_len h
 have hr := (mb_sorted h).1
 unfold Ds_nText
 have key := cat_loop (B := Bs_nText) (S := fun acc i => .h1 acc l (l.length : Int) (i : Int)) (l := l) (g := mlLine) (fin := fun acc => some acc) (K := 68) (a0 := ⟨#[]⟩) (fun acc i x hx hi ha => by
  have hk := hr x (List.mem_of_getElem? hx)
  have hb := okr_all hk
  have i1 := num_s (n := x.Turn) (by omega) (by omega)
  have i2 := num_s (n := x.Side) (by omega) (by omega)
  have i3 := num_s (n := x.Seal) (by omega) (by omega)
  have hs := mlLine_size hk
  have q1 : (itoaB x.Turn).size ≤ 20 := by rw [by_size, byL_itoa]; exact itoa_len (by omega)
  have q2 : (itoaB x.Side).size ≤ 20 := by rw [by_size, byL_itoa]; exact itoa_len (by omega)
  have q3 : (itoaB x.Seal).size ≤ 20 := by rw [by_size, byL_itoa]; exact itoa_len (by omega)
  have e0 : (ByteArray.mk #[]).size = 0 := rfl
  have e1 : (ByteArray.mk #[109, 97, 105, 108, 32]).size = 5 := rfl
  have e2 : (ByteArray.mk #[10]).size = 1 := rfl
  have e3 : (ByteArray.mk #[32]).size = 1 := rfl
  refine ⟨?_, hs⟩
  have e4 := mlLine_s x
  rw [← e4]
  rw [← e4] at hs
  simp only [Bs_nText, Int.toNat_natCast, hx, i1, i2, i3, Option.bind_some]
  generalize itoaB x.Turn = t at *
  generalize itoaB x.Side = s at *
  generalize itoaB x.Seal = u at *
  simp only [ByteArray.size_append] at hs ⊢
  rw [if_pos (by omega), if_pos (by omega), if_pos (by omega), if_pos (by omega), if_pos (by omega), if_pos (by omega), if_pos (by omega), if_pos (by omega), if_pos (by omega), wsucc (by omega)]) fun acc ha => by
  simp (disch := omega) only [Bs_nText, if_neg, goOn]
 exact key
def mtR (l : List Gi_Mail) : ByteArray × Bool := if mb l = true then (mlText l, true) else (⟨#[]⟩, false)
theorem mtR_i {l : List Gi_Mail} (hl : l.length ≤ 1048576) : Di_MailText l = some (mtR l) := by
 unfold Di_MailText mtR
 rw [th12 l hl, Option.bind_some]
 by_cases c : mb l = true
 ·rw [if_pos c, if_pos c, mailText_i c]; rfl
 ·rw [if_neg c, if_neg c]
theorem mtR_s {l : List Gi_Mail} (hl : l.length ≤ 1048576) : Ds_MailText l = some (mtR l) := by
 unfold Ds_MailText mtR
 rw [th29 l hl, Option.bind_some]
 by_cases c : mb l = true
 ·rw [if_pos c, if_pos c, nText_s c]; rfl
 ·rw [if_neg c, if_neg c]
theorem lawMailText (l : List Gw_Mail) (hl : l.length < 9223372036854775808) : Dw_FnExactMailText l = some true := by
 unfold Dw_FnExactMailText
 rw [th9 l hl]
 simp only [Option.bind_some]
 by_cases hn : (1048576 : Int) - (l.length : Int) < 0
 ·rw [if_pos hn]; rfl
 ·have hl' : l.length ≤ 1048576 := by omega
  have hm : (l.map toM).length ≤ 1048576 := by simpa using hl'
  rw [if_neg hn, if_neg hn, th11 l hl', Option.bind_some, mtR_s hm, Option.bind_some, Option.bind_some, mtR_i hm, Option.bind_some, if_pos rfl, if_neg (by simp), Option.bind_some, th13 _ hm]
  rfl

end Go.Proofs.YtogomlkoocbhcaaDoor.Ab
