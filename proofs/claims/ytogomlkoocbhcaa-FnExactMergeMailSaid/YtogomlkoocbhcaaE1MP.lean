/- Part of the proof of FnExactMergeMail: no condition of its own. -/
import Derived.Test.YtogomlkoocbhcaaE1MD
import Derived.Test.YtogomlkoocbhcaaPuA
set_option linter.unusedVariables false
set_option linter.unusedSimpArgs false
open Go
namespace Go.Proofs.Ytogomlkoocbhcaa.Ab
def inr3 (n a b : Int) : Bool := decide (a ≤ n) && decide (n ≤ b)
theorem inr3_iff {n a b : Int} : inr3 n a b = true ↔ a ≤ n ∧ n ≤ b := by simp [inr3]
theorem th51 (n a b : Int) : Ds_l1In n a b = some (inr3 n a b) := by
 unfold Ds_l1In inr3; by_cases h : a ≤ n <;> simp [h]
theorem th38 (n a b : Int) : Di_inRange n a b = some (inr3 n a b) := by
 unfold Di_inRange inr3; by_cases h : a ≤ n <;> simp [h]
theorem th48 (n : Int) : Ds_dSeed n = some (inr3 n 0 4611686016279904236) := by simp [Ds_dSeed, th51]
theorem th33 (n : Int) : Di_isSeed n = some (inr3 n 0 4611686016279904236) := by simp [Di_isSeed, th38]
theorem th31 (n : Int) : Di_isTurn n = some (inr3 n 0 30) := by simp [Di_isTurn, th38]
theorem th32 (n : Int) : Di_isSide n = some (inr3 n 0 1) := by simp [Di_isSide, th38]

def toM (x : Gw_Mail) : Gi_Mail := ⟨x.Turn, x.Side, x.Seal⟩
theorem th11 (l : List Gw_Mail) (hl : l.length ≤ 1048576) : Dw_toMailS l = some (l.map toM) := by
 unfold Dw_toMailS
 rw [if_pos (by omega), Int.toNat_natCast]
 refine fill_loop (S := fun i out => Sw_toMailS.h1 l (i : Int) out) (fun i x y out hx hi hy => ?_) (fun out => ?_) _
 ·simp only [Bw_toMailS, Int.ofNat_lt, hi, if_true, Int.natCast_nonneg, Int.toNat_natCast, hx, hy, Option.bind_some, Dw_toMail, wsucc (show i < 9223372036854775807 by omega), toM]
 ·simp [Bw_toMailS]
theorem th13 (l : List Gi_Mail) (hl : l.length ≤ 1048576) : Dw_eqMailS l l = some true := by
 unfold Dw_eqMailS
 rw [if_pos rfl]
 refine true_loop (S := fun i => Sw_eqMailS.h1 l l (i : Int)) (n := l.length) (fun i hi => ?_) ?_
 ·simp [Bw_eqMailS, hi, Dw_eqMail, wsucc (show i < 9223372036854775807 by omega)]
 ·simp [Bw_eqMailS]
def mkey (x : Gi_Mail) : Int := 2 * x.Turn + x.Side
def okr (x : Gi_Mail) : Bool := inr3 x.Turn 0 30 && inr3 x.Side 0 1 && inr3 x.Seal 0 4611686016279904236
def okm (l : List Gi_Mail) (i : Nat) (x : Gi_Mail) : Bool := okr x && (if i = 0 then true else match l[i - 1]? with | some y => decide (mkey y < mkey x) | none => true)
def mb (l : List Gi_Mail) : Bool := alli (okm l) l && decide ((l.length : Int) ≤ 20)

theorem okr_lim {x : Gi_Mail} (h : okr x = true) : 0 ≤ x.Turn ∧ x.Turn ≤ 30 ∧ 0 ≤ x.Side ∧ x.Side ≤ 1 := by
 simp [okr, inr3_iff] at h
 omega
theorem th52 {x : Gi_Mail} (h : okr x = true) : Ds_nKey x = some (mkey x) := by
 have := okr_lim h
 unfold Ds_nKey mkey
 rw [w64 (n := 2 * x.Turn) (by omega), w64 (by omega)]
theorem th34 {x y : Gi_Mail} (h : okr x = true) (h' : okr y = true) : ∃ c, Di_compareMails x y = some c ∧ (c ≥ 0 ↔ ¬ mkey x < mkey y) := by
 have h1 := okr_lim h
 have h2 := okr_lim h'
 unfold Di_compareMails mkey
 split
 ·exact ⟨_, rfl, by rw [w64 (by omega)]; omega⟩
 ·exact ⟨_, rfl, by rw [w64 (by omega)]; omega⟩

theorem th29 (l : List Gi_Mail) (hl : l.length ≤ 1048576) : Ds_nMails l = some (mb l) := by
 unfold Ds_nMails mb
 refine all_loop2 (S := fun i => Ss_nMails.h1 l l (l.length : Int) (i : Int)) (fun i x hx hi hb => ?_) ?_
 ·simp only [Bs_nMails, Int.ofNat_lt, hi, if_true, Int.natCast_nonneg, Int.toNat_natCast, hx, Option.bind_some, wsucc (show i < 9223372036854775807 by omega), th51, th48, okm]
  by_cases h1 : inr3 x.Turn 0 30 = true
  ·by_cases h2 : inr3 x.Side 0 1 = true
   ·by_cases h3 : inr3 x.Seal 0 4611686016279904236 = true
    ·have hx' : okr x = true := by simp [okr, h1, h2, h3]
     simp only [h1, h2, h3, if_true, hx', Bool.true_and]
     by_cases h4 : i = 0
     ·subst h4; simp
     ·have h5 : i - 1 < l.length := by omega
      have hy := hb (i - 1) l[i - 1] (by omega) (List.getElem?_eq_getElem h5)
      simp only [okm, Bool.and_eq_true] at hy
      rw [if_pos (by omega), w64 (by omega), if_pos (by omega), show ((i : Int) - 1).toNat = i - 1 by omega, List.getElem?_eq_getElem h5, if_neg h4]
      simp only [Option.bind_some, th52 hy.1, th52 hx']
      by_cases h6 : mkey l[i - 1] < mkey x
      ·rw [if_neg (by omega)]; simp [h6]
      ·rw [if_pos (by omega)]; simp [h6]
    ·simp [h1, h2, h3, okr]
   ·simp [h1, h2, okr]
  ·simp [h1, okr]
 ·simp [Bs_nMails]

theorem th12 (l : List Gi_Mail) (hl : l.length ≤ 1048576) : Di_IsMailbox l = some (mb l) := by
 unfold Di_IsMailbox mb
 by_cases h0 : (l.length : Int) > 20
 ·rw [if_pos h0]
  simp [show ¬ (l.length : Int) ≤ 20 by omega]
 ·rw [if_neg h0, decide_eq_true (show (l.length : Int) ≤ 20 by omega), Bool.and_true]
  refine all_loop (S := fun i => Si_IsMailbox.h1 l l (l.length : Int) (i : Int)) (fun i x hx hi hb => ?_) ?_
  ·simp only [Bi_IsMailbox, Int.ofNat_lt, hi, if_true, Int.natCast_nonneg, Int.toNat_natCast, hx, Option.bind_some, wsucc (show i < 9223372036854775807 by omega), th31, th32, th33, okm]
   by_cases h1 : inr3 x.Turn 0 30 = true
   ·by_cases h2 : inr3 x.Side 0 1 = true
    ·by_cases h3 : inr3 x.Seal 0 4611686016279904236 = true
     ·have hx' : okr x = true := by simp [okr, h1, h2, h3]
      simp only [h1, h2, h3, if_true, hx', Bool.true_and]
      by_cases h4 : i = 0
      ·subst h4; simp
      ·have h5 : i - 1 < l.length := by omega
       have hy := hb (i - 1) l[i - 1] (by omega) (List.getElem?_eq_getElem h5)
       simp only [okm, Bool.and_eq_true] at hy
       obtain ⟨c, hc, hc'⟩ := th34 hy.1 hx'
       rw [if_pos (by omega), w64 (by omega), if_pos (by omega), show ((i : Int) - 1).toNat = i - 1 by omega, List.getElem?_eq_getElem h5, if_neg h4]
       simp only [Option.bind_some, hc]
       by_cases h6 : mkey l[i - 1] < mkey x
       ·rw [if_neg (fun h => hc'.1 h h6)]; simp [h6]
       ·rw [if_pos (hc'.2 h6)]; simp [h6]
     ·simp [h1, h2, h3, okr]
    ·simp [h1, h2, okr]
   ·simp [h1, okr]
  ·simp [Bi_IsMailbox]

theorem th42 (l : List Gi_Mail) (hl : l.length ≤ 1048576) (hr : ∀ x ∈ l, okr x = true) (n : Int) : Ds_nFind l n = some (ix (fun x => decide (mkey x = n)) l) := by
 unfold Ds_nFind
 refine find_loop (S := fun i => Ss_nFind.h1 n l (l.length : Int) (i : Int)) (fun i x hx hi => ?_) ?_
 ·simp only [Bs_nFind, Int.ofNat_lt, hi, if_true, Int.natCast_nonneg, Int.toNat_natCast, hx, Option.bind_some, wsucc (show i < 9223372036854775807 by omega), th52 (hr x (List.mem_of_getElem? hx))]
  by_cases h1 : mkey x = n <;> simp [h1]
 ·simp [Bs_nFind]

theorem mb_sorted {l : List Gi_Mail} (h : mb l = true) : (∀ x ∈ l, okr x = true) ∧ ∀ (a b : Nat) (x y : Gi_Mail), a < b → l[a]? = some x → l[b]? = some y → mkey x < mkey y := by
 simp only [mb, Bool.and_eq_true] at h
 have h1 := alli_iff.1 h.1
 refine ⟨fun x hx => ?_, fun a b => ?_⟩
 ·obtain ⟨i, hi⟩ := List.getElem?_of_mem hx
  have := h1 i x hi
  simp only [okm, Bool.and_eq_true] at this
  exact this.1
 ·induction b with
  | zero => intro x y h; omega
  | succ b ih =>
   intro x y hab hx hy
   have h2 := h1 (b + 1) y hy
   have hb : b < l.length := by have := (List.getElem?_eq_some_iff.1 hy).1; omega
   simp only [okm, Bool.and_eq_true, Nat.add_sub_cancel, List.getElem?_eq_getElem hb] at h2
   have h3 : mkey l[b] < mkey y := by simpa using h2.2
   by_cases h4 : a = b
   ·subst h4
    rw [List.getElem?_eq_getElem hb] at hx
    cases hx
    exact h3
   ·have := ih x l[b] (by omega) hx (List.getElem?_eq_getElem hb)
    omega

theorem pw_inj {α : Type} {k : α → Int} : ∀ {l : List α}, l.Pairwise (fun a b => k a < k b) → ∀ a ∈ l, ∀ b ∈ l, k a = k b → a = b
 | [], _, a, ha, _, _, _ => absurd ha (by simp)
 | x :: l, h, a, ha, b, hb, e => by
  rw [List.pairwise_cons] at h
  rcases List.mem_cons.1 ha with ea | ha1 <;> rcases List.mem_cons.1 hb with eb | hb1
  ·rw [ea, eb]
  ·have := h.1 b hb1; rw [ea] at e; omega
  ·have := h.1 a ha1; rw [eb] at e; omega
  ·exact pw_inj h.2 a ha1 b hb1 e
theorem key_ext {α : Type} {k : α → Int} : ∀ {a b : List α}, a.Pairwise (fun x y => k x < k y) → b.Pairwise (fun x y => k x < k y) → (∀ x, x ∈ a ↔ x ∈ b) → a = b
 | [], [], _, _, _ => rfl
 | [], y :: s, _, _, h => absurd ((h y).2 (List.mem_cons_self ..)) (by simp)
 | x :: r, [], _, _, h => absurd ((h x).1 (List.mem_cons_self ..)) (by simp)
 | x :: r, y :: s, ha, hb, h => by
  rw [List.pairwise_cons] at ha hb
  have e : x = y := by
   rcases List.mem_cons.1 ((h x).1 (List.mem_cons_self ..)) with e | h1
   ·exact e
   ·rcases List.mem_cons.1 ((h y).2 (List.mem_cons_self ..)) with e | h2
    ·exact e.symm
    ·have := hb.1 x h1
     have := ha.1 y h2
     omega
  subst e
  rw [key_ext ha.2 hb.2 fun z => ?_]
  have hz := h z
  rw [List.mem_cons, List.mem_cons] at hz
  constructor
  ·intro h1
   rcases hz.1 (.inr h1) with e | h2
   ·subst e; have := ha.1 z h1; omega
   ·exact h2
  ·intro h1
   rcases hz.2 (.inr h1) with e | h2
   ·subst e; have := hb.1 z h1; omega
   ·exact h2
theorem srtF_mem {β : Type} {f : β → β → Option Int} {l : List β} {x : β} : x ∈ srtF f l ↔ x ∈ l := List.mem_mergeSort
theorem srtF_pw {β : Type} {f : β → β → Option Int} {l : List β} (h : SortOk f l) : (srtF f l).Pairwise fun a b => ltF f b a = false := by
 have e : srtF f l = (l.attach.mergeSort fun x y : { x : β // x ∈ l } => !ltF f y.1 x.1).map Subtype.val := by
  unfold srtF
  rw [List.map_mergeSort (f := Subtype.val) (s := fun x y => !ltF f y x) (fun a _ b _ => rfl)]
  simp
 rw [e, List.pairwise_map]
 refine (List.pairwise_mergeSort (fun a b c h1 h2 => ?_) (fun a b => ?_) _).imp fun {a b} h => by simpa using h
 ·simp only [Bool.not_eq_true'] at *
  exact h.ntr _ c.2 _ b.2 _ a.2 h2 h1
 ·cases hb : ltF f b.1 a.1 with
  | false => simp
  | true =>
   cases ha : ltF f a.1 b.1 with
   | false => simp
   | true => exact absurd (h.tr _ a.2 _ b.2 _ a.2 ha hb) (by rw [h.irr _ a.2]; simp)
def mlAt (l : List Gi_Mail) (k : Int) : Option Gi_Mail := l.find? fun x => decide (mkey x = k)
theorem ix_find {α : Type} (p : α → Bool) (l : List α) : (ix p l = -1 ∧ l.find? p = none) ∨ ∃ (i : Nat) (x : α), ix p l = (i : Int) ∧ l[i]? = some x ∧ l.find? p = some x := by
 unfold ix
 cases h : l.findIdx? p with
 | none =>
  refine .inl ⟨rfl, ?_⟩
  rw [List.find?_eq_none]
  intro x hx
  rw [List.findIdx?_eq_none_iff] at h
  simp [h x hx]
 | some i =>
  rw [List.findIdx?_eq_some_iff_getElem] at h
  obtain ⟨hi, hp, hn⟩ := h
  refine .inr ⟨i, l[i], rfl, List.getElem?_eq_getElem hi, ?_⟩
  rw [List.find?_eq_some_iff_getElem]
  exact ⟨hp, i, hi, rfl, fun j hj => by simpa using hn j hj⟩
theorem mb_pw {l : List Gi_Mail} (h : mb l = true) : l.Pairwise fun x y => mkey x < mkey y := by
 have h1 := (mb_sorted h).2
 rw [List.pairwise_iff_getElem]
 exact fun i j hi hj hij => h1 i j _ _ hij (List.getElem?_eq_getElem hi) (List.getElem?_eq_getElem hj)
theorem mb_len {l : List Gi_Mail} (h : mb l = true) : l.length ≤ 20 := by
 simp only [mb, Bool.and_eq_true, decide_eq_true_eq] at h
 omega
theorem mlAt_some {l : List Gi_Mail} {k : Int} {x : Gi_Mail} (h : mlAt l k = some x) : x ∈ l ∧ mkey x = k := by
 unfold mlAt at h
 exact ⟨List.mem_of_find?_eq_some h, by simpa using List.find?_some h⟩
theorem mlAt_none {l : List Gi_Mail} {k : Int} (h : mlAt l k = none) : ∀ x ∈ l, mkey x ≠ k := by
 unfold mlAt at h
 rw [List.find?_eq_none] at h
 exact fun x hx e => h x hx (by simpa using e)
theorem mlAt_mem {l : List Gi_Mail} (h : mb l = true) {x : Gi_Mail} (hx : x ∈ l) : mlAt l (mkey x) = some x := by
 cases e : mlAt l (mkey x) with
 | none => exact absurd rfl (mlAt_none e x hx)
 | some y =>
  obtain ⟨h1, h2⟩ := mlAt_some e
  rw [pw_inj (mb_pw h) y h1 x hx h2]
def outAt (a b : List Gi_Mail) (k : Nat) : Option Gi_Mail := match mlAt a k, mlAt b k with
 | some x, some y => if x.Seal = y.Seal then some x else none
 | some x, none => some x
 | none, some y => some y
 | none, none => none
def clAt (a b : List Gi_Mail) (k : Nat) : Option Gi_Mail := match mlAt a k, mlAt b k with
 | some x, some y => if x.Seal = y.Seal then none else some x
 | _, _ => none
theorem clAt_l {a b : List Gi_Mail} {k : Nat} (h : mlAt a k = none) : clAt a b k = none := by unfold clAt; rw [h]
theorem clAt_r {a b : List Gi_Mail} {k : Nat} (h : mlAt b k = none) : clAt a b k = none := by unfold clAt; rw [h]; split <;> first | rfl | simp_all
def mgR (a b : List Gi_Mail) : List Gi_Mail × List Gi_Mail × Bool :=
 if mb a = true ∧ mb b = true then (if ((List.range 62).filterMap (outAt a b)).length > 20 then ([], [], false) else ((List.range 62).filterMap (outAt a b), (List.range 62).filterMap (clAt a b), true)) else ([], [], false)
theorem fm_app {α β : Type} (f : α → Option β) (l : List α) (x : α) : (l ++ [x]).filterMap f = l.filterMap f ++ (f x).toList := by
 rw [List.filterMap_append]
 cases h : f x <;> simp [h]
theorem mg_s {a b : List Gi_Mail} (hla : a.length ≤ 1048576) (hlb : b.length ≤ 1048576) : Ds_MergeMail a b = some (mgR a b) := by
 unfold Ds_MergeMail mgR
 rw [th29 a hla, Option.bind_some]
 cases ha : mb a with
 | false => simp
 | true =>
 rw [if_pos rfl, th29 b hlb, Option.bind_some]
 cases hb : mb b with
 | false => simp
 | true =>
 rw [if_pos rfl, if_pos ⟨rfl, rfl⟩]
 have key : ∀ (n k : Nat), k + n = 62 → loop Bs_MergeMail (.h1 a b (k : Int) ((List.range k).filterMap (outAt a b)) ((List.range k).filterMap (clAt a b))) = some (if ((List.range 62).filterMap (outAt a b)).length > 20 then ([], [], false) else ((List.range 62).filterMap (outAt a b), (List.range 62).filterMap (clAt a b), true)) := by
  intro n
  induction n with
  | zero =>
   intro k hk
   have : k = 62 := by omega
   subst this
   rw [loop_eq]
   simp (disch := omega) only [Bs_MergeMail, if_neg]
   by_cases c : ((List.range 62).filterMap (outAt a b)).length > 20
   ·rw [if_pos (by omega), if_pos c]; rfl
   ·rw [if_neg (by omega), if_neg c]; rfl
  | succ n ih =>
   intro k hk
   have hih := ih (k + 1) (by omega)
   rw [List.range_succ, fm_app, fm_app] at hih
   rw [← hih, loop_eq]
   have l1 := List.length_filterMap_le (outAt a b) (List.range k)
   have l2 := List.length_filterMap_le (clAt a b) (List.range k)
   rw [List.length_range] at l1 l2
   generalize (List.range k).filterMap (outAt a b) = O at *
   generalize (List.range k).filterMap (clAt a b) = C at *
   have e1 := th42 a hla (mb_sorted ha).1 (k : Int)
   have e2 := th42 b hlb (mb_sorted hb).1 (k : Int)
   simp (disch := omega) only [Bs_MergeMail, if_pos, e1, e2, Option.bind_some]
   rcases ix_find (fun x => decide (mkey x = (k : Int))) a with ⟨i1, f1⟩ | ⟨i, x, i1, g1, f1⟩ <;> rcases ix_find (fun x => decide (mkey x = (k : Int))) b with ⟨i2, f2⟩ | ⟨j, y, i2, g2, f2⟩
   ·simp (disch := omega) only [i1, i2, if_neg, wsucc, goOn]
    rw [show outAt a b k = none by unfold outAt mlAt; rw [f1, f2], clAt_l (show mlAt a k = none from f1)]
    simp
   ·simp (disch := first | omega | (simp; omega)) only [i1, i2, if_pos, if_neg, wsucc, goOn, Int.toNat_natCast, g2, Option.bind_some]
    rw [show outAt a b k = some y by unfold outAt mlAt; rw [f1, f2], clAt_l (show mlAt a k = none from f1)]
    simp
   ·simp (disch := first | omega | (simp; omega)) only [i1, i2, if_pos, if_neg, wsucc, goOn, Int.toNat_natCast, g1, Option.bind_some]
    rw [show outAt a b k = some x by unfold outAt mlAt; rw [f1, f2], clAt_r (show mlAt b k = none from f2)]
    simp
   ·by_cases c : x.Seal = y.Seal
    ·simp (disch := first | omega | (simp; omega)) only [i1, i2, if_pos, wsucc, goOn, Int.toNat_natCast, g1, g2, Option.bind_some, c, if_true]
     rw [show outAt a b k = some x by unfold outAt mlAt; rw [f1, f2]; exact if_pos c, show clAt a b k = none by unfold clAt mlAt; rw [f1, f2]; exact if_pos c]
     simp
    ·simp (disch := first | omega | (simp; omega)) only [i1, i2, if_pos, wsucc, goOn, Int.toNat_natCast, g1, g2, Option.bind_some, c, if_false]
     rw [show outAt a b k = none by unfold outAt mlAt; rw [f1, f2]; exact if_neg c, show clAt a b k = some x by unfold clAt mlAt; rw [f1, f2]; exact if_neg c]
     simp
 exact key 62 0 (by omega)
def clB (b : List Gi_Mail) (x : Gi_Mail) : Bool := match mlAt b (mkey x) with
 | some y => !decide (y.Seal = x.Seal)
 | none => false
def mgL (a b : List Gi_Mail) : List Gi_Mail := (a.filter fun x => !clB b x) ++ b.filter fun y => (mlAt a (mkey y)).isNone
theorem cmp_lt {x y : Gi_Mail} (h : okr x = true) (h' : okr y = true) : ∃ c, Di_compareMails x y = some c ∧ (c < 0 ↔ mkey x < mkey y) ∧ (c = 0 ↔ mkey x = mkey y) := by
 have b1 := okr_lim h
 have b2 := okr_lim h'
 unfold Di_compareMails mkey
 by_cases c : x.Turn = y.Turn
 ·rw [if_pos c]
  refine ⟨_, rfl, ?_, ?_⟩ <;> rw [w64 (by omega)] <;> omega
 ·rw [if_neg c]
  refine ⟨_, rfl, ?_, ?_⟩ <;> rw [w64 (by omega)] <;> omega
theorem find_i {l : List Gi_Mail} (hl : l.length ≤ 1048576) (hr : ∀ x ∈ l, okr x = true) {x : Gi_Mail} (hx : okr x = true) : Di_MergeMail_1 l x = some (ix (fun y => decide (mkey y = mkey x)) l) := by
 unfold Di_MergeMail_1 Dslices_IndexFunc_i_Mail_i_MergeMail_1_1
 have key := find_loop (B := Bslices_IndexFunc_i_Mail_i_MergeMail_1_1) (S := fun i => .h1 l x (l.length : Int) (i : Int)) (l := l) (p := fun y => decide (mkey y = mkey x)) (fun i y hy hi => by
  obtain ⟨c, e1, _, e2⟩ := cmp_lt hx (hr y (List.mem_of_getElem? hy))
  simp (disch := omega) only [Bslices_IndexFunc_i_Mail_i_MergeMail_1_1, if_pos, Int.toNat_natCast, hy, Option.bind_some, Di_MergeMail_1_1, e1, wsucc]
  by_cases c0 : mkey y = mkey x
  ·rw [if_pos (by simpa using e2.2 c0.symm), if_pos (by simpa using c0)]
  ·rw [if_neg (by simpa using fun h => c0 (e2.1 h).symm), if_neg (by simpa using c0)]) (by simp [Bslices_IndexFunc_i_Mail_i_MergeMail_1_1])
 rw [show loop Bslices_IndexFunc_i_Mail_i_MergeMail_1_1 (.h1 l x ((l.length : Nat) : Int) 0) = some (ix (fun y => decide (mkey y = mkey x)) l) from key, Option.bind_some]
theorem mgL_ok {a b : List Gi_Mail} (ha : mb a = true) (hb : mb b = true) : SortOk Di_compareMails (mgL a b) := by
 have hr : ∀ x ∈ mgL a b, okr x = true := fun x hx => by
  unfold mgL at hx
  rcases List.mem_append.1 hx with hx | hx
  ·exact (mb_sorted ha).1 x (List.mem_filter.1 hx).1
  ·exact (mb_sorted hb).1 x (List.mem_filter.1 hx).1
 have hl : ∀ x ∈ mgL a b, ∀ y ∈ mgL a b, ltF Di_compareMails x y = decide (mkey x < mkey y) := fun x hx y hy => by
  obtain ⟨c, e1, e2, _⟩ := cmp_lt (hr x hx) (hr y hy)
  unfold ltF
  rw [e1, Option.getD_some]
  exact decide_eq_decide.2 e2
 have hn : (mgL a b).length ≤ 40 := by
  unfold mgL
  rw [List.length_append]
  have := List.length_filter_le (fun x => !clB b x) a
  have := List.length_filter_le (fun y => (mlAt a (mkey y)).isNone) b
  have := mb_len ha
  have := mb_len hb
  omega
 have htie : ∀ x ∈ mgL a b, ∀ y ∈ mgL a b, mkey x = mkey y → x = y := fun x hx y hy e => by
  unfold mgL at hx hy
  rcases List.mem_append.1 hx with hx | hx <;> rcases List.mem_append.1 hy with hy | hy
  ·exact pw_inj (mb_pw ha) x (List.mem_filter.1 hx).1 y (List.mem_filter.1 hy).1 e
  ·have := (List.mem_filter.1 hy).2
   rw [Option.isNone_iff_eq_none] at this
   exact absurd e (mlAt_none this x (List.mem_filter.1 hx).1)
  ·have := (List.mem_filter.1 hx).2
   rw [Option.isNone_iff_eq_none] at this
   exact absurd e.symm (mlAt_none this y (List.mem_filter.1 hy).1)
  ·exact pw_inj (mb_pw hb) x (List.mem_filter.1 hx).1 y (List.mem_filter.1 hy).1 e
 refine ⟨by omega, fun x hx y hy => ?_, fun x hx => ?_, fun x hx y hy z hz h1 h2 => ?_, fun x hx y hy z hz h1 h2 => ?_, fun x hx y hy h1 h2 => ?_⟩
 ·obtain ⟨c, e1, _⟩ := cmp_lt (hr x hx) (hr y hy)
  exact ⟨c, e1⟩
 ·rw [hl x hx x hx]; simp
 ·rw [hl x hx y hy] at h1; rw [hl y hy z hz] at h2; rw [hl x hx z hz]; simp at *; omega
 ·rw [hl x hx y hy] at h1; rw [hl y hy z hz] at h2; rw [hl x hx z hz]; simp at *; omega
 ·rw [hl x hx y hy] at h1; rw [hl y hy x hx] at h2
  simp at h1 h2
  exact htie x hx y hy (by omega)
theorem mgL_lt {a b : List Gi_Mail} (ha : mb a = true) (hb : mb b = true) {x y : Gi_Mail} (hx : x ∈ mgL a b) (hy : y ∈ mgL a b) : ltF Di_compareMails x y = decide (mkey x < mkey y) := by
 have hr : ∀ x ∈ mgL a b, okr x = true := fun x hx => by
  unfold mgL at hx
  rcases List.mem_append.1 hx with hx | hx
  ·exact (mb_sorted ha).1 x (List.mem_filter.1 hx).1
  ·exact (mb_sorted hb).1 x (List.mem_filter.1 hx).1
 obtain ⟨c, e1, e2, _⟩ := cmp_lt (hr x hx) (hr y hy)
 unfold ltF
 rw [e1, Option.getD_some]
 exact decide_eq_decide.2 e2
theorem key_b {l : List Gi_Mail} (h : mb l = true) {x : Gi_Mail} (hx : x ∈ l) : ∃ k : Nat, mkey x = (k : Int) ∧ k < 62 := by
 have := okr_lim ((mb_sorted h).1 x hx)
 unfold mkey
 exact ⟨(2 * x.Turn + x.Side).toNat, by omega, by omega⟩
theorem outAt_mem {a b : List Gi_Mail} (ha : mb a = true) (hb : mb b = true) {x : Gi_Mail} : (∃ k, k < 62 ∧ outAt a b k = some x) ↔ x ∈ mgL a b := by
 unfold mgL
 rw [List.mem_append, List.mem_filter, List.mem_filter]
 constructor
 ·rintro ⟨k, hk, h⟩
  unfold outAt at h
  split at h
  ·rename_i x' y' e1 e2
   split at h <;> cases h
   rename_i c
   obtain ⟨m1, m2⟩ := mlAt_some e1
   refine .inl ⟨m1, ?_⟩
   unfold clB
   rw [m2, e2]
   simp [c]
  ·rename_i x' e1 e2
   cases h
   obtain ⟨m1, m2⟩ := mlAt_some e1
   refine .inl ⟨m1, ?_⟩
   unfold clB
   rw [m2, e2]
   rfl
  ·rename_i y' e1 e2
   cases h
   obtain ⟨m1, m2⟩ := mlAt_some e2
   exact .inr ⟨m1, by rw [m2, e1]; rfl⟩
  ·cases h
 ·rintro (⟨h1, h2⟩ | ⟨h1, h2⟩)
  ·obtain ⟨k, hk, hk2⟩ := key_b ha h1
   refine ⟨k, hk2, ?_⟩
   have e1 := mlAt_mem ha h1
   unfold outAt clB at *
   rw [hk] at e1 h2
   rw [e1]
   cases e2 : mlAt b k with
   | none => rfl
   | some y =>
    rw [e2] at h2
    simp at h2
    exact if_pos h2.symm
  ·obtain ⟨k, hk, hk2⟩ := key_b hb h1
   refine ⟨k, hk2, ?_⟩
   have e1 := mlAt_mem hb h1
   rw [Option.isNone_iff_eq_none] at h2
   unfold outAt
   rw [hk] at e1 h2
   rw [e1, h2]
theorem fm_pw {f : Nat → Option Gi_Mail} (hf : ∀ k x, f k = some x → mkey x = (k : Int)) : ((List.range 62).filterMap f).Pairwise fun x y => mkey x < mkey y := by
 rw [List.pairwise_filterMap]
 exact List.pairwise_lt_range.imp fun {i j} hij x hx y hy => by rw [hf i x hx, hf j y hy]; omega
theorem outAt_key {a b : List Gi_Mail} {k : Nat} {x : Gi_Mail} (h : outAt a b k = some x) : mkey x = (k : Int) := by
 unfold outAt at h
 split at h
 ·rename_i x' y' e1 e2
  split at h <;> cases h
  exact (mlAt_some e1).2
 ·rename_i e1 e2; cases h; exact (mlAt_some e1).2
 ·rename_i e1 e2; cases h; exact (mlAt_some e2).2
 ·cases h
theorem out_eq {a b : List Gi_Mail} (ha : mb a = true) (hb : mb b = true) : (List.range 62).filterMap (outAt a b) = srtF Di_compareMails (mgL a b) := by
 have hS := mgL_ok ha hb
 refine key_ext (k := mkey) (fm_pw fun k x h => outAt_key h) ?_ fun x => ?_
 ·have h1 := srtF_pw hS
  have h2 : (mgL a b).Nodup := by
   unfold mgL
   rw [List.nodup_append]
   refine ⟨((mb_pw ha).imp fun {x y} h e => by rw [e] at h; omega).filter _, ((mb_pw hb).imp fun {x y} h e => by rw [e] at h; omega).filter _, fun x hx y hy e => ?_⟩
   subst e
   have := (List.mem_filter.1 hy).2
   rw [Option.isNone_iff_eq_none] at this
   exact mlAt_none this x (List.mem_filter.1 hx).1 rfl
  have h3 : (srtF Di_compareMails (mgL a b)).Nodup := (List.mergeSort_perm _ _).nodup_iff.2 h2
  refine (h1.and h3).imp_of_mem fun {x y} hx hy h => ?_
  have hx' := srtF_mem.1 hx
  have hy' := srtF_mem.1 hy
  have h4 := h.1
  rw [mgL_lt ha hb hy' hx'] at h4
  simp at h4
  have h5 : mkey x ≠ mkey y := fun e => h.2 (hS.tie x hx' y hy' (by rw [mgL_lt ha hb hx' hy']; simp; omega) (by rw [mgL_lt ha hb hy' hx']; simp; omega))
  omega
 ·rw [srtF_mem, List.mem_filterMap, ← outAt_mem ha hb]
  constructor
  ·rintro ⟨k, hk, h⟩; exact ⟨k, List.mem_range.1 hk, h⟩
  ·rintro ⟨k, hk, h⟩; exact ⟨k, List.mem_range.2 hk, h⟩
theorem cl_eq {a b : List Gi_Mail} (ha : mb a = true) (hb : mb b = true) : (List.range 62).filterMap (clAt a b) = a.filter (clB b) := by
 refine key_ext (k := mkey) (fm_pw fun k x h => ?_) ((mb_pw ha).filter _) fun x => ?_
 ·unfold clAt at h
  split at h
  ·rename_i x' y' e1 e2
   split at h <;> cases h
   exact (mlAt_some e1).2
  ·cases h
 ·rw [List.mem_filterMap, List.mem_filter]
  constructor
  ·rintro ⟨k, hk, h⟩
   unfold clAt at h
   split at h
   ·rename_i x' y' e1 e2
    split at h <;> cases h
    rename_i c
    obtain ⟨m1, m2⟩ := mlAt_some e1
    refine ⟨m1, ?_⟩
    unfold clB
    rw [m2, e2]
    simp
    exact fun e => c e.symm
   ·cases h
  ·rintro ⟨h1, h2⟩
   obtain ⟨k, hk, hk2⟩ := key_b ha h1
   refine ⟨k, List.mem_range.2 hk2, ?_⟩
   have e1 := mlAt_mem ha h1
   unfold clAt clB at *
   rw [hk] at e1 h2
   rw [e1]
   cases e2 : mlAt b k with
   | none => rw [e2] at h2; cases h2
   | some y =>
    rw [e2] at h2
    simp at h2
    exact if_neg fun e => h2 e.symm
theorem mg_i {a b : List Gi_Mail} (hla : a.length ≤ 1048576) (hlb : b.length ≤ 1048576) : Di_MergeMail a b = some (mgR a b) := by
 unfold Di_MergeMail mgR
 rw [th12 a hla, Option.bind_some]
 cases ha : mb a with
 | false => simp
 | true =>
 rw [if_pos rfl, th12 b hlb, Option.bind_some]
 cases hb : mb b with
 | false => simp
 | true =>
 rw [if_pos rfl, if_pos ⟨rfl, rfl⟩]
 have na := mb_len ha
 have nb := mb_len hb
 have k1 : ∀ (n i : Nat), i + n = a.length → loop Bi_MergeMail (.h1 a b a (a.length : Int) (i : Int) ((a.take i).filter fun x => !clB b x) ((a.take i).filter (clB b))) = loop Bi_MergeMail (.h2 a b (b.length : Int) 0 (a.filter fun x => !clB b x) (a.filter (clB b))) := by
  intro n
  induction n with
  | zero =>
   intro i hi
   have : i = a.length := by omega
   subst this
   rw [loop_eq, List.take_length]
   simp (disch := omega) only [Bi_MergeMail, if_neg, goOn]
  | succ n ih =>
   intro i hi
   have hlt : i < a.length := by omega
   have hx := List.getElem?_eq_getElem hlt
   have hih := ih (i + 1) (by omega)
   rw [List.take_add_one, hx, List.filter_append, List.filter_append] at hih
   rw [← hih, loop_eq]
   have hok := (mb_sorted ha).1 _ (List.getElem_mem hlt)
   have l1 := List.length_filter_le (fun x => !clB b x) (a.take i)
   have l2 := List.length_filter_le (clB b) (a.take i)
   rw [List.length_take] at l1 l2
   generalize (a.take i).filter (fun x => !clB b x) = O at *
   generalize (a.take i).filter (clB b) = C at *
   generalize a[i] = x at *
   have e1 := find_i hlb (mb_sorted hb).1 hok
   simp (disch := omega) only [Bi_MergeMail, if_pos, Int.toNat_natCast, hx, e1, Option.bind_some]
   rcases ix_find (fun y => decide (mkey y = mkey x)) b with ⟨i1, f1⟩ | ⟨j, y, i1, g1, f1⟩
   ·have hc : clB b x = false := by unfold clB mlAt; rw [f1]
    simp (disch := first | omega | (simp; omega)) only [i1, if_neg, if_pos, wsucc, goOn]
    simp [hc]
   ·by_cases c : y.Seal = x.Seal
    ·have hc : clB b x = false := by unfold clB mlAt; rw [f1]; simp [c]
     simp (disch := first | omega | (simp; omega)) only [i1, if_pos, wsucc, goOn, Int.toNat_natCast, g1, Option.bind_some, c, if_true]
     simp [hc]
    ·have hc : clB b x = true := by unfold clB mlAt; rw [f1]; simp [c]
     simp (disch := first | omega | (simp; omega)) only [i1, if_pos, wsucc, goOn, Int.toNat_natCast, g1, Option.bind_some, c, if_false]
     simp [hc]
 have k2 : ∀ (n i : Nat), i + n = b.length → loop Bi_MergeMail (.h2 a b (b.length : Int) (i : Int) ((a.filter fun x => !clB b x) ++ (b.take i).filter fun y => (mlAt a (mkey y)).isNone) (a.filter (clB b))) =
   some (if (mgL a b).length > 20 then ([], [], false) else (srtF Di_compareMails (mgL a b), a.filter (clB b), true)) := by
  intro n
  induction n with
  | zero =>
   intro i hi
   have : i = b.length := by omega
   subst this
   rw [loop_eq, List.take_length]
   show goOn (loop Bi_MergeMail) (Bi_MergeMail (.h2 a b (b.length : Int) (b.length : Int) (mgL a b) (a.filter (clB b)))) = _
   have e : Dslices_SortFunc_i_Mail_i_compareMails (mgL a b) = some (srtF Di_compareMails (mgL a b)) := if_pos (mgL_ok ha hb)
   simp (disch := omega) only [Bi_MergeMail, if_neg, e, Option.bind_some, srtF_len, if_pos]
   by_cases c : (mgL a b).length > 20
   ·rw [if_pos (by omega), if_pos c]; rfl
   ·rw [if_neg (by omega), if_neg c]; rfl
  | succ n ih =>
   intro i hi
   have hlt : i < b.length := by omega
   have hx := List.getElem?_eq_getElem hlt
   have hih := ih (i + 1) (by omega)
   rw [List.take_add_one, hx, List.filter_append, ← List.append_assoc] at hih
   rw [← hih, loop_eq]
   have hok := (mb_sorted hb).1 _ (List.getElem_mem hlt)
   have l1 := List.length_filter_le (fun x => !clB b x) a
   have l2 := List.length_filter_le (fun y => (mlAt a (mkey y)).isNone) (b.take i)
   rw [List.length_take] at l2
   have l3 : ((a.filter fun x => !clB b x) ++ (b.take i).filter fun y => (mlAt a (mkey y)).isNone).length ≤ 40 := by rw [List.length_append]; omega
   generalize (a.filter fun x => !clB b x) ++ (b.take i).filter (fun y => (mlAt a (mkey y)).isNone) = O at *
   generalize a.filter (clB b) = C at *
   generalize b[i] = x at *
   have e1 := find_i hla (mb_sorted ha).1 hok
   simp (disch := omega) only [Bi_MergeMail, if_pos, Int.toNat_natCast, hx, e1, Option.bind_some]
   rcases ix_find (fun y => decide (mkey y = mkey x)) a with ⟨i1, f1⟩ | ⟨j, y, i1, g1, f1⟩
   ·have hc : mlAt a (mkey x) = none := f1
    simp (disch := first | omega | (simp; omega)) only [i1, if_pos, wsucc, goOn]
    simp [hc]
   ·have hc : mlAt a (mkey x) = some y := f1
    simp (disch := first | omega | (simp; omega)) only [i1, if_neg, wsucc, goOn]
    simp [hc]
 have h1 := k1 a.length 0 (by omega)
 have h2 := k2 b.length 0 (by omega)
 simp only [List.take_zero, List.filter_nil, List.append_nil, Int.natCast_zero] at h1 h2
 rw [out_eq ha hb, cl_eq ha hb, srtF_len]
 exact h1.trans h2
theorem mgR_len {a b : List Gi_Mail} (hla : a.length ≤ 1048576) : (mgR a b).1.length ≤ 62 ∧ (mgR a b).2.1.length ≤ 62 := by
 have l1 := List.length_filterMap_le (outAt a b) (List.range 62)
 have l2 := List.length_filterMap_le (clAt a b) (List.range 62)
 rw [List.length_range] at l1 l2
 unfold mgR
 split
 ·split
  ·simp
  ·exact ⟨l1, l2⟩
 ·simp
def mkM (k : Int) : Gi_Mail := ⟨k, k + 1, k + 2⟩
theorem markM (l : List Gi_Mail) (hl : l.length ≤ 1048577) (k0 : Int) (h0 : 0 ≤ k0) (h1 : k0 ≤ 1099511627776) : Dw_markMailS l k0 = some (k0 + (3 * l.length : Nat), marked mkM 3 k0 l.length) := by
 unfold Dw_markMailS
 refine mark_loop (S := fun k i m => Sw_markMailS.h1 k (i : Int) m) h0 (by omega) (fun i k m x hm hi hx h0 hb => ?_) (fun k m hm => ?_) l rfl
 ·have hlt : i < m.length := by omega
  have a1 : k + 1 + 1 = k + 2 := by omega
  have a2 : k + 2 + 1 = k + 3 := by omega
  simp only [Bw_markMailS, hm, Int.ofNat_lt, hi, if_true, Int.natCast_nonneg, Int.toNat_natCast, hx, Option.bind_some, List.getElem?_set, List.length_set]
  rw [wsucc (by omega), w64 (n := k + 1) (by omega), a1, w64 (n := k + 2) (by omega), a2, w64 (n := k + 3) (by omega)]
  simp [mkM, List.set_set]
 ·simp [Bw_markMailS, hm]
theorem heldM (n : Nat) (hn : n ≤ 1048577) (k0 : Int) (h0 : 0 ≤ k0) (h1 : k0 ≤ 1099511627776) : Dw_heldMailS (marked mkM 3 k0 n) k0 = some (k0 + (3 * n : Nat)) := by
 unfold Dw_heldMailS
 have hlen := marked_len mkM 3 k0 n
 refine held_loop (f := mkM) (c := 3) (n := n) (S := fun k i => Sw_heldMailS.h1 (marked mkM 3 k0 n) k (i : Int)) h0 (by omega) (fun i k hi hx h0 hb => ?_) (fun k => ?_)
 ·have a1 : k + 1 + 1 = k + 2 := by omega
  have a2 : k + 2 + 1 = k + 3 := by omega
  simp only [Bw_heldMailS, hlen, Int.ofNat_lt, hi, if_true, Int.natCast_nonneg, Int.toNat_natCast, hx, Option.bind_some]
  rw [wsucc (by omega), w64 (n := k + 1) (by omega), a1, w64 (n := k + 2) (by omega), a2, w64 (n := k + 3) (by omega)]
  simp [mkM]
 ·simp [Bw_heldMailS, hlen]
theorem szM (l : List Gw_Mail) (hl : l.length < 9223372036854775808) (n : Int) (h0 : 0 ≤ n) (hn : n ≤ 1048576) : Dw_szMailS l n = some (if n - (l.length : Int) < 0 then (-1 : Int) else n - (l.length : Int)) := by
 unfold Dw_szMailS
 rw [w64 (by omega)]
 split <;> rfl
theorem lawMergeMail (a b : List Gw_Mail) (ha : a.length < 9223372036854775808) (hb : b.length < 9223372036854775808) : Dw_FnExactMergeMail a b = some true := by
 unfold Dw_FnExactMergeMail
 rw [szM a ha _ (by decide) (by decide)]
 simp only [Option.bind_some]
 by_cases hn : (1048576 : Int) - (a.length : Int) < 0
 ·rw [if_pos hn]; rfl
 ·rw [if_neg hn, if_neg hn, szM b hb _ (by omega) (by omega)]
  simp only [Option.bind_some]
  by_cases hn' : (1048576 : Int) - (a.length : Int) - (b.length : Int) < 0
  ·rw [if_pos hn']; rfl
  ·have ha' : a.length ≤ 1048576 := by omega
   have hb' : b.length ≤ 1048576 := by omega
   have hma : (a.map toM).length ≤ 1048576 := by simpa using ha'
   have hmb : (b.map toM).length ≤ 1048576 := by simpa using hb'
   obtain ⟨c1, c2⟩ := mgR_len (b := b.map toM) hma
   have g1 := mg_s hma hmb
   have g2 := mg_i hma hmb
   generalize hg : mgR (a.map toM) (b.map toM) = r at *
   obtain ⟨l, pl, ok⟩ := r
   simp only at c1 c2
   rw [if_neg hn', if_neg hn', th11 a ha', th11 b hb']
   simp only [Option.bind_some, g1, g2, th13 _ hma, th13 _ hmb, th13 l (by omega), th13 pl (by omega), markM (a.map toM) (by omega) 1 (by decide) (by decide), markM (b.map toM) (by omega) (1 + (3 * (a.map toM).length : Nat)) (by omega) (by omega), markM l (by omega) 1 (by decide) (by decide),
    markM pl (by omega) (1 + (3 * l.length : Nat)) (by omega) (by omega), heldM l.length (by omega) 1 (by decide) (by decide), heldM pl.length (by omega) (1 + (3 * l.length : Nat)) (by omega) (by omega), marked_len, if_true, bne_self_eq_false, beq_self_eq_true, Bool.not_true, Bool.false_eq_true, if_false]
   have z : ∀ {α : Type} {n : Int} {x y : α}, 0 ≤ n → (if n < 0 then x else y) = y := fun h => if_neg (by omega)
   rw [z (by omega), z (by omega), z (by omega), z (by omega), z (by omega)]

end Go.Proofs.Ytogomlkoocbhcaa.Ab
