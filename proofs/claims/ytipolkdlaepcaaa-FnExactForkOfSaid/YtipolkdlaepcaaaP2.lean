/- Part of the proof of FnExactForkOf: no condition of its own. -/
import Derived.Test.YtipolkdlaepcaaaP1
set_option linter.unusedVariables false
set_option linter.unusedSimpArgs false
open Go
namespace Go.Proofs.Ytipolkdlaepcaaa.Ab

/-! ### Mailboxes -/
def key (x : G46) : Int := 2 * x.Turn + x.Side
def okr (x : G46) : Bool := inr3 x.Turn 0 30 && inr3 x.Side 0 1 && inr3 x.Seal 0 4611686016279904236
def okm (l : List G46) (i : Nat) (x : G46) : Bool := okr x && (if i = 0 then true else match l[i - 1]? with | some y => decide (key y < key x) | none => true)
def mb (l : List G46) : Bool := alli (okm l) l && decide ((l.length : Int) ≤ 20)

theorem okr_lim {x : G46} (h : okr x = true) : 0 ≤ x.Turn ∧ x.Turn ≤ 30 ∧ 0 ≤ x.Side ∧ x.Side ≤ 1 := by
  simp [okr, inr3_iff] at h
  omega
theorem e52 {x : G46} (h : okr x = true) : D52 x = some (key x) := by
  have := okr_lim h
  unfold D52 key
  rw [w64 (n := 2 * x.Turn) (by omega), w64 (by omega)]
theorem e34 {x y : G46} (h : okr x = true) (h' : okr y = true) : ∃ c, D34 x y = some c ∧ (c ≥ 0 ↔ ¬ key x < key y) := by
  have h1 := okr_lim h
  have h2 := okr_lim h'
  unfold D34 key
  split
  · exact ⟨_, rfl, by rw [w64 (by omega)]; omega⟩
  · exact ⟨_, rfl, by rw [w64 (by omega)]; omega⟩

theorem e29 (l : List G46) (hl : l.length ≤ 1048576) : D29 l = some (mb l) := by
  unfold D29 mb
  refine all_loop2 (S := fun i => S29.h1 l l (l.length : Int) (i : Int)) (fun i x hx hi hb => ?_) ?_
  · simp only [B29, Int.ofNat_lt, hi, if_true, Int.natCast_nonneg, Int.toNat_natCast, hx, Option.bind_some, wsucc (show i < 9223372036854775807 by omega), e51, e48, okm]
    by_cases h1 : inr3 x.Turn 0 30 = true
    · by_cases h2 : inr3 x.Side 0 1 = true
      · by_cases h3 : inr3 x.Seal 0 4611686016279904236 = true
        · have hx' : okr x = true := by simp [okr, h1, h2, h3]
          simp only [h1, h2, h3, if_true, hx', Bool.true_and]
          by_cases h4 : i = 0
          · subst h4; simp
          · have h5 : i - 1 < l.length := by omega
            have hy := hb (i - 1) l[i - 1] (by omega) (List.getElem?_eq_getElem h5)
            simp only [okm, Bool.and_eq_true] at hy
            rw [if_pos (by omega), w64 (by omega), if_pos (by omega), show ((i : Int) - 1).toNat = i - 1 by omega, List.getElem?_eq_getElem h5, if_neg h4]
            simp only [Option.bind_some, e52 hy.1, e52 hx']
            by_cases h6 : key l[i - 1] < key x
            · rw [if_neg (by omega)]; simp [h6]
            · rw [if_pos (by omega)]; simp [h6]
        · simp [h1, h2, h3, okr]
      · simp [h1, h2, okr]
    · simp [h1, okr]
  · simp [B29]

theorem e12 (l : List G46) (hl : l.length ≤ 1048576) : D12 l = some (mb l) := by
  unfold D12 mb
  by_cases h0 : (l.length : Int) > 20
  · rw [if_pos h0]
    simp [show ¬ (l.length : Int) ≤ 20 by omega]
  · rw [if_neg h0, decide_eq_true (show (l.length : Int) ≤ 20 by omega), Bool.and_true]
    refine all_loop (S := fun i => S12.h1 l l (l.length : Int) (i : Int)) (fun i x hx hi hb => ?_) ?_
    · simp only [B12, Int.ofNat_lt, hi, if_true, Int.natCast_nonneg, Int.toNat_natCast, hx, Option.bind_some, wsucc (show i < 9223372036854775807 by omega), e31, e32, e33, okm]
      by_cases h1 : inr3 x.Turn 0 30 = true
      · by_cases h2 : inr3 x.Side 0 1 = true
        · by_cases h3 : inr3 x.Seal 0 4611686016279904236 = true
          · have hx' : okr x = true := by simp [okr, h1, h2, h3]
            simp only [h1, h2, h3, if_true, hx', Bool.true_and]
            by_cases h4 : i = 0
            · subst h4; simp
            · have h5 : i - 1 < l.length := by omega
              have hy := hb (i - 1) l[i - 1] (by omega) (List.getElem?_eq_getElem h5)
              simp only [okm, Bool.and_eq_true] at hy
              obtain ⟨c, hc, hc'⟩ := e34 hy.1 hx'
              rw [if_pos (by omega), w64 (by omega), if_pos (by omega), show ((i : Int) - 1).toNat = i - 1 by omega, List.getElem?_eq_getElem h5, if_neg h4]
              simp only [Option.bind_some, hc]
              by_cases h6 : key l[i - 1] < key x
              · rw [if_neg (fun h => hc'.1 h h6)]; simp [h6]
              · rw [if_pos (hc'.2 h6)]; simp [h6]
          · simp [h1, h2, h3, okr]
        · simp [h1, h2, okr]
      · simp [h1, okr]
    · simp [B12]

/-! ### NextDue -/
theorem e42 (l : List G46) (hl : l.length ≤ 1048576) (hr : ∀ x ∈ l, okr x = true) (n : Int) : D42 l n = some (ix (fun x => decide (key x = n)) l) := by
  unfold D42
  refine find_loop (S := fun i => S42.h1 n l (l.length : Int) (i : Int)) (fun i x hx hi => ?_) ?_
  · simp only [B42, Int.ofNat_lt, hi, if_true, Int.natCast_nonneg, Int.toNat_natCast, hx, Option.bind_some, wsucc (show i < 9223372036854775807 by omega), e52 (hr x (List.mem_of_getElem? hx))]
    by_cases h1 : key x = n <;> simp [h1]
  · simp [B42]

theorem mb_sorted {l : List G46} (h : mb l = true) : (∀ x ∈ l, okr x = true) ∧ ∀ (a b : Nat) (x y : G46), a < b → l[a]? = some x → l[b]? = some y → key x < key y := by
  simp only [mb, Bool.and_eq_true] at h
  have h1 := alli_iff.1 h.1
  refine ⟨fun x hx => ?_, fun a b => ?_⟩
  · obtain ⟨i, hi⟩ := List.getElem?_of_mem hx
    have := h1 i x hi
    simp only [okm, Bool.and_eq_true] at this
    exact this.1
  · induction b with
    | zero => intro x y h; omega
    | succ b ih =>
      intro x y hab hx hy
      have h2 := h1 (b + 1) y hy
      have hb : b < l.length := by have := (List.getElem?_eq_some_iff.1 hy).1; omega
      simp only [okm, Bool.and_eq_true, Nat.add_sub_cancel, List.getElem?_eq_getElem hb] at h2
      have h3 : key l[b] < key y := by simpa using h2.2
      by_cases h4 : a = b
      · subst h4
        rw [List.getElem?_eq_getElem hb] at hx
        cases hx
        exact h3
      · have := ih x l[b] (by omega) hx (List.getElem?_eq_getElem hb)
        omega

theorem ix_neg {α : Type} {p : α → Bool} {l : List α} (h : ∀ x ∈ l, p x = false) : ix p l = -1 := by
  have : l.findIdx? p = none := by rw [List.findIdx?_eq_none_iff]; exact h
  simp [ix, this]
theorem ix_nn {α : Type} {p : α → Bool} {l : List α} {x : α} (hx : x ∈ l) (h : p x = true) : 0 ≤ ix p l := by
  unfold ix
  split
  · omega
  · rename_i hn
    rw [List.findIdx?_eq_none_iff] at hn
    rw [hn x hx] at h
    cases h

/-- How many first mails are as they come. -/
def nd (l : List G46) : Nat → Nat → Nat
  | 0, i => i
  | k + 1, i => match l[i]? with
    | some x => if key x = (i : Int) then nd l k (i + 1) else i
    | none => i
theorem nd_le (l : List G46) : ∀ k i, i ≤ l.length → nd l k i ≤ l.length
  | 0, i, h => h
  | k + 1, i, h => by
    unfold nd
    split
    · rename_i x hx
      split
      · exact nd_le l k (i + 1) (List.getElem?_eq_some_iff.1 hx).1
      · exact h
    · exact h

theorem nd_spec {l : List G46} (hm : mb l = true) (hl : l.length ≤ 20) : ∀ k i, i + k = l.length → (∀ j x, j < i → l[j]? = some x → key x = (j : Int)) →
    loop B19 (.h1 l (i : Int)) = some (Int.tdiv (nd l k i : Int) 2, Int.tmod (nd l k i : Int) 2, true) ∧
    loop B20 (.h1 (Int.tdiv (i : Int) 2) (Int.tmod (i : Int) 2) l (l.length : Int) (i : Int)) = some (Int.tdiv (nd l k i : Int) 2, Int.tmod (nd l k i : Int) 2, true) := by
  obtain ⟨hr, hs⟩ := mb_sorted hm
  have stop : ∀ i, i ≤ l.length → (∀ j x, j < i → l[j]? = some x → key x = (j : Int)) → (∀ x, l[i]? = some x → key x ≠ (i : Int)) → ∀ x ∈ l, decide (key x = (i : Int)) = false := by
    intro i hi hb hne x hx
    obtain ⟨j, hj⟩ := List.getElem?_of_mem hx
    refine decide_eq_false fun he => ?_
    have ge : ∀ (m : Nat) (y : G46), l[m]? = some y → (m : Int) ≤ key y := by
      intro m
      induction m with
      | zero => intro y hy; have := okr_lim (hr y (List.mem_of_getElem? hy)); unfold key; omega
      | succ m ih =>
        intro y hy
        have hlt : m < l.length := by have := (List.getElem?_eq_some_iff.1 hy).1; omega
        have h1 := ih l[m] (List.getElem?_eq_getElem hlt)
        have h2 := hs m (m + 1) _ y (by omega) (List.getElem?_eq_getElem hlt) hy
        omega
    have hge := ge j x hj
    by_cases h1 : j < i
    · have := hb j x h1 hj
      omega
    · by_cases h2 : j = i
      · subst h2
        exact hne x hj he
      · omega
  intro k
  induction k with
  | zero =>
    intro i h hb
    have hi : i = l.length := by omega
    constructor
    · rw [loop_eq]
      simp only [B19]
      rw [e42 l (by omega) hr, ix_neg (stop i (by omega) hb fun x hx => by have := (List.getElem?_eq_some_iff.1 hx).1; omega)]
      simp only [Option.bind_some]
      rw [if_neg (by decide), w64 (by have := Int.tdiv_nonneg (show (0 : Int) ≤ i by omega) (show (0 : Int) ≤ 2 by omega); have := Int.tdiv_eq_ediv_of_nonneg (show (0 : Int) ≤ i by omega) (b := 2); omega)]
      rfl
    · rw [loop_eq]
      simp only [B20]
      rw [if_neg (by omega)]
      rfl
  | succ k ih =>
    intro i h hb
    have hlt : i < l.length := by omega
    have hx := List.getElem?_eq_getElem hlt
    have hrx := okr_lim (hr _ (List.mem_of_getElem? hx))
    have hdiv := Int.tdiv_eq_ediv_of_nonneg (show (0 : Int) ≤ i by omega) (b := 2)
    have hmod := Int.tmod_eq_emod_of_nonneg (show (0 : Int) ≤ i by omega) (b := 2)
    by_cases hk : key l[i] = (i : Int)
    · have hb' : ∀ j x, j < i + 1 → l[j]? = some x → key x = (j : Int) := fun j x hj hx' => by
        by_cases h1 : j = i
        · subst h1
          rw [hx] at hx'
          cases hx'
          exact hk
        · exact hb j x (by omega) hx'
      obtain ⟨h1, h2⟩ := ih (i + 1) (by omega) hb'
      have hnd : nd l (k + 1) i = nd l k (i + 1) := by
        rw [nd, hx]
        simp only
        rw [if_pos hk]
      rw [hnd]
      constructor
      · rw [loop_eq]
        simp only [B19]
        rw [e42 l (by omega) hr]
        simp only [Option.bind_some]
        rw [if_pos (ix_nn (List.mem_of_getElem? hx) (decide_eq_true hk)), wsucc (by omega)]
        exact h1
      · rw [loop_eq]
        simp only [B20]
        rw [if_pos (by omega), if_pos (by omega), Int.toNat_natCast, hx]
        simp only [Option.bind_some]
        unfold key at hk
        rw [if_pos (by omega), if_pos (by omega), wsucc (by omega), w64 (by omega), w64 (by omega)]
        simp only [goOn]
        have hdiv' := Int.tdiv_eq_ediv_of_nonneg (show (0 : Int) ≤ (i + 1 : Nat) by omega) (b := 2)
        have hmod' := Int.tmod_eq_emod_of_nonneg (show (0 : Int) ≤ (i + 1 : Nat) by omega) (b := 2)
        rw [show Int.tdiv (i : Int) 2 + Int.tmod (i : Int) 2 = Int.tdiv ((i + 1 : Nat) : Int) 2 by omega, show 1 - Int.tmod (i : Int) 2 = Int.tmod ((i + 1 : Nat) : Int) 2 by omega]
        exact h2
    · have hnd : nd l (k + 1) i = i := by
        rw [nd, hx]
        simp only
        rw [if_neg hk]
      rw [hnd]
      constructor
      · rw [loop_eq]
        simp only [B19]
        rw [e42 l (by omega) hr, ix_neg (stop i (by omega) hb fun x hx' => by rw [hx] at hx'; cases hx'; exact hk)]
        simp only [Option.bind_some]
        rw [if_neg (by decide), w64 (by omega)]
        rfl
      · rw [loop_eq]
        simp only [B20]
        rw [if_pos (by omega), if_pos (by omega), Int.toNat_natCast, hx]
        simp only [Option.bind_some]
        unfold key at hk
        by_cases h3 : l[i].Turn = Int.tdiv (i : Int) 2
        · rw [if_pos h3, if_neg (by omega)]
          rfl
        · rw [if_neg h3]
          rfl

/-- NextDue's law. -/
theorem e5 (l : List G48) (hl : l.length < 9223372036854775808) : D5 l = some true := by
  unfold D5
  rw [e9 l hl]
  simp only [Option.bind_some]
  by_cases h : (1048576 : Int) - (l.length : Int) < 0
  · rw [if_pos h]; rfl
  · have hl' : l.length ≤ 1048576 := by omega
    have hm : (l.map toM).length ≤ 1048576 := by simpa using hl'
    rw [if_neg h, if_neg h, e11 l hl']
    simp only [Option.bind_some]
    obtain ⟨r, h19, h20⟩ : ∃ r, D19 (l.map toM) = some r ∧ D20 (l.map toM) = some r := by
      unfold D19 D20
      rw [e29 _ hm, e12 _ hm]
      simp only [Option.bind_some]
      by_cases hb : mb (l.map toM) = true
      · rw [if_pos hb, if_pos hb]
        have h20 : (l.map toM).length ≤ 20 := by
          simp only [mb, Bool.and_eq_true, decide_eq_true_eq] at hb
          omega
        obtain ⟨h1, h2⟩ := nd_spec hb h20 (l.map toM).length 0 (by omega) (fun j x h => by omega)
        exact ⟨_, h1, h2⟩
      · rw [if_neg hb, if_neg hb]
        exact ⟨_, rfl, rfl⟩
    rw [h19, h20]
    simp [e13 _ hm]

end Go.Proofs.Ytipolkdlaepcaaa.Ab
