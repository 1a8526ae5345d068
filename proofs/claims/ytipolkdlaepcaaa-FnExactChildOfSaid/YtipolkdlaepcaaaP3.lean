/- Part of the proof of FnExactChildOf: no condition of its own. -/
import Derived.Test.YtipolkdlaepcaaaP2
set_option linter.unusedVariables false
set_option linter.unusedSimpArgs false
open Go
namespace Go.Proofs.Ytipolkdlaepcaaa.Ab

theorem tree_ok {l : List G53} (h : tree l = true) : 1 ≤ l.length ∧ l.length ≤ 40 ∧ ∀ (i : Nat) (x : G53), l[i]? = some x → okn l i x = true := by
  simp only [tree, Bool.and_eq_true, inr3_iff] at h
  exact ⟨by omega, by omega, alli_iff.1 h.2⟩

/-- From a node up to the first. -/
def ch (l : List G53) : Nat → Int → List Int
  | 0, _ => []
  | n + 1, i => if i ≥ 0 then i :: ch l n (match l[i.toNat]? with | some x => x.Parent | none => -1) else []

theorem ch_pos {l : List G53} {i : Int} {x : G53} (n : Nat) (h : i ≥ 0) (hx : l[i.toNat]? = some x) : ch l (n + 1) i = i :: ch l n x.Parent := by rw [ch, if_pos h, hx]
theorem ch_neg {l : List G53} {i : Int} (n : Nat) (h : ¬ i ≥ 0) : ch l (n + 1) i = [] := by rw [ch, if_neg h]

theorem ch_le (l : List G53) : ∀ n i, (ch l n i).length ≤ n
  | 0, i => Nat.le_refl _
  | n + 1, i => by
    unfold ch
    split
    · simp only [List.length_cons]
      have := ch_le l n (match l[i.toNat]? with | some x => x.Parent | none => -1)
      omega
    · simp

theorem par_lt {l : List G53} (h : tree l = true) {i : Nat} {x : G53} (hx : l[i]? = some x) : x.Parent < (i : Int) ∧ -1 ≤ x.Parent := by
  have h1 := (tree_ok h).2.2 i x hx
  by_cases h0 : i = 0
  · subst h0
    have := okn_zero h1
    omega
  · obtain ⟨_, h2, h3, _⟩ := okn_pos h1 h0
    omega

theorem e44' {l : List G53} (h : tree l = true) : ∀ (n : Nat) (i : Int) (acc : List Int), -1 ≤ i → i < n → i < l.length → acc.length + n ≤ 100 → loop B44 (.h2 l i acc) = some ((ch l n i).reverse ++ acc) := by
  intro n
  induction n with
  | zero =>
    intro i acc h1 h2 h3 h4
    rw [loop_eq]
    simp only [B44]
    rw [if_neg (by omega)]
    rfl
  | succ n ih =>
    intro i acc h1 h2 h3 h4
    rw [loop_eq]
    simp only [B44]
    by_cases h0 : i ≥ 0
    · have hlt : i.toNat < l.length := by omega
      have hx := List.getElem?_eq_getElem hlt
      have hp := par_lt h hx
      rw [if_pos h0, if_pos (by simp; omega), if_pos h0, hx]
      simp only [Option.bind_some, goOn]
      rw [ih _ _ hp.2 (by omega) (by omega) (by simp; omega), ch_pos n h0 hx]
      simp
    · rw [if_neg h0, ch_neg n h0]
      rfl
theorem e44 {l : List G53} (h : tree l = true) {i : Int} (h0 : 0 ≤ i) (h1 : i < l.length) : D44 l i = some (ch l 40 i).reverse := by
  obtain ⟨t1, t2, _⟩ := tree_ok h
  unfold D44
  rw [loop_eq]
  simp only [B44]
  have hlt : i.toNat < l.length := by omega
  have hx := List.getElem?_eq_getElem hlt
  have hp := par_lt h hx
  rw [if_pos h0, if_pos (by simp), if_pos h0, hx]
  simp only [Option.bind_some, goOn]
  rw [e44' h 39 _ _ hp.2 (by omega) (by omega) (by simp), ch_pos 39 h0 hx]
  simp

theorem e56 (l : List Int) (hl : l.length ≤ 1048576) : D56 l = some l.reverse := by
  unfold D56
  rw [w64 (by omega)]
  refine rev_loop (S := fun i j m => S56.h1 i j m) (fun i j m x y hij hm hj hx hy => ?_) (fun i j m h => ?_)
  · have h1 : i < m.length := by omega
    have hy' : (m.set i y)[j]? = some y := by rw [List.getElem?_set, if_neg (by omega)]; exact hy
    simp only [B56]
    rw [if_pos (by omega), if_pos (by omega), Int.toNat_natCast, hy]
    simp only [Option.bind_some]
    rw [if_pos (by omega), Int.toNat_natCast, hx]
    simp only [Option.bind_some]
    rw [if_pos (by omega), if_pos (by omega), hy']
    simp only [Option.bind_some]
    rw [wsucc (by omega), w64 (by omega)]
  · simp only [B56]
    rw [if_neg h]

theorem e45' {l : List G53} (h : tree l = true) : ∀ (n : Nat) (i : Int) (acc : List Int), -1 ≤ i → i < n → i < l.length → acc.length + n ≤ 100 → loop B45 (.h1 l i acc) = some ((acc ++ ch l n i).reverse) := by
  intro n
  induction n with
  | zero =>
    intro i acc h1 h2 h3 h4
    rw [loop_eq]
    simp only [B45]
    rw [if_neg (by omega), e56 _ (by omega)]
    simp [goOn, ch]
  | succ n ih =>
    intro i acc h1 h2 h3 h4
    rw [loop_eq]
    simp only [B45]
    by_cases h0 : i ≥ 0
    · have hlt : i.toNat < l.length := by omega
      have hx := List.getElem?_eq_getElem hlt
      have hp := par_lt h hx
      rw [if_pos h0, if_pos (by simp; omega), if_pos h0, hx]
      simp only [Option.bind_some, goOn]
      rw [ih _ _ hp.2 (by omega) (by omega) (by simp; omega)]
      rw [ch_pos n h0 hx]
      simp
    · rw [if_neg h0, e56 _ (by omega), ch_neg n h0]
      simp [goOn]
theorem e45 {l : List G53} (h : tree l = true) {i : Int} (h0 : 0 ≤ i) (h1 : i < l.length) : D45 l i = some (ch l 40 i).reverse := by
  obtain ⟨t1, t2, _⟩ := tree_ok h
  unfold D45
  rw [e45' h 40 _ _ (by omega) (by omega) h1 (by simp)]
  simp

/-- Where two lines part. -/
def fk : List Int → List Int → Int → Int
  | x :: a, y :: b, d => if x = y then fk a b x else d
  | _, _, d => d

theorem e21' (a b : List Int) (ha : a.length ≤ 40) : ∀ (k i : Nat) (d : Int), i + k = a.length → loop B21 (.h1 d i a b) = some (fk (a.drop i) (b.drop i) d, true) := by
  intro k
  induction k with
  | zero =>
    intro i d h
    rw [loop_eq]
    simp only [B21]
    rw [if_neg (by omega), List.drop_of_length_le (show a.length ≤ i by omega)]
    rfl
  | succ k ih =>
    intro i d h
    have hlt : i < a.length := by omega
    rw [loop_eq]
    simp only [B21]
    rw [if_pos (by omega), List.drop_eq_getElem_cons hlt]
    by_cases hb : i < b.length
    · rw [if_pos (by omega), if_pos (by omega), Int.toNat_natCast, List.getElem?_eq_getElem hlt, List.drop_eq_getElem_cons hb]
      simp only [Option.bind_some]
      rw [if_pos (by omega), List.getElem?_eq_getElem hb]
      simp only [Option.bind_some, fk]
      by_cases he : a[i] = b[i]
      · rw [if_pos he, if_pos (by omega), if_pos he, wsucc (by omega)]
        exact ih (i + 1) _ (by omega)
      · rw [if_neg he, if_neg he]
        rfl
    · rw [if_neg (by omega), List.drop_of_length_le (show b.length ≤ i by omega)]
      rfl
theorem e22' (a b : List Int) (ha : a.length ≤ 40) : ∀ (k i : Nat) (d : Int), i + k = a.length → loop B22 (.h1 d i a b) = some (fk (a.drop i) (b.drop i) d, true) := by
  intro k
  induction k with
  | zero =>
    intro i d h
    rw [loop_eq]
    simp only [B22]
    rw [if_neg (by split <;> omega), List.drop_of_length_le (show a.length ≤ i by omega)]
    rfl
  | succ k ih =>
    intro i d h
    have hlt : i < a.length := by omega
    rw [loop_eq]
    simp only [B22]
    rw [List.drop_eq_getElem_cons hlt]
    by_cases hb : i < b.length
    · rw [if_pos (by split <;> omega), if_pos (by omega), Int.toNat_natCast, List.getElem?_eq_getElem hlt, List.drop_eq_getElem_cons hb]
      simp only [Option.bind_some]
      rw [if_pos (by omega), List.getElem?_eq_getElem hb]
      simp only [Option.bind_some, fk]
      by_cases he : a[i] = b[i]
      · rw [if_pos he, if_pos (by omega), if_pos he, wsucc (by omega)]
        exact ih (i + 1) _ (by omega)
      · rw [if_neg he, if_neg he]
        rfl
    · rw [if_neg (by split <;> omega), List.drop_of_length_le (show b.length ≤ i by omega)]
      rfl

theorem e43 (l : List G53) (hl : l.length ≤ 1048576) (i : Int) : D43 l i = some (tree l && inr3 i 0 ((l.length : Int) - 1)) := by
  unfold D43
  rw [e36 l hl]
  simp only [Option.bind_some]
  by_cases h : tree l = true
  · rw [if_pos h, w64 (by omega), e51, h]
    rfl
  · rw [if_neg h]
    simp [h]

/-- ForkOf -/
def forkR (l : List G53) (i k : Int) : Int × Bool := if (tree l && inr3 i 0 ((l.length : Int) - 1) && inr3 k 0 ((l.length : Int) - 1)) = true then (fk (ch l 40 i).reverse (ch l 40 k).reverse 0, true) else (0, false)
theorem e21 (l : List G53) (hl : l.length ≤ 1048576) (i k : Int) : D21 l i k = some (forkR l i k) := by
  unfold D21 forkR
  rw [e43 l hl, e43 l hl]
  simp only [Option.bind_some]
  by_cases h1 : tree l = true
  · by_cases h2 : inr3 i 0 ((l.length : Int) - 1) = true
    · by_cases h3 : inr3 k 0 ((l.length : Int) - 1) = true
      · have hi := inr3_iff.1 h2
        have hk := inr3_iff.1 h3
        have hlen := ch_le l 40 i
        have := e21' (ch l 40 i).reverse (ch l 40 k).reverse (by simpa using hlen) _ 0 0 (by rw [Nat.zero_add])
        simp only [h1, h2, h3, Bool.and_true, if_true, e44 h1 hi.1 (by omega), e44 h1 hk.1 (by omega), Option.bind_some]
        simpa using this
      · simp [h1, h2, h3]
    · simp [h1, h2]
  · simp [h1]
theorem e22 (l : List G53) (hl : l.length ≤ 1048576) (i k : Int) : D22 l i k = some (forkR l i k) := by
  unfold D22 forkR
  rw [e17 l hl, e39 _ _ (by omega), e39 _ _ (by omega)]
  simp only [Option.bind_some]
  by_cases h1 : tree l = true
  · by_cases h2 : inr3 i 0 ((l.length : Int) - 1) = true
    · by_cases h3 : inr3 k 0 ((l.length : Int) - 1) = true
      · have hi := inr3_iff.1 h2
        have hk := inr3_iff.1 h3
        have hlen := ch_le l 40 i
        have := e22' (ch l 40 i).reverse (ch l 40 k).reverse (by simpa using hlen) _ 0 0 (by rw [Nat.zero_add])
        simp only [h1, h2, h3, Bool.and_true, if_true, e45 h1 hi.1 (by omega), e45 h1 hk.1 (by omega), Option.bind_some]
        simpa using this
      · simp [h1, h2, h3]
    · simp [h1, h2]
  · simp [h1]

theorem e6 (l : List G55) (i k : Int) (hl : l.length < 9223372036854775808) : D6 l i k = some true := by
  unfold D6
  rw [e14 l hl]
  simp only [Option.bind_some]
  by_cases h : (1048576 : Int) - (l.length : Int) < 0
  · rw [if_pos h]; rfl
  · have hl' : l.length ≤ 1048576 := by omega
    have hm : (l.map toN).length ≤ 1048576 := by simpa using hl'
    rw [if_neg h, if_neg h, e16 l hl']
    simp [e21 _ hm, e22 _ hm, e18 _ hm]

/-! ### MainTip -/
def tipOf (l : List G53) (i : Int) : Bool := l.all fun x => decide (x.Parent ≠ i)
def tips (l : List G53) : List Int := ((List.range l.length).map fun i : Nat => (i : Int)).filter (tipOf l)

theorem ix_all {l : List G53} {i : Int} : decide (ix (fun x : G53 => decide (x.Parent = i)) l ≥ 0) = !tipOf l i := by
  by_cases h : tipOf l i = true
  · rw [h, ix_neg (fun x hx => by simp only [tipOf, List.all_eq_true, decide_eq_true_eq] at h; simpa using h x hx)]
    rfl
  · rw [Bool.not_eq_true] at h
    rw [h]
    simp only [tipOf, List.all_eq_false, decide_eq_true_eq, Decidable.not_not] at h
    obtain ⟨x, hx, he⟩ := h
    exact decide_eq_true (ix_nn hx (decide_eq_true he))
theorem e57 (l : List G53) (hl : l.length ≤ 1048576) (i : Int) : D57f58q l i = some (!tipOf l i) := by
  unfold D57f58q D54f58q
  have : loop B54f58q (.h1 l i (l.length : Int) 0) = some (ix (fun x : G53 => decide (x.Parent = i)) l) := by
    refine find_loop (S := fun j => S54f58q.h1 l i (l.length : Int) (j : Int)) (fun j x hx hj => ?_) ?_
    · simp only [B54f58q, D58, Int.ofNat_lt, hj, if_true, Int.natCast_nonneg, Int.toNat_natCast, hx, Option.bind_some, wsucc (show j < 9223372036854775807 by omega)]
      by_cases h1 : x.Parent = i <;> simp [h1]
    · simp [B54f58q]
  rw [this]
  simp only [Option.bind_some, ix_all]

theorem tips_take (l : List G53) (i : Nat) (hi : i < l.length) : ((List.range (i + 1)).map fun i : Nat => (i : Int)).filter (tipOf l) = ((List.range i).map fun i : Nat => (i : Int)).filter (tipOf l) ++ (if tipOf l i = true then [(i : Int)] else []) := by
  rw [List.range_succ, List.map_append, List.filter_append]
  congr 1
  simp only [List.map_cons, List.map_nil, List.filter_cons, List.filter_nil]

theorem e47 (l : List G53) (hl : l.length ≤ 1048576) : D47 l = some (tips l) := by
  unfold D47
  have key : ∀ (k i : Nat), i + k = l.length → loop B47 (.h1 l (l.length : Int) (i : Int) (((List.range i).map fun i : Nat => (i : Int)).filter (tipOf l))) = some (tips l) := by
    intro k
    induction k with
    | zero =>
      intro i h
      have : i = l.length := by omega
      subst this
      rw [loop_eq]
      simp only [B47]
      rw [if_neg (by omega)]
      rfl
    | succ k ih =>
      intro i h
      rw [loop_eq]
      simp only [B47]
      rw [if_pos (by omega), e57 l hl]
      simp only [Option.bind_some]
      have ht := tips_take l i (by omega)
      have := ih (i + 1) (by omega)
      rw [ht] at this
      by_cases h1 : tipOf l i = true
      · have hlen := List.length_filter_le (tipOf l) ((List.range i).map fun i : Nat => (i : Int))
        simp only [List.length_map, List.length_range] at hlen
        rw [if_pos h1] at this
        rw [if_neg (by simp [h1]), if_pos (by simp only [List.length_append, List.length_singleton]; omega), wsucc (by omega)]
        exact this
      · rw [if_neg h1, List.append_nil] at this
        rw [if_pos (by simpa using h1), wsucc (by omega)]
        exact this
  simpa using key l.length 0 (by omega)

theorem e46a (l : List G53) (hl : l.length ≤ 1048576) (i t : Int) : ∀ (k j : Nat) (b : Bool), j + k = l.length → loop B46 (.h2 l i b (l.length : Int) t l (l.length : Int) (j : Int)) =
    (if (b && (l.drop j).all fun x => decide (x.Parent ≠ i)) = true then loop B46 (.h3 l (l.length : Int) (IntKind.wrap .i64 (t + 1)) [i]) else loop B46 (.h1 l (l.length : Int) (IntKind.wrap .i64 (t + 1)))) := by
  intro k
  induction k with
  | zero =>
    intro j b h
    rw [loop_eq, List.drop_of_length_le (show l.length ≤ j by omega)]
    cases b
    · simp only [B46]
      rw [if_neg (by omega)]
      rfl
    · simp only [B46]
      rw [if_neg (by omega), if_pos (by simp)]
      rfl
  | succ k ih =>
    intro j b h
    have hlt : j < l.length := by omega
    rw [loop_eq, List.drop_eq_getElem_cons hlt]
    cases b
    · simp only [B46]
      rw [if_pos (by omega), if_pos (by omega), Int.toNat_natCast, List.getElem?_eq_getElem hlt, wsucc (by omega)]
      simp only [Option.bind_some, goOn]
      rw [ih (j + 1) false (by omega)]
      rfl
    · simp only [B46]
      rw [if_pos (by omega), if_pos (by omega), Int.toNat_natCast, List.getElem?_eq_getElem hlt, wsucc (by omega)]
      simp only [Option.bind_some, goOn]
      rw [ih (j + 1) _ (by omega)]
      generalize List.drop (j + 1) l = tl
      by_cases h1 : l[j].Parent = i <;> simp [h1]
theorem e46b (l : List G53) (hl : l.length ≤ 1048576) (i t : Int) (out : List Int) (ho : out.length ≤ 1048576) : ∀ (k j : Nat) (b : Bool), j + k = l.length → loop B46 (.h4 l i b (l.length : Int) t l (l.length : Int) (j : Int) out) =
    loop B46 (.h3 l (l.length : Int) (IntKind.wrap .i64 (t + 1)) (if (b && (l.drop j).all fun x => decide (x.Parent ≠ i)) = true then out ++ [i] else out)) := by
  intro k
  induction k with
  | zero =>
    intro j b h
    rw [loop_eq, List.drop_of_length_le (show l.length ≤ j by omega)]
    cases b
    · simp only [B46]
      rw [if_neg (by omega)]
      rfl
    · simp only [B46]
      rw [if_neg (by omega), if_pos (by simp; omega)]
      rfl
  | succ k ih =>
    intro j b h
    have hlt : j < l.length := by omega
    rw [loop_eq, List.drop_eq_getElem_cons hlt]
    cases b
    · simp only [B46]
      rw [if_pos (by omega), if_pos (by omega), Int.toNat_natCast, List.getElem?_eq_getElem hlt, wsucc (by omega)]
      simp only [Option.bind_some, goOn]
      rw [ih (j + 1) false (by omega)]
      rfl
    · simp only [B46]
      rw [if_pos (by omega), if_pos (by omega), Int.toNat_natCast, List.getElem?_eq_getElem hlt, wsucc (by omega)]
      simp only [Option.bind_some, goOn]
      rw [ih (j + 1) _ (by omega)]
      generalize List.drop (j + 1) l = tl
      by_cases h1 : l[j].Parent = i <;> simp [h1]

theorem e46 (l : List G53) (hl : l.length ≤ 1048576) : D46 l = some (tips l) := by
  unfold D46
  have k3 : ∀ (k i : Nat), i + k = l.length → loop B46 (.h3 l (l.length : Int) (i : Int) (((List.range i).map fun i : Nat => (i : Int)).filter (tipOf l))) = some (tips l) := by
    intro k
    induction k with
    | zero =>
      intro i h
      have : i = l.length := by omega
      subst this
      rw [loop_eq]
      simp only [B46]
      rw [if_neg (by omega)]
      rfl
    | succ k ih =>
      intro i h
      have hlen := List.length_filter_le (tipOf l) ((List.range i).map fun i : Nat => (i : Int))
      simp only [List.length_map, List.length_range] at hlen
      rw [loop_eq]
      simp only [B46]
      rw [if_pos (by omega)]
      simp only [goOn]
      rw [show (0 : Int) = ((0 : Nat) : Int) from rfl, e46b l hl _ _ _ (by omega) l.length 0 true (by omega), wsucc (by omega)]
      have := ih (i + 1) (by omega)
      rw [tips_take l i (by omega)] at this
      simp only [List.drop_zero, Bool.true_and]
      by_cases h1 : tipOf l i = true
      · rw [if_pos h1] at this
        rw [if_pos (by simpa [tipOf] using h1)]
        exact this
      · rw [if_neg h1, List.append_nil] at this
        rw [if_neg (by simpa [tipOf] using h1)]
        exact this
  have k1 : ∀ (k i : Nat), i + k = l.length → ((List.range i).map fun i : Nat => (i : Int)).filter (tipOf l) = [] → loop B46 (.h1 l (l.length : Int) (i : Int)) = some (tips l) := by
    intro k
    induction k with
    | zero =>
      intro i h he
      have : i = l.length := by omega
      subst this
      rw [loop_eq]
      simp only [B46]
      rw [if_neg (by omega)]
      unfold tips
      rw [he]
      rfl
    | succ k ih =>
      intro i h he
      rw [loop_eq]
      simp only [B46]
      rw [if_pos (by omega)]
      simp only [goOn]
      rw [show (0 : Int) = ((0 : Nat) : Int) from rfl, e46a l hl _ _ l.length 0 true (by omega), wsucc (by omega)]
      have ht := tips_take l i (by omega)
      rw [he, List.nil_append] at ht
      simp only [List.drop_zero, Bool.true_and]
      by_cases h1 : tipOf l i = true
      · rw [if_pos h1] at ht
        rw [if_pos (by simpa [tipOf] using h1), ← ht]
        exact k3 k (i + 1) (by omega)
      · rw [if_neg h1] at ht
        rw [if_neg (by simpa [tipOf] using h1)]
        exact ih (i + 1) (by omega) ht
  exact k1 l.length 0 (by omega) rfl

def turnAt (l : List G53) (i : Int) : Int := match l[i.toNat]? with | some x => x.Turn | none => 0
def better (l : List G53) (b x : Int) : Int := if b < 0 then x else if turnAt l x > turnAt l b then x else b
theorem tips_mem {l : List G53} {x : Int} (h : x ∈ tips l) : 0 ≤ x ∧ x < l.length := by
  simp only [tips, List.mem_filter, List.mem_map, List.mem_range] at h
  obtain ⟨⟨i, hi, rfl⟩, _⟩ := h
  omega
theorem tips_len (l : List G53) : (tips l).length ≤ l.length := by
  have hlen := List.length_filter_le (tipOf l) ((List.range l.length).map fun i : Nat => (i : Int))
  simpa [tips] using hlen
theorem turnAt_eq {l : List G53} {i : Int} (h : i < l.length) (h0 : 0 ≤ i) : ∃ x, l[i.toNat]? = some x ∧ turnAt l i = x.Turn := by
  have hlt : i.toNat < l.length := by omega
  exact ⟨_, List.getElem?_eq_getElem hlt, by simp [turnAt, List.getElem?_eq_getElem hlt]⟩
theorem e23' (l : List G53) (hl : l.length ≤ 1048576) : loop B23 (.h1 l (-1) ((tips l).length : Int) 0 (tips l)) = some ((tips l).foldl (better l) (-1), true) := by
  have hlen := tips_len l
  refine fold_loop (S := fun b i => S23.h1 l b ((tips l).length : Int) (i : Int) (tips l)) (I := fun b => b < l.length) (fin := fun b => (b, true)) (fun b i x hx hi hI => ?_) (fun b hI => ?_) (by omega)
  · obtain ⟨h0, h1⟩ := tips_mem (List.mem_of_getElem? hx)
    simp only [B23, Int.ofNat_lt, hi, if_true, Int.natCast_nonneg, Int.toNat_natCast, hx, Option.bind_some, wsucc (show i < 9223372036854775807 by omega), better]
    by_cases hb : b < 0
    · rw [if_pos hb, if_pos hb]; exact ⟨rfl, h1⟩
    · obtain ⟨y, hy, hy'⟩ := turnAt_eq h1 h0
      obtain ⟨z, hz, hz'⟩ := turnAt_eq hI (by omega)
      rw [if_neg hb, if_neg hb, if_pos h0, hy, hy', hz']
      simp only [Option.bind_some]
      rw [if_pos (by omega), hz]
      simp only [Option.bind_some]
      by_cases hc : y.Turn > z.Turn
      · rw [if_pos hc, if_pos hc]; exact ⟨rfl, h1⟩
      · rw [if_neg hc, if_neg hc]; exact ⟨rfl, hI⟩
  · simp [B23]
theorem e24' (l : List G53) (hl : l.length ≤ 1048576) : loop B24 (.h1 l (-1) ((tips l).length : Int) 0 (tips l)) = some ((tips l).foldl (better l) (-1), true) := by
  have hlen := tips_len l
  refine fold_loop (S := fun b i => S24.h1 l b ((tips l).length : Int) (i : Int) (tips l)) (I := fun b => b < l.length) (fin := fun b => (b, true)) (fun b i x hx hi hI => ?_) (fun b hI => ?_) (by omega)
  · obtain ⟨h0, h1⟩ := tips_mem (List.mem_of_getElem? hx)
    simp only [B24, Int.ofNat_lt, hi, if_true, Int.natCast_nonneg, Int.toNat_natCast, hx, Option.bind_some, wsucc (show i < 9223372036854775807 by omega), better]
    by_cases hb : b < 0
    · rw [if_pos hb, if_pos hb]; exact ⟨rfl, h1⟩
    · obtain ⟨y, hy, hy'⟩ := turnAt_eq h1 h0
      obtain ⟨z, hz, hz'⟩ := turnAt_eq hI (by omega)
      rw [if_neg hb, if_neg hb, if_pos h0, hy, hy', hz']
      simp only [Option.bind_some]
      rw [if_pos (by omega), hz]
      simp only [Option.bind_some]
      by_cases hc : y.Turn > z.Turn
      · rw [if_pos hc, if_pos hc]; exact ⟨rfl, h1⟩
      · rw [if_neg hc, if_neg hc]; exact ⟨rfl, hI⟩
  · simp [B24]

theorem e7 (l : List G55) (hl : l.length < 9223372036854775808) : D7 l = some true := by
  unfold D7
  rw [e14 l hl]
  simp only [Option.bind_some]
  by_cases h : (1048576 : Int) - (l.length : Int) < 0
  · rw [if_pos h]; rfl
  · have hl' : l.length ≤ 1048576 := by omega
    have hm : (l.map toN).length ≤ 1048576 := by simpa using hl'
    rw [if_neg h, if_neg h, e16 l hl']
    simp only [Option.bind_some]
    obtain ⟨r, h23, h24⟩ : ∃ r, D23 (l.map toN) = some r ∧ D24 (l.map toN) = some r := by
      unfold D23 D24
      rw [e36 _ hm, e17 _ hm, e46 _ hm, e47 _ hm]
      simp only [Option.bind_some]
      by_cases hb : tree (l.map toN) = true
      · rw [if_pos hb, if_pos hb, e23' _ hm, e24' _ hm]
        exact ⟨_, rfl, rfl⟩
      · rw [if_neg hb, if_neg hb]
        exact ⟨_, rfl, rfl⟩
    rw [h23, h24]
    simp [e18 _ hm]

/-! ### ChildOf -/
def addR (l : List G53) (p h : Int) : List G53 × Int × Bool := if ix (isCh p h) l ≥ 0 then (l, ix (isCh p h) l, true) else if (l.length : Int) = 40 ∨ turnAt l p = 30 then ([], 0, false) else (l ++ [⟨p, IntKind.wrap .i64 (turnAt l p + 1), h⟩], (l.length : Int), true)
theorem e49 (l : List G53) (hl : l.length ≤ 1048576) (p h : Int) (hp : 0 ≤ p) (hp' : p < l.length) : D49 l p h = some (addR l p h) := by
  obtain ⟨y, hy, hy'⟩ := turnAt_eq hp' hp
  unfold D49 addR
  rw [e53 l hl, hy']
  simp only [Option.bind_some]
  by_cases h1 : ix (isCh p h) l ≥ 0
  · rw [if_pos h1, if_pos h1, if_pos (by omega)]
  · rw [if_neg h1, if_neg h1]
    by_cases h2 : (l.length : Int) = 40
    · rw [if_pos h2, if_pos (.inl h2)]
    · rw [if_neg h2, if_pos hp, hy]
      simp only [Option.bind_some]
      by_cases h3 : y.Turn = 30
      · rw [if_pos h3, if_pos (.inr h3)]
      · rw [if_neg h3, if_pos (show l.length * 24 ≤ 70368744177664 by omega), if_pos hp, if_neg (show ¬ ((l.length : Int) = 40 ∨ y.Turn = 30) by omega), if_pos (by simp only [List.length_append, List.length_singleton]; omega)]
theorem e50 (l : List G53) (hl : l.length ≤ 1048576) (p h : Int) (hp : 0 ≤ p) (hp' : p < l.length) : D50 l p h = some (addR l p h) := by
  obtain ⟨y, hy, hy'⟩ := turnAt_eq hp' hp
  have hc : D59 l = some l := by unfold D59; rw [if_pos (by omega)]
  unfold D50 addR
  rw [e40 l hl, hy', hc]
  simp only [Option.bind_some]
  by_cases h1 : ix (isCh p h) l ≥ 0
  · rw [if_pos h1, if_pos h1]
  · rw [if_neg h1, if_neg h1]
    by_cases h2 : (l.length : Int) = 40
    · rw [if_pos h2, if_pos (.inl h2)]
    · rw [if_neg h2, if_pos hp, hy]
      simp only [Option.bind_some]
      by_cases h3 : y.Turn = 30
      · rw [if_pos h3, if_pos (.inr h3)]
      · rw [if_neg h3, if_pos hp, if_neg (show ¬ ((l.length : Int) = 40 ∨ y.Turn = 30) by omega), if_pos (by simp only [List.length_append, List.length_singleton]; omega)]

def childR (l : List G53) (p h : Int) : List G53 × Int × Bool := if (tree l && inr3 p 0 ((l.length : Int) - 1) && inr3 h 0 4611686016279904236) = true then addR l p h else ([], 0, false)
theorem e25 (l : List G53) (hl : l.length ≤ 1048576) (p h : Int) : D25 l p h = some (childR l p h) := by
  unfold D25 childR
  rw [e43 l hl, e48]
  simp only [Option.bind_some]
  by_cases h1 : tree l = true
  · by_cases h2 : inr3 p 0 ((l.length : Int) - 1) = true
    · have hp := inr3_iff.1 h2
      rw [e49 l hl p h hp.1 (by omega)]
      by_cases h3 : inr3 h 0 4611686016279904236 = true <;> simp [h1, h2, h3]
    · simp [h1, h2]
  · simp [h1]
theorem e26 (l : List G53) (hl : l.length ≤ 1048576) (p h : Int) : D26 l p h = some (childR l p h) := by
  unfold D26 childR
  rw [e17 l hl, e39 _ _ (by omega), e33]
  simp only [Option.bind_some]
  by_cases h1 : tree l = true
  · by_cases h2 : inr3 p 0 ((l.length : Int) - 1) = true
    · have hp := inr3_iff.1 h2
      rw [e50 l hl p h hp.1 (by omega)]
      by_cases h3 : inr3 h 0 4611686016279904236 = true <;> simp [h1, h2, h3]
    · simp [h1, h2]
  · simp [h1]
theorem childR_len (l : List G53) (hl : l.length ≤ 1048576) (p h : Int) : (childR l p h).1.length ≤ 1048577 := by
  unfold childR addR
  repeat' split
  all_goals simp only [List.length_append, List.length_singleton, List.length_nil]
  all_goals omega

def mkN (k : Int) : G53 := ⟨k, k + 1, k + 2⟩
theorem e27 (l : List G53) (hl : l.length ≤ 1048577) : D27 l 1 = some ((1 : Int) + (3 * l.length : Nat), marked mkN 3 1 l.length) := by
  unfold D27
  refine mark_loop (S := fun k i m => S27.h1 k (i : Int) m) (by decide) (by omega) (fun i k m x hm hi hx h0 hb => ?_) (fun k m hm => ?_) l rfl
  · have hlt : i < m.length := by omega
    have a1 : k + 1 + 1 = k + 2 := by omega
    have a2 : k + 2 + 1 = k + 3 := by omega
    simp only [B27, hm, Int.ofNat_lt, hi, if_true, Int.natCast_nonneg, Int.toNat_natCast, hx, Option.bind_some, List.getElem?_set, hlt, List.length_set]
    rw [wsucc (by omega), w64 (n := k + 1) (by omega), a1, w64 (n := k + 2) (by omega), a2, w64 (n := k + 3) (by omega)]
    simp [mkN, List.set_set]
  · simp [B27, hm]
theorem e28 (n : Nat) (hn : n ≤ 1048577) : D28 (marked mkN 3 1 n) 1 = some ((1 : Int) + (3 * n : Nat)) := by
  unfold D28
  have hlen := marked_len mkN 3 1 n
  refine held_loop (f := mkN) (c := 3) (n := n) (S := fun k i => S28.h1 (marked mkN 3 1 n) k (i : Int)) (by decide) (by omega) (fun i k hi hx h0 hb => ?_) (fun k => ?_)
  · have a1 : k + 1 + 1 = k + 2 := by omega
    have a2 : k + 2 + 1 = k + 3 := by omega
    simp only [B28, hlen, Int.ofNat_lt, hi, if_true, Int.natCast_nonneg, Int.toNat_natCast, hx, Option.bind_some]
    rw [wsucc (by omega), w64 (n := k + 1) (by omega), a1, w64 (n := k + 2) (by omega), a2, w64 (n := k + 3) (by omega)]
    simp [mkN]
  · simp [B28, hlen]

theorem e18' (l : List G53) (hl : l.length ≤ 1048577) : D18 l l = some true := by
  unfold D18
  rw [if_pos rfl]
  refine true_loop (S := fun i => S18.h1 l l (i : Int)) (n := l.length) (fun i hi => ?_) ?_
  · simp [B18, hi, D41, wsucc (show i < 9223372036854775807 by omega)]
  · simp [B18]

theorem e8 (l : List G55) (p h : Int) (hl : l.length < 9223372036854775808) : D8 l p h = some true := by
  unfold D8
  rw [e14 l hl]
  simp only [Option.bind_some]
  by_cases hn : (1048576 : Int) - (l.length : Int) < 0
  · rw [if_pos hn]; rfl
  · have hl' : l.length ≤ 1048576 := by omega
    have hm : (l.map toN).length ≤ 1048576 := by simpa using hl'
    have hc := childR_len (l.map toN) hm p h
    rw [if_neg hn, if_neg hn, e16 l hl']
    simp only [Option.bind_some, e25 _ hm, e26 _ hm, e18 _ hm, e18' _ hc, e27 (l.map toN) (by omega), e27 _ hc, e28 _ hc, marked_len]
    simp
    rw [if_neg (by omega), if_neg (by omega), if_neg (by omega)]

end Go.Proofs.Ytipolkdlaepcaaa.Ab
