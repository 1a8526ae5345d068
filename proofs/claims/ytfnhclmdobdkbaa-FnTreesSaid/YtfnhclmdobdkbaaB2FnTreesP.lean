/- Part of the proof of FnTrees: no condition of its own. -/
import Derived.Test.YtfnhclmdobdkbaaB2FnTreesD
import Derived.Test.YtfnhclmdobdkbaaPuA
set_option linter.unusedVariables false
set_option linter.unusedSimpArgs false
open Go
namespace Go.Proofs.Ytfnhclmdobdkbaa.Ab
def inr3 (n a b : Int) : Bool := decide (a ≤ n) && decide (n ≤ b)
theorem inr3_iff {n a b : Int} : inr3 n a b = true ↔ a ≤ n ∧ n ≤ b := by simp [inr3]
theorem th51 (n a b : Int) : Ds_l1In n a b = some (inr3 n a b) := by
  unfold Ds_l1In inr3; by_cases h : a ≤ n <;> simp [h]
theorem th38 (n a b : Int) : Di_inRange n a b = some (inr3 n a b) := by
  unfold Di_inRange inr3; by_cases h : a ≤ n <;> simp [h]
theorem th48 (n : Int) : Ds_dSeed n = some (inr3 n 0 4611686016279904236) := by simp [Ds_dSeed, th51]
theorem th33 (n : Int) : Di_isSeed n = some (inr3 n 0 4611686016279904236) := by simp [Di_isSeed, th38]
theorem th31 (n : Int) : Di_isTurn n = some (inr3 n 0 30) := by simp [Di_isTurn, th38]
def isCh (p h : Int) (x : Gi_Node) : Bool := decide (x.Parent = p) && decide (x.Hash = h)
theorem th53 (l : List Gi_Node) (hl : l.length ≤ 1048576) (p h : Int) : Ds_nChild l p h = some (ix (isCh p h) l) := by
  unfold Ds_nChild
  refine find_loop (S := fun i => Ss_nChild.h1 p h l (l.length : Int) (i : Int)) (fun i x hx hi => ?_) ?_
  · simp only [Bs_nChild, Int.ofNat_lt, hi, if_true, Int.natCast_nonneg, Int.toNat_natCast, hx, Option.bind_some, wsucc (show i < 9223372036854775807 by omega), isCh]
    by_cases h1 : x.Parent = p <;> by_cases h2 : x.Hash = h <;> simp [h1, h2]
  · simp [Bs_nChild]
theorem th40 (l : List Gi_Node) (hl : l.length ≤ 1048576) (p h : Int) : Di_childWith l p h = some (ix (isCh p h) l) := by
  unfold Di_childWith Dslices_IndexFunc_i_Node_i_childWith_1
  have : loop Bslices_IndexFunc_i_Node_i_childWith_1 (.h1 l p h (l.length : Int) 0) = some (ix (isCh p h) l) := by
    refine find_loop (S := fun i => Sslices_IndexFunc_i_Node_i_childWith_1.h1 l p h (l.length : Int) (i : Int)) (fun i x hx hi => ?_) ?_
    · simp only [Bslices_IndexFunc_i_Node_i_childWith_1, Di_childWith_1, Int.ofNat_lt, hi, if_true, Int.natCast_nonneg, Int.toNat_natCast, hx, Option.bind_some, wsucc (show i < 9223372036854775807 by omega), isCh]
      by_cases h1 : x.Parent = p <;> by_cases h2 : x.Hash = h <;> simp [h1, h2]
    · simp [Bslices_IndexFunc_i_Node_i_childWith_1]
  rw [this]
  rfl

def okn (l : List Gi_Node) (i : Nat) (x : Gi_Node) : Bool := inr3 x.Hash 0 4611686016279904236 &&
  (if i = 0 then decide (x.Parent = -1) && decide (x.Turn = 0) else
    inr3 x.Parent 0 ((i : Int) - 1) && (match l[x.Parent.toNat]? with | some y => decide (x.Turn = IntKind.wrap .i64 (y.Turn + 1)) | none => false) && decide (x.Turn ≤ 30) && decide (ix (isCh x.Parent x.Hash) (l.take i) < 0))
def tree (l : List Gi_Node) : Bool := inr3 l.length 1 40 && alli (okn l) l

theorem th36 (l : List Gi_Node) (hl : l.length ≤ 1048576) : Ds_nGood l = some (tree l) := by
  unfold Ds_nGood tree
  rw [th51]
  simp only [Option.bind_some]
  by_cases h0 : inr3 l.length 1 40 = true
  · rw [if_pos h0, h0, Bool.true_and]
    refine all_loop (S := fun i => Ss_nGood.h1 l l (l.length : Int) (i : Int)) (fun i x hx hi hb => ?_) ?_
    · simp only [Bs_nGood, Int.ofNat_lt, hi, if_true, Int.natCast_nonneg, Int.toNat_natCast, hx, Option.bind_some, wsucc (show i < 9223372036854775807 by omega), th48, okn]
      by_cases h1 : inr3 x.Hash 0 4611686016279904236 = true
      · simp only [h1, if_true, Bool.true_and]
        by_cases h2 : i = 0
        · subst h2
          by_cases h3 : x.Parent = -1 <;> by_cases h4 : x.Turn = 0 <;> simp [h3, h4]
        · rw [if_neg (by omega), th51, w64 (by omega), if_neg h2]
          simp only [Option.bind_some]
          by_cases h3 : inr3 x.Parent 0 ((i : Int) - 1) = true
          · obtain ⟨h4, h5⟩ := inr3_iff.1 h3
            have hlt : x.Parent.toNat < l.length := by omega
            rw [if_pos h3, if_pos h4, List.getElem?_eq_getElem hlt]
            simp only [h3, Bool.true_and, Option.bind_some]
            by_cases h6 : x.Turn = IntKind.wrap .i64 (l[x.Parent.toNat].Turn + 1)
            · rw [if_pos h6]
              simp only [decide_eq_true h6, Bool.true_and]
              by_cases h7 : x.Turn > 30
              · rw [if_pos h7]
                simp [show ¬ x.Turn ≤ 30 by omega]
              · rw [if_neg h7, if_pos (by omega), th53 _ (by simp; omega)]
                simp only [List.drop_zero, Nat.sub_zero, Option.bind_some, show x.Turn ≤ 30 by omega, decide_true, Bool.true_and]
                by_cases h8 : ix (isCh x.Parent x.Hash) (l.take i) < 0
                · rw [if_neg (by omega)]; simp [h8]
                · rw [if_pos (by omega)]; simp [h8]
            · rw [if_neg h6]
              simp [h6]
          · rw [if_neg h3]
            simp [h3]
      · simp [h1]
    · simp [Bs_nGood]
  · rw [if_neg h0]
    simp [h0]

theorem okn_pos {l : List Gi_Node} {i : Nat} {x : Gi_Node} (h : okn l i x = true) (hi : i ≠ 0) : inr3 x.Hash 0 4611686016279904236 = true ∧ 0 ≤ x.Parent ∧ x.Parent ≤ (i : Int) - 1 ∧ (∃ y, l[x.Parent.toNat]? = some y ∧ x.Turn = IntKind.wrap .i64 (y.Turn + 1)) ∧ x.Turn ≤ 30 ∧ ix (isCh x.Parent x.Hash) (l.take i) < 0 := by
  simp only [okn, Bool.and_eq_true] at h
  rw [if_neg hi] at h
  simp only [Bool.and_eq_true, inr3_iff, decide_eq_true_eq] at h
  obtain ⟨h1, ⟨⟨⟨h3, h4⟩, h5⟩, h6⟩⟩ := h
  refine ⟨inr3_iff.2 h1, h3.1, h3.2, ?_, h5, h6⟩
  split at h4
  · rename_i z hz
    exact ⟨z, hz, of_decide_eq_true h4⟩
  · cases h4
theorem okn_zero {l : List Gi_Node} {x : Gi_Node} (h : okn l 0 x = true) : x.Parent = -1 ∧ x.Turn = 0 := by
  simp [okn] at h
  exact h.2

theorem tree_turn {l : List Gi_Node} (n : Nat) (h : ∀ j y, j < n → l[j]? = some y → okn l j y = true) : ∀ j y, j < n → l[j]? = some y → 0 ≤ y.Turn ∧ y.Turn ≤ 30 := by
  intro j
  induction j using Nat.strongRecOn with
  | _ j ih =>
    intro y hj hy
    have h1 := h j y hj hy
    by_cases h2 : j = 0
    · subst h2
      have := okn_zero h1
      omega
    · obtain ⟨_, h3, h4, ⟨z, hz, h5⟩, h6, _⟩ := okn_pos h1 h2
      have := ih y.Parent.toNat (by omega) z (by omega) hz
      rw [w64 (by omega)] at h5
      omega

theorem ix_take {l : List Gi_Node} {i : Nat} {x : Gi_Node} (hx : l[i]? = some x) : ix (isCh x.Parent x.Hash) l = (i : Int) ↔ ix (isCh x.Parent x.Hash) (l.take i) < 0 := by
  have hi : i < l.length := (List.getElem?_eq_some_iff.1 hx).1
  have hp : isCh x.Parent x.Hash x = true := by simp [isCh]
  have hxi : l[i] = x := (List.getElem?_eq_some_iff.1 hx).2
  unfold ix
  constructor
  · intro h
    split at h
    · rename_i j hj
      have : j = i := by omega
      subst this
      rw [List.findIdx?_eq_some_iff_getElem] at hj
      have : (l.take j).findIdx? (isCh x.Parent x.Hash) = none := by
        rw [List.findIdx?_eq_none_iff]
        intro y hy
        obtain ⟨m, hm⟩ := List.getElem?_of_mem hy
        obtain ⟨hlt, he⟩ := List.getElem?_eq_some_iff.1 hm
        simp at hlt
        have := hj.2.2 m (by omega)
        simp at he
        rw [← he]
        simpa using this
      rw [this]
      decide
    · omega
  · intro h
    split at h
    · omega
    · rename_i hn
      rw [List.findIdx?_eq_none_iff] at hn
      have : l.findIdx? (isCh x.Parent x.Hash) = some i := by
        rw [List.findIdx?_eq_some_iff_getElem]
        refine ⟨hi, by rw [hxi]; exact hp, fun j hj => ?_⟩
        have := hn l[j] (List.mem_of_getElem? (i := j) (by rw [List.getElem?_take]; simp [hj]))
        simpa using this
      rw [this]

theorem th39 (i n : Int) (h : -9223372036854775808 ≤ n - 1 ∧ n - 1 ≤ 9223372036854775807) : Di_isIndex i n = some (inr3 i 0 (n - 1)) := by
  unfold Di_isIndex
  rw [w64 h, th38]
  rfl

theorem th17 (l : List Gi_Node) (hl : l.length ≤ 1048576) : Di_IsTree l = some (tree l) := by
  unfold Di_IsTree tree
  rw [th38]
  simp only [Option.bind_some]
  by_cases h0 : inr3 l.length 1 40 = true
  · rw [if_pos h0, h0, Bool.true_and]
    have hlen := inr3_iff.1 h0
    have h00 : 0 < l.length := by omega
    have hx0 : l[Int.toNat 0]? = some l[0] := List.getElem?_eq_getElem h00
    rw [hx0]
    simp only [Option.bind_some]
    have bad : ¬ (l[0].Parent = -1 ∧ l[0].Turn = 0) → alli (okn l) l = false := fun h => by
      have : ¬ alli (okn l) l = true := fun h' => h (okn_zero (alli_iff.1 h' 0 _ (List.getElem?_eq_getElem h00)))
      simpa using this
    by_cases h1 : l[0].Parent = -1
    · rw [if_pos h1]
      by_cases h2 : l[0].Turn = 0
      · rw [if_pos h2]
        refine all_loop (S := fun i => Si_IsTree.h1 l l (l.length : Int) (i : Int)) (fun i x hx hi hb => ?_) ?_
        · simp only [Bi_IsTree, Int.ofNat_lt, hi, if_true, Int.natCast_nonneg, Int.toNat_natCast, hx, Option.bind_some, wsucc (show i < 9223372036854775807 by omega), th33, okn]
          by_cases h3 : inr3 x.Hash 0 4611686016279904236 = true
          · simp only [h3, if_true, Bool.true_and]
            by_cases h4 : i = 0
            · subst h4
              have : x = l[0] := by rw [List.getElem?_eq_getElem h00] at hx; exact (Option.some.inj hx).symm
              subst this
              simp [h1, h2]
            · rw [if_pos (by omega), th39 _ _ (by omega), if_neg h4]
              simp only [Option.bind_some]
              by_cases h5 : inr3 x.Parent 0 ((i : Int) - 1) = true
              · obtain ⟨h6, h7⟩ := inr3_iff.1 h5
                have hlt : x.Parent.toNat < l.length := by omega
                rw [if_pos h5, if_pos h6, List.getElem?_eq_getElem hlt]
                simp only [h5, Bool.true_and, Option.bind_some]
                have ht := tree_turn i hb x.Parent.toNat _ (by omega) (List.getElem?_eq_getElem hlt)
                by_cases h8 : x.Turn = IntKind.wrap .i64 (l[x.Parent.toNat].Turn + 1)
                · rw [if_pos h8, th31]
                  simp only [decide_eq_true h8, Bool.true_and, Option.bind_some]
                  rw [w64 (by omega)] at h8
                  by_cases h9 : x.Turn ≤ 30
                  · rw [if_pos (inr3_iff.2 ⟨by omega, h9⟩), th40 _ hl]
                    simp only [Option.bind_some, h9, decide_true, Bool.true_and]
                    by_cases h10 : ix (isCh x.Parent x.Hash) l = (i : Int)
                    · rw [if_pos h10]
                      have := (ix_take hx).1 h10
                      simp [this]
                    · rw [if_neg h10]
                      have : ¬ ix (isCh x.Parent x.Hash) (l.take i) < 0 := fun h => h10 ((ix_take hx).2 h)
                      simp [this]
                  · rw [if_neg (fun h => h9 (inr3_iff.1 h).2)]
                    simp [h9]
                · rw [if_neg h8]
                  simp [h8]
              · rw [if_neg h5]
                simp [h5]
          · simp [h3]
        · simp [Bi_IsTree]
      · rw [if_neg h2, bad (fun h => h2 h.2)]
    · rw [if_neg h1, bad (fun h => h1 h.1)]
  · rw [if_neg h0]
    simp [h0]

theorem ix_neg {α : Type} {p : α → Bool} {l : List α} (h : ∀ x ∈ l, p x = false) : ix p l = -1 := by
  have : l.findIdx? p = none := by rw [List.findIdx?_eq_none_iff]; exact h
  simp [ix, this]
theorem ix_nn {α : Type} {p : α → Bool} {l : List α} {x : α} (hx : x ∈ l) (h : p x = true) : 0 ≤ ix p l := by
  unfold ix
  split
  · omega
  · rename_i hn
    rw [List.findIdx?_eq_none_iff] at hn
    rw [hn x hx] at h
    cases h

theorem tree_ok {l : List Gi_Node} (h : tree l = true) : 1 ≤ l.length ∧ l.length ≤ 40 ∧ ∀ (i : Nat) (x : Gi_Node), l[i]? = some x → okn l i x = true := by
  simp only [tree, Bool.and_eq_true, inr3_iff] at h
  exact ⟨by omega, by omega, alli_iff.1 h.2⟩

/-- From a node up to the first. -/
def ch (l : List Gi_Node) : Nat → Int → List Int
  | 0, _ => []
  | n + 1, i => if i ≥ 0 then i :: ch l n (match l[i.toNat]? with | some x => x.Parent | none => -1) else []

theorem ch_pos {l : List Gi_Node} {i : Int} {x : Gi_Node} (n : Nat) (h : i ≥ 0) (hx : l[i.toNat]? = some x) : ch l (n + 1) i = i :: ch l n x.Parent := by rw [ch, if_pos h, hx]
theorem ch_neg {l : List Gi_Node} {i : Int} (n : Nat) (h : ¬ i ≥ 0) : ch l (n + 1) i = [] := by rw [ch, if_neg h]

theorem ch_le (l : List Gi_Node) : ∀ n i, (ch l n i).length ≤ n
  | 0, i => Nat.le_refl _
  | n + 1, i => by
    unfold ch
    split
    · simp only [List.length_cons]
      have := ch_le l n (match l[i.toNat]? with | some x => x.Parent | none => -1)
      omega
    · simp

theorem par_lt {l : List Gi_Node} (h : tree l = true) {i : Nat} {x : Gi_Node} (hx : l[i]? = some x) : x.Parent < (i : Int) ∧ -1 ≤ x.Parent := by
  have h1 := (tree_ok h).2.2 i x hx
  by_cases h0 : i = 0
  · subst h0
    have := okn_zero h1
    omega
  · obtain ⟨_, h2, h3, _⟩ := okn_pos h1 h0
    omega

theorem th44' {l : List Gi_Node} (h : tree l = true) : ∀ (n : Nat) (i : Int) (acc : List Int), -1 ≤ i → i < n → i < l.length → acc.length + n ≤ 100 → loop Bs_nLine (.h1 l i acc) = some ((ch l n i).reverse ++ acc) := by
  intro n
  induction n with
  | zero =>
    intro i acc h1 h2 h3 h4
    rw [loop_eq]
    simp only [Bs_nLine]
    rw [if_neg (by omega)]
    rfl
  | succ n ih =>
    intro i acc h1 h2 h3 h4
    rw [loop_eq]
    simp only [Bs_nLine]
    by_cases h0 : i ≥ 0
    · have hlt : i.toNat < l.length := by omega
      have hx := List.getElem?_eq_getElem hlt
      have hp := par_lt h hx
      rw [if_pos h0, if_pos (by simp; omega), if_pos h0, hx]
      simp only [Option.bind_some, goOn]
      rw [ih _ _ hp.2 (by omega) (by omega) (by simp; omega), ch_pos n h0 hx]
      simp
    · rw [if_neg h0, ch_neg n h0]
      rfl
theorem th44 {l : List Gi_Node} (h : tree l = true) {i : Int} (h0 : 0 ≤ i) (h1 : i < l.length) : Ds_nLine l i = some (ch l 40 i).reverse := by
  obtain ⟨t1, t2, _⟩ := tree_ok h
  unfold Ds_nLine
  rw [th44' h 40 _ _ (by omega) (by omega) h1 (by simp)]
  simp

theorem th56 (l : List Int) (hl : l.length ≤ 1048576) : Dslices_Reverse_int l = some l.reverse := by
  unfold Dslices_Reverse_int
  rw [w64 (by omega)]
  refine rev_loop (S := fun i j m => Sslices_Reverse_int.h1 i j m) (fun i j m x y hij hm hj hx hy => ?_) (fun i j m h => ?_)
  · have h1 : i < m.length := by omega
    have hy' : (m.set i y)[j]? = some y := by rw [List.getElem?_set, if_neg (by omega)]; exact hy
    simp only [Bslices_Reverse_int]
    rw [if_pos (by omega), if_pos (by omega), Int.toNat_natCast, hy]
    simp only [Option.bind_some]
    rw [if_pos (by omega), Int.toNat_natCast, hx]
    simp only [Option.bind_some]
    rw [if_pos (by omega), if_pos (by omega), hy']
    simp only [Option.bind_some]
    rw [wsucc (by omega), w64 (by omega)]
  · simp only [Bslices_Reverse_int]
    rw [if_neg h]

theorem th45' {l : List Gi_Node} (h : tree l = true) : ∀ (n : Nat) (i : Int) (acc : List Int), -1 ≤ i → i < n → i < l.length → acc.length + n ≤ 100 → loop Bi_lineTo (.h1 l i acc) = some ((acc ++ ch l n i).reverse) := by
  intro n
  induction n with
  | zero =>
    intro i acc h1 h2 h3 h4
    rw [loop_eq]
    simp only [Bi_lineTo]
    rw [if_neg (by omega), th56 _ (by omega)]
    simp [goOn, ch]
  | succ n ih =>
    intro i acc h1 h2 h3 h4
    rw [loop_eq]
    simp only [Bi_lineTo]
    by_cases h0 : i ≥ 0
    · have hlt : i.toNat < l.length := by omega
      have hx := List.getElem?_eq_getElem hlt
      have hp := par_lt h hx
      rw [if_pos h0, if_pos (by simp; omega), if_pos h0, hx]
      simp only [Option.bind_some, goOn]
      rw [ih _ _ hp.2 (by omega) (by omega) (by simp; omega)]
      rw [ch_pos n h0 hx]
      simp
    · rw [if_neg h0, th56 _ (by omega), ch_neg n h0]
      simp [goOn]
theorem th45 {l : List Gi_Node} (h : tree l = true) {i : Int} (h0 : 0 ≤ i) (h1 : i < l.length) : Di_lineTo l i = some (ch l 40 i).reverse := by
  obtain ⟨t1, t2, _⟩ := tree_ok h
  unfold Di_lineTo
  rw [th45' h 40 _ _ (by omega) (by omega) h1 (by simp)]
  simp

/-- Where two lines part. -/
def fk : List Int → List Int → Int → Int
  | x :: a, y :: b, d => if x = y then fk a b x else d
  | _, _, d => d

theorem th21' (a b : List Int) (ha : a.length ≤ 40) : ∀ (k i : Nat) (d : Int), i + k = a.length → loop Bs_ForkOf (.h1 d i a b) = some (fk (a.drop i) (b.drop i) d, true) := by
  intro k
  induction k with
  | zero =>
    intro i d h
    rw [loop_eq]
    simp only [Bs_ForkOf]
    rw [if_neg (by omega), List.drop_of_length_le (show a.length ≤ i by omega)]
    rfl
  | succ k ih =>
    intro i d h
    have hlt : i < a.length := by omega
    rw [loop_eq]
    simp only [Bs_ForkOf]
    rw [if_pos (by omega), List.drop_eq_getElem_cons hlt]
    by_cases hb : i < b.length
    · rw [if_pos (by omega), if_pos (by omega), Int.toNat_natCast, List.getElem?_eq_getElem hlt, List.drop_eq_getElem_cons hb]
      simp only [Option.bind_some]
      rw [if_pos (by omega), List.getElem?_eq_getElem hb]
      simp only [Option.bind_some, fk]
      by_cases he : a[i] = b[i]
      · rw [if_pos he, if_pos (by omega), if_pos he, wsucc (by omega)]
        exact ih (i + 1) _ (by omega)
      · rw [if_neg he, if_neg he]
        rfl
    · rw [if_neg (by omega), List.drop_of_length_le (show b.length ≤ i by omega)]
      rfl
theorem th22' (a b : List Int) (ha : a.length ≤ 40) : ∀ (k i : Nat) (d : Int), i + k = a.length → loop Bi_ForkOf (.h1 d i a b) = some (fk (a.drop i) (b.drop i) d, true) := by
  intro k
  induction k with
  | zero =>
    intro i d h
    rw [loop_eq]
    simp only [Bi_ForkOf]
    rw [if_neg (by split <;> omega), List.drop_of_length_le (show a.length ≤ i by omega)]
    rfl
  | succ k ih =>
    intro i d h
    have hlt : i < a.length := by omega
    rw [loop_eq]
    simp only [Bi_ForkOf]
    rw [List.drop_eq_getElem_cons hlt]
    by_cases hb : i < b.length
    · rw [if_pos (by split <;> omega), if_pos (by omega), Int.toNat_natCast, List.getElem?_eq_getElem hlt, List.drop_eq_getElem_cons hb]
      simp only [Option.bind_some]
      rw [if_pos (by omega), List.getElem?_eq_getElem hb]
      simp only [Option.bind_some, fk]
      by_cases he : a[i] = b[i]
      · rw [if_pos he, if_pos (by omega), if_pos he, wsucc (by omega)]
        exact ih (i + 1) _ (by omega)
      · rw [if_neg he, if_neg he]
        rfl
    · rw [if_neg (by split <;> omega), List.drop_of_length_le (show b.length ≤ i by omega)]
      rfl

theorem th43 (l : List Gi_Node) (hl : l.length ≤ 1048576) (i : Int) : Ds_nNode l i = some (tree l && inr3 i 0 ((l.length : Int) - 1)) := by
  unfold Ds_nNode
  rw [th36 l hl]
  simp only [Option.bind_some]
  by_cases h : tree l = true
  · rw [if_pos h, w64 (by omega), th51, h]
    rfl
  · rw [if_neg h]
    simp [h]

/-- ForkOf -/
def forkR (l : List Gi_Node) (i k : Int) : Int × Bool := if (tree l && inr3 i 0 ((l.length : Int) - 1) && inr3 k 0 ((l.length : Int) - 1)) = true then (fk (ch l 40 i).reverse (ch l 40 k).reverse 0, true) else (0, false)
theorem th21 (l : List Gi_Node) (hl : l.length ≤ 1048576) (i k : Int) : Ds_ForkOf l i k = some (forkR l i k) := by
  unfold Ds_ForkOf forkR
  rw [th43 l hl, th43 l hl]
  simp only [Option.bind_some]
  by_cases h1 : tree l = true
  · by_cases h2 : inr3 i 0 ((l.length : Int) - 1) = true
    · by_cases h3 : inr3 k 0 ((l.length : Int) - 1) = true
      · have hi := inr3_iff.1 h2
        have hk := inr3_iff.1 h3
        have hlen := ch_le l 40 i
        have := th21' (ch l 40 i).reverse (ch l 40 k).reverse (by simpa using hlen) _ 0 0 (by rw [Nat.zero_add])
        simp only [h1, h2, h3, Bool.and_true, if_true, th44 h1 hi.1 (by omega), th44 h1 hk.1 (by omega), Option.bind_some]
        simpa using this
      · simp [h1, h2, h3]
    · simp [h1, h2]
  · simp [h1]
theorem th22 (l : List Gi_Node) (hl : l.length ≤ 1048576) (i k : Int) : Di_ForkOf l i k = some (forkR l i k) := by
  unfold Di_ForkOf forkR
  rw [th17 l hl, th39 _ _ (by omega), th39 _ _ (by omega)]
  simp only [Option.bind_some]
  by_cases h1 : tree l = true
  · by_cases h2 : inr3 i 0 ((l.length : Int) - 1) = true
    · by_cases h3 : inr3 k 0 ((l.length : Int) - 1) = true
      · have hi := inr3_iff.1 h2
        have hk := inr3_iff.1 h3
        have hlen := ch_le l 40 i
        have := th22' (ch l 40 i).reverse (ch l 40 k).reverse (by simpa using hlen) _ 0 0 (by rw [Nat.zero_add])
        simp only [h1, h2, h3, Bool.and_true, if_true, th45 h1 hi.1 (by omega), th45 h1 hk.1 (by omega), Option.bind_some]
        simpa using this
      · simp [h1, h2, h3]
    · simp [h1, h2]
  · simp [h1]

def tipOf (l : List Gi_Node) (i : Int) : Bool := l.all fun x => decide (x.Parent ≠ i)
def tips (l : List Gi_Node) : List Int := ((List.range l.length).map fun i : Nat => (i : Int)).filter (tipOf l)

theorem ix_all {l : List Gi_Node} {i : Int} : decide (ix (fun x : Gi_Node => decide (x.Parent = i)) l ≥ 0) = !tipOf l i := by
  by_cases h : tipOf l i = true
  · rw [h, ix_neg (fun x hx => by simp only [tipOf, List.all_eq_true, decide_eq_true_eq] at h; simpa using h x hx)]
    rfl
  · rw [Bool.not_eq_true] at h
    rw [h]
    simp only [tipOf, List.all_eq_false, decide_eq_true_eq, Decidable.not_not] at h
    obtain ⟨x, hx, he⟩ := h
    exact decide_eq_true (ix_nn hx (decide_eq_true he))
theorem th57 (l : List Gi_Node) (hl : l.length ≤ 1048576) (i : Int) : Dslices_ContainsFunc_i_Node_i_tipsOf_1 l i = some (!tipOf l i) := by
  unfold Dslices_ContainsFunc_i_Node_i_tipsOf_1 Dslices_IndexFunc_i_Node_i_tipsOf_1
  have : loop Bslices_IndexFunc_i_Node_i_tipsOf_1 (.h1 l i (l.length : Int) 0) = some (ix (fun x : Gi_Node => decide (x.Parent = i)) l) := by
    refine find_loop (S := fun j => Sslices_IndexFunc_i_Node_i_tipsOf_1.h1 l i (l.length : Int) (j : Int)) (fun j x hx hj => ?_) ?_
    · simp only [Bslices_IndexFunc_i_Node_i_tipsOf_1, Di_tipsOf_1, Int.ofNat_lt, hj, if_true, Int.natCast_nonneg, Int.toNat_natCast, hx, Option.bind_some, wsucc (show j < 9223372036854775807 by omega)]
      by_cases h1 : x.Parent = i <;> simp [h1]
    · simp [Bslices_IndexFunc_i_Node_i_tipsOf_1]
  rw [this]
  simp only [Option.bind_some, ix_all]

theorem tips_take (l : List Gi_Node) (i : Nat) (hi : i < l.length) : ((List.range (i + 1)).map fun i : Nat => (i : Int)).filter (tipOf l) = ((List.range i).map fun i : Nat => (i : Int)).filter (tipOf l) ++ (if tipOf l i = true then [(i : Int)] else []) := by
  rw [List.range_succ, List.map_append, List.filter_append]
  congr 1
  simp only [List.map_cons, List.map_nil, List.filter_cons, List.filter_nil]

theorem th47 (l : List Gi_Node) (hl : l.length ≤ 1048576) : Di_tipsOf l = some (tips l) := by
  unfold Di_tipsOf
  have key : ∀ (k i : Nat), i + k = l.length → loop Bi_tipsOf (.h1 l (l.length : Int) (i : Int) (((List.range i).map fun i : Nat => (i : Int)).filter (tipOf l))) = some (tips l) := by
    intro k
    induction k with
    | zero =>
      intro i h
      have : i = l.length := by omega
      subst this
      rw [loop_eq]
      simp only [Bi_tipsOf]
      rw [if_neg (by omega)]
      rfl
    | succ k ih =>
      intro i h
      rw [loop_eq]
      simp only [Bi_tipsOf]
      rw [if_pos (by omega), th57 l hl]
      simp only [Option.bind_some]
      have ht := tips_take l i (by omega)
      have := ih (i + 1) (by omega)
      rw [ht] at this
      by_cases h1 : tipOf l i = true
      · have hlen := List.length_filter_le (tipOf l) ((List.range i).map fun i : Nat => (i : Int))
        simp only [List.length_map, List.length_range] at hlen
        rw [if_pos h1] at this
        rw [if_neg (by simp [h1]), if_pos (by simp only [List.length_append, List.length_singleton]; omega), wsucc (by omega)]
        exact this
      · rw [if_neg h1, List.append_nil] at this
        rw [if_pos (by simpa using h1), wsucc (by omega)]
        exact this
  simpa using key l.length 0 (by omega)

theorem th46b (l : List Gi_Node) (hl : l.length ≤ 1048576) (i t : Int) (out : List Int) (ho : out.length ≤ 1048576) : ∀ (k j : Nat) (b : Bool), j + k = l.length → loop Bs_nTips (.h2 l i b (l.length : Int) t l (l.length : Int) (j : Int) out) =
    loop Bs_nTips (.h1 l (l.length : Int) (IntKind.wrap .i64 (t + 1)) (if (b && (l.drop j).all fun x => decide (x.Parent ≠ i)) = true then out ++ [i] else out)) := by
  intro k
  induction k with
  | zero =>
    intro j b h
    rw [loop_eq, List.drop_of_length_le (show l.length ≤ j by omega)]
    cases b
    · simp only [Bs_nTips]
      rw [if_neg (by omega)]
      rfl
    · simp only [Bs_nTips]
      rw [if_neg (by omega), if_pos (by simp; omega)]
      rfl
  | succ k ih =>
    intro j b h
    have hlt : j < l.length := by omega
    rw [loop_eq, List.drop_eq_getElem_cons hlt]
    cases b
    · simp only [Bs_nTips]
      rw [if_pos (by omega), if_pos (by omega), Int.toNat_natCast, List.getElem?_eq_getElem hlt, wsucc (by omega)]
      simp only [Option.bind_some, goOn]
      rw [ih (j + 1) false (by omega)]
      rfl
    · simp only [Bs_nTips]
      rw [if_pos (by omega), if_pos (by omega), Int.toNat_natCast, List.getElem?_eq_getElem hlt, wsucc (by omega)]
      simp only [Option.bind_some, goOn]
      rw [ih (j + 1) _ (by omega)]
      generalize List.drop (j + 1) l = tl
      by_cases h1 : l[j].Parent = i <;> simp [h1]

theorem th46 (l : List Gi_Node) (hl : l.length ≤ 1048576) : Ds_nTips l = some (tips l) := by
  unfold Ds_nTips
  have k3 : ∀ (k i : Nat), i + k = l.length → loop Bs_nTips (.h1 l (l.length : Int) (i : Int) (((List.range i).map fun i : Nat => (i : Int)).filter (tipOf l))) = some (tips l) := by
    intro k
    induction k with
    | zero =>
      intro i h
      have : i = l.length := by omega
      subst this
      rw [loop_eq]
      simp only [Bs_nTips]
      rw [if_neg (by omega)]
      rfl
    | succ k ih =>
      intro i h
      have hlen := List.length_filter_le (tipOf l) ((List.range i).map fun i : Nat => (i : Int))
      simp only [List.length_map, List.length_range] at hlen
      rw [loop_eq]
      simp only [Bs_nTips]
      rw [if_pos (by omega)]
      simp only [goOn]
      rw [show (0 : Int) = ((0 : Nat) : Int) from rfl, th46b l hl _ _ _ (by omega) l.length 0 true (by omega), wsucc (by omega)]
      have := ih (i + 1) (by omega)
      rw [tips_take l i (by omega)] at this
      simp only [List.drop_zero, Bool.true_and]
      by_cases h1 : tipOf l i = true
      · rw [if_pos h1] at this
        rw [if_pos (by simpa [tipOf] using h1)]
        exact this
      · rw [if_neg h1, List.append_nil] at this
        rw [if_neg (by simpa [tipOf] using h1)]
        exact this
  exact k3 l.length 0 (by omega)

def turnAt (l : List Gi_Node) (i : Int) : Int := match l[i.toNat]? with | some x => x.Turn | none => 0
def better (l : List Gi_Node) (b x : Int) : Int := if b < 0 then x else if turnAt l x > turnAt l b then x else b
theorem tips_mem {l : List Gi_Node} {x : Int} (h : x ∈ tips l) : 0 ≤ x ∧ x < l.length := by
  simp only [tips, List.mem_filter, List.mem_map, List.mem_range] at h
  obtain ⟨⟨i, hi, rfl⟩, _⟩ := h
  omega
theorem tips_len (l : List Gi_Node) : (tips l).length ≤ l.length := by
  have hlen := List.length_filter_le (tipOf l) ((List.range l.length).map fun i : Nat => (i : Int))
  simpa [tips] using hlen
theorem turnAt_eq {l : List Gi_Node} {i : Int} (h : i < l.length) (h0 : 0 ≤ i) : ∃ x, l[i.toNat]? = some x ∧ turnAt l i = x.Turn := by
  have hlt : i.toNat < l.length := by omega
  exact ⟨_, List.getElem?_eq_getElem hlt, by simp [turnAt, List.getElem?_eq_getElem hlt]⟩
theorem th23' (l : List Gi_Node) (hl : l.length ≤ 1048576) : loop Bs_MainTip (.h1 l (-1) ((tips l).length : Int) 0 (tips l)) = some ((tips l).foldl (better l) (-1), true) := by
  have hlen := tips_len l
  refine fold_loop (S := fun b i => Ss_MainTip.h1 l b ((tips l).length : Int) (i : Int) (tips l)) (I := fun b => b < l.length) (fin := fun b => (b, true)) (fun b i x hx hi hI => ?_) (fun b hI => ?_) (by omega)
  · obtain ⟨h0, h1⟩ := tips_mem (List.mem_of_getElem? hx)
    simp only [Bs_MainTip, Int.ofNat_lt, hi, if_true, Int.natCast_nonneg, Int.toNat_natCast, hx, Option.bind_some, wsucc (show i < 9223372036854775807 by omega), better]
    by_cases hb : b < 0
    · rw [if_pos hb, if_pos hb]; exact ⟨rfl, h1⟩
    · obtain ⟨y, hy, hy'⟩ := turnAt_eq h1 h0
      obtain ⟨z, hz, hz'⟩ := turnAt_eq hI (by omega)
      rw [if_neg hb, if_neg hb, if_pos h0, hy, hy', hz']
      simp only [Option.bind_some]
      rw [if_pos (by omega), hz]
      simp only [Option.bind_some]
      by_cases hc : y.Turn > z.Turn
      · rw [if_pos hc, if_pos hc]; exact ⟨rfl, h1⟩
      · rw [if_neg hc, if_neg hc]; exact ⟨rfl, hI⟩
  · simp [Bs_MainTip]
theorem th24' (l : List Gi_Node) (hl : l.length ≤ 1048576) : loop Bi_MainTip (.h1 l (-1) ((tips l).length : Int) 0 (tips l)) = some ((tips l).foldl (better l) (-1), true) := by
  have hlen := tips_len l
  refine fold_loop (S := fun b i => Si_MainTip.h1 l b ((tips l).length : Int) (i : Int) (tips l)) (I := fun b => b < l.length) (fin := fun b => (b, true)) (fun b i x hx hi hI => ?_) (fun b hI => ?_) (by omega)
  · obtain ⟨h0, h1⟩ := tips_mem (List.mem_of_getElem? hx)
    simp only [Bi_MainTip, Int.ofNat_lt, hi, if_true, Int.natCast_nonneg, Int.toNat_natCast, hx, Option.bind_some, wsucc (show i < 9223372036854775807 by omega), better]
    by_cases hb : b < 0
    · rw [if_pos hb, if_pos hb]; exact ⟨rfl, h1⟩
    · obtain ⟨y, hy, hy'⟩ := turnAt_eq h1 h0
      obtain ⟨z, hz, hz'⟩ := turnAt_eq hI (by omega)
      rw [if_neg hb, if_neg hb, if_pos h0, hy, hy', hz']
      simp only [Option.bind_some]
      rw [if_pos (by omega), hz]
      simp only [Option.bind_some]
      by_cases hc : y.Turn > z.Turn
      · rw [if_pos hc, if_pos hc]; exact ⟨rfl, h1⟩
      · rw [if_neg hc, if_neg hc]; exact ⟨rfl, hI⟩
  · simp [Bi_MainTip]

def addR (l : List Gi_Node) (p h : Int) : List Gi_Node × Int × Bool := if ix (isCh p h) l ≥ 0 then (l, ix (isCh p h) l, true) else if (l.length : Int) = 40 ∨ turnAt l p = 30 then ([], 0, false) else (l ++ [⟨p, IntKind.wrap .i64 (turnAt l p + 1), h⟩], (l.length : Int), true)
theorem th49 (l : List Gi_Node) (hl : l.length ≤ 1048576) (p h : Int) (hp : 0 ≤ p) (hp' : p < l.length) : Ds_nAdd l p h = some (addR l p h) := by
  obtain ⟨y, hy, hy'⟩ := turnAt_eq hp' hp
  unfold Ds_nAdd addR
  rw [th53 l hl, hy']
  simp only [Option.bind_some]
  by_cases h1 : ix (isCh p h) l ≥ 0
  · rw [if_pos h1, if_pos h1, if_pos (by omega)]
  · rw [if_neg h1, if_neg h1]
    by_cases h2 : (l.length : Int) = 40
    · rw [if_pos h2, if_pos (.inl h2)]
    · rw [if_neg h2, if_pos hp, hy]
      simp only [Option.bind_some]
      by_cases h3 : y.Turn = 30
      · rw [if_pos h3, if_pos (.inr h3)]
      · rw [if_neg h3, if_pos (show l.length * 24 ≤ 70368744177664 by omega), if_pos hp, if_neg (show ¬ ((l.length : Int) = 40 ∨ y.Turn = 30) by omega), if_pos (by simp only [List.length_append, List.length_singleton]; omega)]
theorem th50 (l : List Gi_Node) (hl : l.length ≤ 1048576) (p h : Int) (hp : 0 ≤ p) (hp' : p < l.length) : Di_childOf l p h = some (addR l p h) := by
  obtain ⟨y, hy, hy'⟩ := turnAt_eq hp' hp
  have hc : Dslices_Clone_i_Node l = some l := by unfold Dslices_Clone_i_Node; rw [if_pos (by omega)]
  unfold Di_childOf addR
  rw [th40 l hl, hy', hc]
  simp only [Option.bind_some]
  by_cases h1 : ix (isCh p h) l ≥ 0
  · rw [if_pos h1, if_pos h1]
  · rw [if_neg h1, if_neg h1]
    by_cases h2 : (l.length : Int) = 40
    · rw [if_pos h2, if_pos (.inl h2)]
    · rw [if_neg h2, if_pos hp, hy]
      simp only [Option.bind_some]
      by_cases h3 : y.Turn = 30
      · rw [if_pos h3, if_pos (.inr h3)]
      · rw [if_neg h3, if_pos hp, if_neg (show ¬ ((l.length : Int) = 40 ∨ y.Turn = 30) by omega), if_pos (by simp only [List.length_append, List.length_singleton]; omega)]

def childR (l : List Gi_Node) (p h : Int) : List Gi_Node × Int × Bool := if (tree l && inr3 p 0 ((l.length : Int) - 1) && inr3 h 0 4611686016279904236) = true then addR l p h else ([], 0, false)
theorem th25 (l : List Gi_Node) (hl : l.length ≤ 1048576) (p h : Int) : Ds_ChildOf l p h = some (childR l p h) := by
  unfold Ds_ChildOf childR
  rw [th43 l hl, th48]
  simp only [Option.bind_some]
  by_cases h1 : tree l = true
  · by_cases h2 : inr3 p 0 ((l.length : Int) - 1) = true
    · have hp := inr3_iff.1 h2
      rw [th49 l hl p h hp.1 (by omega)]
      by_cases h3 : inr3 h 0 4611686016279904236 = true <;> simp [h1, h2, h3]
    · simp [h1, h2]
  · simp [h1]
theorem th26 (l : List Gi_Node) (hl : l.length ≤ 1048576) (p h : Int) : Di_ChildOf l p h = some (childR l p h) := by
  unfold Di_ChildOf childR
  rw [th17 l hl, th39 _ _ (by omega), th33]
  simp only [Option.bind_some]
  by_cases h1 : tree l = true
  · by_cases h2 : inr3 p 0 ((l.length : Int) - 1) = true
    · have hp := inr3_iff.1 h2
      rw [th50 l hl p h hp.1 (by omega)]
      by_cases h3 : inr3 h 0 4611686016279904236 = true <;> simp [h1, h2, h3]
    · simp [h1, h2]
  · simp [h1]
theorem childR_len (l : List Gi_Node) (hl : l.length ≤ 1048576) (p h : Int) : (childR l p h).1.length ≤ 1048577 := by
  unfold childR addR
  repeat' split
  all_goals simp only [List.length_append, List.length_singleton, List.length_nil]
  all_goals omega

def lineR (l : List Gi_Node) (i : Int) : List Int × Bool := if (tree l && inr3 i 0 ((l.length : Int) - 1)) = true then ((ch l 40 i).reverse, true) else ([], false)
theorem sLineTo (l : List Gi_Node) (hl : l.length ≤ 1048576) (i : Int) : Ds_LineTo l i = some (lineR l i) := by
  unfold Ds_LineTo lineR
  rw [th43 l hl]
  simp only [Option.bind_some]
  by_cases h : (tree l && inr3 i 0 ((l.length : Int) - 1)) = true
  · rw [if_pos h, if_pos h]
    simp only [Bool.and_eq_true] at h
    have hi := inr3_iff.1 h.2
    rw [th44 h.1 hi.1 (by omega)]
    rfl
  · rw [if_neg h, if_neg h]
theorem iLineTo (l : List Gi_Node) (hl : l.length ≤ 1048576) (i : Int) : Di_LineTo l i = some (lineR l i) := by
  unfold Di_LineTo lineR
  rw [th17 l hl, th39 _ _ (by omega)]
  simp only [Option.bind_some]
  by_cases h1 : tree l = true
  · by_cases h2 : inr3 i 0 ((l.length : Int) - 1) = true
    · have hi := inr3_iff.1 h2
      rw [if_pos h1, if_pos h2, th45 h1 hi.1 (by omega)]
      simp [h1, h2]
    · simp [h1, h2]
  · simp [h1]
theorem lineR_len (l : List Gi_Node) (i : Int) : (lineR l i).1.length ≤ 40 := by
  unfold lineR
  have := ch_le l 40 i
  split <;> simp <;> omega

def tipsR (l : List Gi_Node) : List Int × Bool := if tree l = true then (tips l, true) else ([], false)
theorem sTipsOf (l : List Gi_Node) (hl : l.length ≤ 1048576) : Ds_TipsOf l = some (tipsR l) := by
  unfold Ds_TipsOf tipsR
  rw [th36 l hl, th46 l hl]
  simp only [Option.bind_some]
  split <;> rfl
theorem iTipsOf (l : List Gi_Node) (hl : l.length ≤ 1048576) : Di_TipsOf l = some (tipsR l) := by
  unfold Di_TipsOf tipsR
  rw [th17 l hl, th47 l hl]
  simp only [Option.bind_some]
  split <;> rfl
theorem tipsR_len (l : List Gi_Node) (hl : l.length ≤ 1048576) : (tipsR l).1.length ≤ 1048576 := by
  unfold tipsR
  have := tips_len l
  split <;> simp <;> omega
def plAt (pl : List Int) (i : Int) : Int := match pl[i.toNat]? with | some x => x | none => 0
def gr : List Gi_Node → List Gi_Node → List Int → List Gi_Node × List Int × Bool
  | [], l, pl => (l, pl, true)
  | x :: r, l, pl => if (addR l (plAt pl x.Parent) x.Hash).2.2 = true then gr r (addR l (plAt pl x.Parent) x.Hash).1 (pl ++ [(addR l (plAt pl x.Parent) x.Hash).2.1]) else ([], [], false)

theorem ix_lt {α : Type} (p : α → Bool) (l : List α) : ix p l < l.length ∨ ix p l = -1 := by
  unfold ix
  split
  · rename_i i hi
    rw [List.findIdx?_eq_some_iff_getElem] at hi
    obtain ⟨h, _⟩ := hi
    exact .inl (by omega)
  · exact .inr rfl

theorem addR_ok (l : List Gi_Node) (p h : Int) (hl : l.length ≤ 40) (ht : (addR l p h).2.2 = true) : l.length ≤ (addR l p h).1.length ∧ (addR l p h).1.length ≤ 40 ∧ 0 ≤ (addR l p h).2.1 ∧ (addR l p h).2.1 < (addR l p h).1.length := by
  unfold addR at ht ⊢
  split
  · rename_i h1
    rcases ix_lt (isCh p h) l with h2 | h2
    · exact ⟨Nat.le_refl _, hl, h1, h2⟩
    · omega
  · split
    · rename_i h1 h2
      rw [if_neg h1, if_pos h2] at ht
      cases ht
    · rename_i h1 h2
      simp only [List.length_append, List.length_singleton]
      omega

structure GrI (b : List Gi_Node) (l : List Gi_Node) (pl : List Int) (i : Nat) : Prop where
  hpl : pl.length = i + 1
  hi : i + 1 ≤ b.length
  hl : l.length ≤ 40
  ok : ∀ x ∈ pl, 0 ≤ x ∧ x < l.length

theorem gr_loop {b : List Gi_Node} (hb : tree b = true) : ∀ (k i : Nat) (l : List Gi_Node) (pl : List Int), i + k + 1 = b.length → GrI b l pl i →
    loop Bs_GraftTree (.h1 (b.drop 1) ((b.drop 1).length : Int) (i : Int) l pl) = some (gr ((b.drop 1).drop i) l pl) ∧
    loop Bi_GraftTree (.h1 (b.drop 1) ((b.drop 1).length : Int) (i : Int) l pl) = some (gr ((b.drop 1).drop i) l pl) := by
  obtain ⟨t1, t2, t3⟩ := tree_ok hb
  have hlen : (b.drop 1).length = b.length - 1 := by simp
  intro k
  induction k with
  | zero =>
    intro i l pl h hI
    rw [List.drop_of_length_le (show (b.drop 1).length ≤ i by omega)]
    constructor
    · rw [loop_eq]
      simp only [Bs_GraftTree]
      rw [if_neg (by omega)]
      rfl
    · rw [loop_eq]
      simp only [Bi_GraftTree]
      rw [if_neg (by omega)]
      rfl
  | succ k ih =>
    intro i l pl h hI
    have hlt : i < (b.drop 1).length := by omega
    obtain ⟨x, hx⟩ : ∃ x, (b.drop 1)[i]? = some x := ⟨_, List.getElem?_eq_getElem hlt⟩
    have hx1 : (b.drop 1)[i] = x := (List.getElem?_eq_some_iff.1 hx).2
    have hbx : b[i + 1]? = some x := by rw [List.getElem?_drop] at hx; rwa [Nat.add_comm] at hx
    obtain ⟨_, p1, p2, _⟩ := okn_pos (t3 (i + 1) x hbx) (by omega)
    have hpl : x.Parent.toNat < pl.length := by rw [hI.hpl]; omega
    have hp : pl[x.Parent.toNat]? = some pl[x.Parent.toNat] := List.getElem?_eq_getElem hpl
    have hpa : plAt pl x.Parent = pl[x.Parent.toNat] := by simp [plAt, hp]
    have hok := hI.ok _ (List.getElem_mem hpl)
    have hadd := addR_ok l pl[x.Parent.toNat] x.Hash hI.hl
    rw [List.drop_eq_getElem_cons hlt, hx1]
    simp only [gr, hpa]
    have hl2 := hI.hl
    by_cases hr : (addR l pl[x.Parent.toNat] x.Hash).2.2 = true
    · obtain ⟨a1, a2, a3, a4⟩ := hadd hr
      have hI' : GrI b (addR l pl[x.Parent.toNat] x.Hash).1 (pl ++ [(addR l pl[x.Parent.toNat] x.Hash).2.1]) (i + 1) := by
        refine ⟨by simp [hI.hpl], by omega, a2, fun y hy => ?_⟩
        rcases List.mem_append.1 hy with hy | hy
        · have := hI.ok y hy
          omega
        · rw [List.mem_singleton] at hy
          subst hy
          exact ⟨a3, a4⟩
      obtain ⟨i1, i2⟩ := ih (i + 1) _ _ (by omega) hI'
      rw [if_pos hr]
      constructor
      · rw [loop_eq]
        simp only [Bs_GraftTree]
        rw [if_pos (by omega), if_pos (by omega), Int.toNat_natCast, hx]
        simp only [Option.bind_some]
        rw [if_pos p1, hp]
        simp only [Option.bind_some]
        rw [th49 l (by omega) _ _ hok.1 hok.2]
        simp only [Option.bind_some]
        rw [if_pos hr, if_pos (by simp [hI.hpl]; omega), wsucc (by omega)]
        exact i1
      · rw [loop_eq]
        simp only [Bi_GraftTree]
        rw [if_pos (by omega), if_pos (by omega), Int.toNat_natCast, hx]
        simp only [Option.bind_some]
        rw [if_pos p1, hp]
        simp only [Option.bind_some]
        rw [th50 l (by omega) _ _ hok.1 hok.2]
        simp only [Option.bind_some]
        rw [if_pos hr, if_pos (by simp [hI.hpl]; omega), wsucc (by omega)]
        exact i2
    · rw [if_neg hr]
      constructor
      · rw [loop_eq]
        simp only [Bs_GraftTree]
        rw [if_pos (by omega), if_pos (by omega), Int.toNat_natCast, hx]
        simp only [Option.bind_some]
        rw [if_pos p1, hp]
        simp only [Option.bind_some]
        rw [th49 l (by omega) _ _ hok.1 hok.2]
        simp only [Option.bind_some]
        rw [if_neg hr]
        rfl
      · rw [loop_eq]
        simp only [Bi_GraftTree]
        rw [if_pos (by omega), if_pos (by omega), Int.toNat_natCast, hx]
        simp only [Option.bind_some]
        rw [if_pos p1, hp]
        simp only [Option.bind_some]
        rw [th50 l (by omega) _ _ hok.1 hok.2]
        simp only [Option.bind_some]
        rw [if_neg hr]
        rfl

theorem gr_len (b : List Gi_Node) : ∀ (l : List Gi_Node) (pl : List Int), l.length ≤ 40 → (gr b l pl).1.length ≤ 40 ∧ (gr b l pl).2.1.length ≤ pl.length + b.length := by
  induction b with
  | nil => intro l pl h; exact ⟨h, by simp [gr]⟩
  | cons x r ih =>
    intro l pl h
    simp only [gr]
    split
    · rename_i hr
      have := ih _ (pl ++ [(addR l (plAt pl x.Parent) x.Hash).2.1]) (addR_ok l _ _ h hr).2.1
      simp only [List.length_append, List.length_singleton, List.length_cons, List.length_nil] at this ⊢
      omega
    · simp

def rootH (l : List Gi_Node) : Int := match l[0]? with | some x => x.Hash | none => 0
def graftR (a b : List Gi_Node) : List Gi_Node × List Int × Bool := if (tree a && tree b && decide (rootH a = rootH b)) = true then gr (b.drop 1) a [0] else ([], [], false)

theorem graft_both (a b : List Gi_Node) (ha : a.length ≤ 1048576) (hb : b.length ≤ 1048576) : Ds_GraftTree a b = some (graftR a b) ∧ Di_GraftTree a b = some (graftR a b) := by
  unfold Ds_GraftTree Di_GraftTree graftR
  rw [th36 a ha, th36 b hb, th17 a ha, th17 b hb]
  simp only [Option.bind_some]
  by_cases h1 : tree a = true
  · by_cases h2 : tree b = true
    · obtain ⟨a1, a2, a3⟩ := tree_ok h1
      obtain ⟨b1, b2, b3⟩ := tree_ok h2
      have ha0 : a[(0 : Int).toNat]? = some a[0] := List.getElem?_eq_getElem (by omega)
      have hb0 : b[(0 : Int).toNat]? = some b[0] := List.getElem?_eq_getElem (by omega)
      have hra : rootH a = a[0].Hash := by simp [rootH, List.getElem?_eq_getElem (show 0 < a.length by omega)]
      have hrb : rootH b = b[0].Hash := by simp [rootH, List.getElem?_eq_getElem (show 0 < b.length by omega)]
      rw [if_pos h1, if_pos h2, if_pos h1, if_pos h2, ha0, hb0, hra, hrb]
      simp only [Option.bind_some]
      by_cases h3 : a[0].Hash = b[0].Hash
      · have htk : List.take (b.length - Int.toNat 1) (List.drop (Int.toNat 1) b) = b.drop 1 := by
          rw [show Int.toNat 1 = 1 from rfl]
          exact List.take_of_length_le (by simp)
        have hc : Dslices_Clone_i_Node a = some a := by unfold Dslices_Clone_i_Node; rw [if_pos (by omega)]
        have := gr_loop h2 (b.length - 1) 0 a [0] (by omega) ⟨rfl, by omega, a2, fun x hx => by rw [List.mem_singleton] at hx; subst hx; omega⟩
        rw [List.drop_zero] at this
        rw [htk, hc, if_pos (show (tree a && tree b && decide (a[0].Hash = b[0].Hash)) = true by simp [h1, h2, h3])]
        constructor
        · rw [if_pos h3, if_pos (by omega), if_pos (by omega)]
          exact this.1
        · rw [if_pos h3]
          simp only [Option.bind_some]
          rw [if_pos (by omega)]
          exact this.2
      · rw [if_neg h3, if_neg h3, if_neg (by simp [h3])]
        exact ⟨rfl, rfl⟩
    · rw [if_pos h1, if_neg h2, if_pos h1, if_neg h2, if_neg (by simp [h2])]
      exact ⟨rfl, rfl⟩
  · rw [if_neg h1, if_neg h1, if_neg (by simp [h1])]
    exact ⟨rfl, rfl⟩
theorem graftR_len (a b : List Gi_Node) : (graftR a b).1.length ≤ 40 ∧ (graftR a b).2.1.length ≤ 100 := by
  unfold graftR
  split
  · rename_i h
    simp only [Bool.and_eq_true] at h
    obtain ⟨_, a2, _⟩ := tree_ok h.1.1
    obtain ⟨_, b2, _⟩ := tree_ok h.1.2
    have := gr_len (b.drop 1) a [0] a2
    simp only [List.length_drop, List.length_singleton] at this
    omega
  · simp

structure Cu (c : Gs_l1Cur) (k : Int) : Prop where
  at0 : 0 ≤ c.at_
  atk : c.at_ ≤ k
  kk : k ≤ 1099511627776
  code : ∀ x ∈ c.code, 0 ≤ x ∧ x < 256
  len : c.code.length ≤ 1048576

theorem Cu.mono {c : Gs_l1Cur} {k k' : Int} (h : Cu c k) (hk : k ≤ k') (hb : k' ≤ 1099511627776) : Cu c k' := ⟨h.at0, by have := h.atk; omega, hb, h.code, h.len⟩

theorem and255 (x : Int) : 0 ≤ IntKind.wrap .i64 (IntKind.wrap .u64 ((BitVec.toNat (BitVec.ofInt (IntKind.bits .u64) x &&& BitVec.ofInt (IntKind.bits .u64) 255) : Nat) : Int)) ∧ IntKind.wrap .i64 (IntKind.wrap .u64 ((BitVec.toNat (BitVec.ofInt (IntKind.bits .u64) x &&& BitVec.ofInt (IntKind.bits .u64) 255) : Nat) : Int)) < 256 := by
  have h : (BitVec.ofInt (IntKind.bits .u64) x &&& BitVec.ofInt (IntKind.bits .u64) 255).toNat ≤ 255 := by
    rw [BitVec.toNat_and]
    have e : (BitVec.ofInt (IntKind.bits .u64) 255).toNat = 255 := by decide
    rw [e]
    exact Nat.and_le_right
  generalize (BitVec.ofInt (IntKind.bits .u64) x &&& BitVec.ofInt (IntKind.bits .u64) 255).toNat = n at h
  have h2 : IntKind.wrap .u64 (n : Int) = (n : Int) := by
    simp only [IntKind.wrap, IntKind.bits, IntKind.signed]
    simp
    omega
  rw [h2, w64 (by omega)]
  omega

theorem cuNext {c : Gs_l1Cur} {k : Int} (h : Cu c k) (hk : k + 1 ≤ 1099511627776) : ∃ v c', Ds_l1Cur_next c = some (v, c') ∧ (0 ≤ v ∧ v < 256) ∧ Cu c' (k + 1) := by
  have h0 := h.at0
  have h1 := h.atk
  have mk : ∀ s, Cu ⟨c.code, c.at_ + 1, s⟩ (k + 1) := fun s => ⟨by simp only; omega, by simp only; omega, hk, h.code, h.len⟩
  unfold Ds_l1Cur_next
  rw [w64 (n := c.at_ + 1) (by omega)]
  by_cases ha : c.at_ < (c.code.length : Int)
  · have hlt : c.at_.toNat < c.code.length := by omega
    have hx := List.getElem?_eq_getElem hlt
    have hv := h.code _ (List.mem_of_getElem? hx)
    rw [if_pos ha, if_pos h0, hx]
    simp only [Option.bind_some]
    split
    · exact ⟨_, _, rfl, by rw [w64 (by omega)]; exact hv, mk _⟩
    · exact ⟨_, _, rfl, and255 _, mk _⟩
  · rw [if_neg ha]
    split
    · exact ⟨_, _, rfl, by omega, mk _⟩
    · exact ⟨_, _, rfl, and255 _, mk _⟩

theorem cuPick {c : Gs_l1Cur} {k : Int} (h : Cu c k) (hk : k + 2 ≤ 1099511627776) (n : Int) : ∃ v c', Ds_l1Cur_pick c n = some (v, c') ∧ (0 ≤ v ∧ (1 ≤ n → v < n) ∧ v ≤ 65535) ∧ Cu c' (k + 2) := by
  unfold Ds_l1Cur_pick
  by_cases h1 : n ≤ 1
  · rw [if_pos h1]
    exact ⟨_, _, rfl, by omega, h.mono (by omega) hk⟩
  · rw [if_neg h1]
    obtain ⟨v, c1, e1, hv, hc1⟩ := cuNext h (by omega)
    rw [e1]
    simp only [Option.bind_some]
    by_cases h2 : n > 200
    · rw [if_pos h2]
      obtain ⟨u, c2, e2, hu, hc2⟩ := cuNext hc1 (by omega)
      rw [e2]
      simp only [Option.bind_some]
      rw [if_pos (by omega), w64 (n := v * 256) (by omega), w64 (by omega)]
      have a1 := Int.tmod_nonneg n (show 0 ≤ v * 256 + u by omega)
      have a2 := Int.tmod_lt_of_pos (v * 256 + u) (show 0 < n by omega)
      have a3 : Int.tmod (v * 256 + u) n ≤ v * 256 + u := by
        have b1 := Int.mul_tdiv_add_tmod (v * 256 + u) n
        have b2 := Int.mul_nonneg (show 0 ≤ n by omega) (Int.tdiv_nonneg (show 0 ≤ v * 256 + u by omega) (show 0 ≤ n by omega))
        omega
      exact ⟨_, _, rfl, ⟨a1, fun _ => a2, by omega⟩, by have := hc2; rw [Int.add_assoc] at this; exact this⟩
    · rw [if_neg h2, if_pos (by omega)]
      have a1 := Int.tmod_nonneg n hv.1
      have a2 := Int.tmod_lt_of_pos v (show 0 < n by omega)
      exact ⟨_, _, rfl, ⟨a1, fun _ => a2, by omega⟩, hc1.mono (by omega) hk⟩

theorem cuOne {c : Gs_l1Cur} {k : Int} (h : Cu c k) (hk : k + 2 ≤ 1099511627776) (n : Int) : ∃ v c', Ds_l1Cur_one c n = some (v, c') ∧ Cu c' (k + 2) := by
  obtain ⟨v, c1, e1, _, hc1⟩ := cuPick h hk n
  unfold Ds_l1Cur_one
  rw [e1]
  exact ⟨_, _, rfl, hc1⟩

theorem cuAmong {c : Gs_l1Cur} {k : Int} (h : Cu c k) (hk : k + 2 ≤ 1099511627776) (l : List Int) (hl : 0 < l.length) : ∃ v c', Ds_l1Cur_among c l = some (v, c') ∧ v ∈ l ∧ Cu c' (k + 2) := by
  obtain ⟨v, c1, e1, hv, hc1⟩ := cuPick h hk l.length
  unfold Ds_l1Cur_among
  rw [e1]
  have hlt : v.toNat < l.length := by have := hv.2.1 (by omega); omega
  have hx := List.getElem?_eq_getElem hlt
  simp only [Option.bind_some]
  rw [if_pos hv.1, hx]
  exact ⟨_, _, rfl, List.mem_of_getElem? hx, hc1⟩

theorem cuSeedOf {c : Gs_l1Cur} {k : Int} (h : Cu c k) (hk : k + 4 ≤ 1099511627776) : ∃ v c', Ds_l1Cur_seedOf c = some (v, c') ∧ Cu c' (k + 4) := by
  obtain ⟨v, c1, e1, _, hc1⟩ := cuPick h (by omega) 12
  unfold Ds_l1Cur_seedOf
  rw [e1]
  simp only [Option.bind_some]
  split
  · exact ⟨_, _, rfl, hc1.mono (by omega) hk⟩
  · split
    · obtain ⟨u, c2, e2, _, hc2⟩ := cuAmong hc1 (by omega) [4611686016279904236, 123456789012] (by decide)
      rw [e2]
      exact ⟨_, _, rfl, hc2.mono (by omega) hk⟩
    · obtain ⟨u, c2, e2, _, hc2⟩ := cuPick hc1 (by omega) 60000
      rw [e2]
      exact ⟨_, _, rfl, hc2.mono (by omega) hk⟩

theorem cuAnySeed {c : Gs_l1Cur} {k : Int} (h : Cu c k) (hk : k + 6 ≤ 1099511627776) : ∃ v c', Ds_l1Cur_anySeed c = some (v, c') ∧ Cu c' (k + 6) := by
  obtain ⟨v, c1, e1, hc1⟩ := cuOne h (by omega) 24
  unfold Ds_l1Cur_anySeed
  rw [e1]
  simp only [Option.bind_some]
  split
  · obtain ⟨u, c2, e2, _, hc2⟩ := cuAmong hc1 (by omega) [(-1), 4611686016279904237] (by decide)
    rw [e2]
    exact ⟨_, _, rfl, hc2.mono (by omega) hk⟩
  · obtain ⟨u, c2, e2, hc2⟩ := cuSeedOf hc1 (by omega)
    rw [e2]
    exact ⟨_, _, rfl, hc2.mono (by omega) hk⟩

theorem cu0 {code : List Int} (h : ∀ x ∈ code, 0 ≤ x ∧ x < 256) (hl : code.length ≤ 1048576) : Cu ⟨code, 0, 0⟩ 0 := ⟨Int.le_refl _, Int.le_refl _, by decide, h, hl⟩

theorem eSameInts (l : List Int) (hl : l.length ≤ 1048577) : Dw_sameInts l l = some true := by
  unfold Dw_sameInts
  rw [if_pos rfl]
  refine true_loop (S := fun i => Sw_sameInts.h1 l l (l.length : Int) (i : Int)) (n := l.length) (fun i hi => ?_) ?_
  · simp [Bw_sameInts, hi, wsucc (show i < 9223372036854775807 by omega)]
  · simp [Bw_sameInts]

theorem eBig (a b : List Int) (ha : a.length < 9223372036854775808) (hb : b.length < 9223372036854775808) : Dw_big a b = some (decide (1048576 < a.length + b.length)) := by
  unfold Dw_big
  by_cases h : (a.length : Int) > 1048576
  · rw [if_pos h, decide_eq_true (by omega)]
  · rw [if_neg h, w64 (by omega)]
    congr 1
    by_cases h2 : 1048576 < a.length + b.length
    · rw [decide_eq_true h2]; exact decide_eq_true (by omega)
    · rw [decide_eq_false h2]; exact decide_eq_false (by omega)

/-- A node is as good in a longer list. -/
theorem okn_app {l r : List Gi_Node} {i : Nat} {x : Gi_Node} (h : okn l i x = true) (hi : i ≤ l.length) (hl : l.length ≤ 40) : okn (l ++ r) i x = true := by
  by_cases h0 : i = 0
  · subst h0
    simpa [okn] using h
  · obtain ⟨h1, h2, h3, ⟨y, hy, h4⟩, h5, h6⟩ := okn_pos h h0
    have hlt : x.Parent.toNat < l.length := (List.getElem?_eq_some_iff.1 hy).1
    simp only [okn, Bool.and_eq_true]
    rw [if_neg h0]
    simp only [Bool.and_eq_true, inr3_iff, decide_eq_true_eq]
    refine ⟨inr3_iff.1 h1, ⟨⟨⟨h2, h3⟩, ?_⟩, h5⟩, ?_⟩
    · rw [List.getElem?_append_left hlt, hy]
      exact decide_eq_true h4
    · rw [List.take_append_of_le_length hi]
      exact h6

theorem turnAt_get {l : List Gi_Node} {p : Int} {y : Gi_Node} (h : l[p.toNat]? = some y) : turnAt l p = y.Turn := by
  unfold turnAt
  rw [h]

/-- What is added to a tree leaves a tree. -/
theorem addR_tree {l : List Gi_Node} {p h : Int} (ht : tree l = true) (hp : 0 ≤ p) (hp' : p < l.length) (hh : inr3 h 0 4611686016279904236 = true) (ho : (addR l p h).2.2 = true) : tree (addR l p h).1 = true := by
  obtain ⟨t1, t2, t3⟩ := tree_ok ht
  unfold addR at ho ⊢
  by_cases h1 : ix (isCh p h) l ≥ 0
  · rw [if_pos h1]; exact ht
  · rw [if_neg h1] at ho ⊢
    by_cases h2 : (l.length : Int) = 40 ∨ turnAt l p = 30
    · rw [if_pos h2] at ho; cases ho
    · rw [if_neg h2]
      obtain ⟨y, hy⟩ : ∃ y, l[p.toNat]? = some y := ⟨_, List.getElem?_eq_getElem (by omega)⟩
      have htu := tree_turn l.length (fun j z _ hz => t3 j z hz) p.toNat y (by omega) hy
      have hta := turnAt_get hy
      have hw : IntKind.wrap .i64 (turnAt l p + 1) = y.Turn + 1 := by rw [hta, w64 (by omega)]
      simp only [tree, Bool.and_eq_true]
      refine ⟨inr3_iff.2 (by simp only [List.length_append, List.length_singleton]; omega), alli_iff.2 fun i x hx => ?_⟩
      by_cases hi : i < l.length
      · rw [List.getElem?_append_left hi] at hx
        exact okn_app (t3 i x hx) (by omega) t2
      · have hi' : i = l.length := by
          have := (List.getElem?_eq_some_iff.1 hx).1
          simp only [List.length_append, List.length_singleton] at this
          omega
        subst hi'
        rw [List.getElem?_append_right (Nat.le_refl _), Nat.sub_self] at hx
        simp only [List.getElem?_cons_zero, Option.some.injEq] at hx
        subst hx
        simp only [okn, Bool.and_eq_true]
        rw [if_neg (by omega)]
        simp only [Bool.and_eq_true, inr3_iff, decide_eq_true_eq]
        refine ⟨inr3_iff.1 hh, ⟨⟨⟨hp, by omega⟩, ?_⟩, ?_⟩, ?_⟩
        · rw [List.getElem?_append_left (by omega), hy, hta]
          exact decide_eq_true rfl
        · rw [hw]; omega
        · rw [List.take_append_of_le_length (Nat.le_refl _), List.take_length]
          omega

theorem ix_get {α : Type} {p : α → Bool} {l : List α} (h : ix p l ≥ 0) : ∃ x, l[(ix p l).toNat]? = some x ∧ p x = true := by
  unfold ix at h ⊢
  split at h
  · rename_i i hi
    rw [List.findIdx?_eq_some_iff_getElem] at hi
    obtain ⟨hlt, hp, _⟩ := hi
    exact ⟨l[i], by simp, hp⟩
  · omega

/-- The node that is found or added. -/
theorem addR_node {l : List Gi_Node} {p h : Int} {y : Gi_Node} (ht : tree l = true) (hp : 0 ≤ p) (hy : l[p.toNat]? = some y) (ho : (addR l p h).2.2 = true) :
    (∃ r, (addR l p h).1 = l ++ r) ∧ 0 ≤ (addR l p h).2.1 ∧ ∃ z, (addR l p h).1[(addR l p h).2.1.toNat]? = some z ∧ z.Hash = h ∧ z.Turn = y.Turn + 1 := by
  obtain ⟨t1, t2, t3⟩ := tree_ok ht
  have hlt : p.toNat < l.length := (List.getElem?_eq_some_iff.1 hy).1
  have htu := tree_turn l.length (fun j z _ hz => t3 j z hz) p.toNat y hlt hy
  have hta := turnAt_get hy
  have hw : IntKind.wrap .i64 (turnAt l p + 1) = y.Turn + 1 := by rw [hta, w64 (by omega)]
  unfold addR at ho ⊢
  by_cases h1 : ix (isCh p h) l ≥ 0
  · rw [if_pos h1]
    refine ⟨⟨[], by simp⟩, h1, ?_⟩
    obtain ⟨z, hz, hz'⟩ := ix_get h1
    simp only [isCh, Bool.and_eq_true, decide_eq_true_eq] at hz'
    refine ⟨z, hz, hz'.2, ?_⟩
    have hi : (ix (isCh p h) l).toNat ≠ 0 := by
      intro h0
      rw [h0] at hz
      have := okn_zero (t3 0 z hz)
      omega
    obtain ⟨_, _, _, ⟨u, hu, h5⟩, _⟩ := okn_pos (t3 _ z hz) hi
    rw [hz'.1, hy] at hu
    obtain rfl := Option.some.inj hu
    rw [h5, w64 (by omega)]
  · rw [if_neg h1] at ho ⊢
    by_cases h2 : (l.length : Int) = 40 ∨ turnAt l p = 30
    · rw [if_pos h2] at ho; cases ho
    · rw [if_neg h2]
      refine ⟨⟨_, rfl⟩, Int.natCast_nonneg _, ⟨p, IntKind.wrap .i64 (turnAt l p + 1), h⟩, ?_, rfl, hw⟩
      simp

structure GrJ (b l : List Gi_Node) (pl : List Int) (i : Nat) : Prop where
  t : tree l = true
  n : pl.length = i + 1
  at_ : ∀ (j : Nat) x k, b[j]? = some x → pl[j]? = some k → 0 ≤ k ∧ ∃ z, l[k.toNat]? = some z ∧ z.Hash = x.Hash ∧ z.Turn = x.Turn

theorem gr_ok {b : List Gi_Node} (hb : tree b = true) : ∀ (k i : Nat) (l : List Gi_Node) (pl : List Int), i + k + 1 = b.length → GrJ b l pl i → (gr ((b.drop 1).drop i) l pl).2.2 = true →
    GrJ b (gr ((b.drop 1).drop i) l pl).1 (gr ((b.drop 1).drop i) l pl).2.1 (b.length - 1) := by
  obtain ⟨t1, t2, t3⟩ := tree_ok hb
  have hlen : (b.drop 1).length = b.length - 1 := by simp
  intro k
  induction k with
  | zero =>
    intro i l pl h hI ho
    rw [List.drop_of_length_le (show (b.drop 1).length ≤ i by omega)]
    simp only [gr]
    have : i = b.length - 1 := by omega
    rw [← this]
    exact hI
  | succ k ih =>
    intro i l pl h hI ho
    have hlt : i < (b.drop 1).length := by omega
    obtain ⟨x, hx⟩ : ∃ x, (b.drop 1)[i]? = some x := ⟨_, List.getElem?_eq_getElem hlt⟩
    have hx1 : (b.drop 1)[i] = x := (List.getElem?_eq_some_iff.1 hx).2
    have hbx : b[i + 1]? = some x := by rw [List.getElem?_drop] at hx; rwa [Nat.add_comm] at hx
    obtain ⟨p0, p1, p2, ⟨u, hu, p3⟩, _⟩ := okn_pos (t3 (i + 1) x hbx) (by omega)
    have hutu := tree_turn b.length (fun j z _ hz => t3 j z hz) _ u (List.getElem?_eq_some_iff.1 hu).1 hu
    rw [w64 (by omega)] at p3
    have hpl : x.Parent.toNat < pl.length := by rw [hI.n]; omega
    have hp : pl[x.Parent.toNat]? = some pl[x.Parent.toNat] := List.getElem?_eq_getElem hpl
    have hpa : plAt pl x.Parent = pl[x.Parent.toNat] := by simp [plAt, hp]
    obtain ⟨q0, z, hz, q1, q2⟩ := hI.at_ _ _ _ hu hp
    rw [List.drop_eq_getElem_cons hlt, hx1] at ho ⊢
    simp only [gr, hpa] at ho ⊢
    by_cases hr : (addR l pl[x.Parent.toNat] x.Hash).2.2 = true
    · rw [if_pos hr] at ho ⊢
      have hzl : (pl[x.Parent.toNat]).toNat < l.length := (List.getElem?_eq_some_iff.1 hz).1
      obtain ⟨⟨r, e1⟩, e2, y, e3, e4, e5⟩ := addR_node hI.t q0 hz hr
      refine ih (i + 1) _ _ (by omega) ⟨addR_tree hI.t q0 (by omega) p0 hr, by simp [hI.n], fun j x' k' hj hk => ?_⟩ ho
      by_cases hji : j < pl.length
      · rw [List.getElem?_append_left hji] at hk
        obtain ⟨r0, w, hw, r1, r2⟩ := hI.at_ j x' k' hj hk
        refine ⟨r0, w, ?_, r1, r2⟩
        rw [e1, List.getElem?_append_left (List.getElem?_eq_some_iff.1 hw).1]
        exact hw
      · have hj' : j = i + 1 := by
          have := (List.getElem?_eq_some_iff.1 hk).1
          simp only [List.length_append, List.length_singleton, hI.n] at this hji
          omega
        subst hj'
        rw [List.getElem?_append_right (by omega), hI.n, Nat.sub_self] at hk
        simp only [List.getElem?_cons_zero, Option.some.injEq] at hk
        subst hk
        obtain rfl : x = x' := Option.some.inj (hbx.symm.trans hj)
        exact ⟨e2, y, e3, e4, by omega⟩
    · rw [if_neg hr] at ho
      cases ho

theorem graft_ok {a b : List Gi_Node} (h : (graftR a b).2.2 = true) : tree (graftR a b).1 = true ∧ (graftR a b).2.1.length = b.length ∧ 1 ≤ b.length ∧ b.length ≤ 40 ∧
    ∀ (j : Nat) x, b[j]? = some x → ∃ k z, (graftR a b).2.1[j]? = some k ∧ 0 ≤ k ∧ (graftR a b).1[k.toNat]? = some z ∧ z.Hash = x.Hash ∧ z.Turn = x.Turn := by
  unfold graftR at h ⊢
  split at h
  · rename_i hc
    rw [if_pos hc]
    simp only [Bool.and_eq_true, decide_eq_true_eq] at hc
    obtain ⟨⟨ha, hb⟩, hh⟩ := hc
    obtain ⟨a1, a2, a3⟩ := tree_ok ha
    obtain ⟨b1, b2, b3⟩ := tree_ok hb
    have ha0 : a[0]? = some a[0] := List.getElem?_eq_getElem (by omega)
    have hb0 : b[0]? = some b[0] := List.getElem?_eq_getElem (by omega)
    have e0 : GrJ b a [0] 0 := ⟨ha, rfl, fun j x k hj hk => by
      cases j with
      | succ j => simp at hk
      | zero =>
        simp only [List.getElem?_cons_zero, Option.some.injEq] at hk
        subst hk
        obtain rfl : b[0] = x := Option.some.inj (hb0.symm.trans hj)
        refine ⟨Int.le_refl _, a[0], ha0, ?_, ?_⟩
        · simp only [rootH, ha0, hb0] at hh
          exact hh
        · rw [(okn_zero (a3 0 _ ha0)).2, (okn_zero (b3 0 _ hb0)).2]⟩
    have J := gr_ok hb (b.length - 1) 0 a [0] (by omega) e0 (by rw [List.drop_zero]; exact h)
    rw [List.drop_zero] at J
    refine ⟨J.t, by have := J.n; omega, b1, b2, fun j x hj => ?_⟩
    have hlt : j < (gr (b.drop 1) a [0]).2.1.length := by
      have := (List.getElem?_eq_some_iff.1 hj).1
      rw [J.n]
      omega
    have hk : (gr (b.drop 1) a [0]).2.1[j]? = some (gr (b.drop 1) a [0]).2.1[j] := List.getElem?_eq_getElem hlt
    obtain ⟨k0, z, hz, e1, e2⟩ := J.at_ j x _ hj hk
    exact ⟨_, z, hk, k0, hz, e1, e2⟩
  · cases h


theorem addR_len {l : List Gi_Node} {p h : Int} (ho : (addR l p h).2.2 = true) : l.length ≤ (addR l p h).1.length ∧ (addR l p h).1.length ≤ l.length + 1 := by
  unfold addR at ho ⊢
  split
  · exact ⟨Nat.le_refl _, Nat.le_succ _⟩
  · split
    · rename_i h1 h2
      rw [if_neg h1, if_pos h2] at ho
      cases ho
    · simp only [List.length_append, List.length_singleton]
      omega
theorem cuNodesLoop : ∀ (n : Nat) {c : Gs_l1Cur} {k : Int} {l : List Gi_Node}, Cu c k → k + 4 * n ≤ 1099511627776 → 1 ≤ l.length → l.length + n ≤ 100 →
    ∃ l' c', loop Bs_l1Cur_nodes (.h1 (n : Int) c l) = some (l', c') ∧ Cu c' (k + 4 * n) ∧ 1 ≤ l'.length ∧ l'.length ≤ 100
  | 0, c, k, l, h, hk, h1, h2 => by
    rw [loop_eq]
    simp only [Bs_l1Cur_nodes]
    rw [if_neg (by omega)]
    exact ⟨l, c, rfl, h.mono (by omega) (by omega), h1, by omega⟩
  | n + 1, c, k, l, h, hk, h1, h2 => by
    obtain ⟨v1, c1, e1, b1, g1⟩ := cuPick h (by omega) ((l.length : Nat) : Int)
    obtain ⟨v2, c2, e2, b2, g2⟩ := cuPick g1 (by omega) 4
    rw [loop_eq]
    simp only [Bs_l1Cur_nodes]
    rw [if_pos (by omega), e1, Option.bind_some, e2, Option.bind_some, th49 l (by omega) v1 v2 b1.1 (b1.2.1 (by omega)), Option.bind_some, w64 (by omega), show (((n + 1 : Nat) : Int) - 1) = (n : Int) by omega]
    by_cases ho : (addR l v1 v2).2.2 = true
    · obtain ⟨a1, a2⟩ := addR_len ho
      rw [if_pos ho]
      obtain ⟨l', c', e, g, x1, x2⟩ := cuNodesLoop n g2 (by omega) (l := (addR l v1 v2).1) (by omega) (by omega)
      exact ⟨l', c', e, g.mono (by omega) (by omega), x1, x2⟩
    · rw [if_neg ho]
      obtain ⟨l', c', e, g, x1, x2⟩ := cuNodesLoop n g2 (by omega) (l := l) h1 (by omega)
      exact ⟨l', c', e, g.mono (by omega) (by omega), x1, x2⟩
theorem cuNodes {c : Gs_l1Cur} {k : Int} (h : Cu c k) (hk : k + 40 ≤ 1099511627776) : ∃ l c', Ds_l1Cur_nodes c = some (l, c') ∧ Cu c' (k + 40) ∧ 1 ≤ l.length ∧ l.length ≤ 100 := by
  obtain ⟨v1, c1, e1, b1, g1⟩ := cuPick h (by omega) 9
  have hv := b1.2.1 (by omega)
  unfold Ds_l1Cur_nodes
  rw [e1, Option.bind_some]
  obtain ⟨l', c', e, g, x1, x2⟩ := cuNodesLoop v1.toNat g1 (by omega) (l := [⟨-1, 0, 5⟩]) (by simp) (by simp; omega)
  rw [Int.toNat_of_nonneg b1.1] at e
  exact ⟨l', c', e, g.mono (by omega) (by omega), x1, x2⟩
theorem anyLoop1 {c : Gs_l1Cur} {t : Int} : ∀ (n : Nat) {l : List Gi_Node}, t - l.length ≤ n → 1 ≤ l.length → l.length ≤ 200 → t ≤ 200 →
    ∃ l', loop Bs_l1Cur_anyNodes (.h1 t c l) = some (l', c) ∧ 1 ≤ l'.length ∧ l'.length ≤ 200
  | 0, l, h, h1, h2, h3 => by
    rw [loop_eq]
    simp only [Bs_l1Cur_anyNodes]
    rw [if_neg (by omega)]
    exact ⟨l, rfl, h1, h2⟩
  | n + 1, l, h, h1, h2, h3 => by
    rw [loop_eq]
    simp only [Bs_l1Cur_anyNodes]
    by_cases c0 : (l.length : Int) < t
    · rw [if_pos c0, if_pos (by simp only [List.length_append, List.length_singleton]; omega)]
      exact anyLoop1 n (by simp only [List.length_append, List.length_singleton]; omega) (by simp) (by simp only [List.length_append, List.length_singleton]; omega) h3
    · rw [if_neg c0]
      exact ⟨l, rfl, h1, h2⟩
theorem anyLoop2 {c : Gs_l1Cur} : ∀ (n : Nat) {l : List Gi_Node}, (31 : Int) - l.length ≤ n → 1 ≤ l.length → l.length ≤ 200 →
    ∃ l', loop Bs_l1Cur_anyNodes (.h2 c l) = some (l', c) ∧ 1 ≤ l'.length ∧ l'.length ≤ 200
  | 0, l, h, h1, h2 => by
    rw [loop_eq]
    simp only [Bs_l1Cur_anyNodes]
    rw [if_neg (by omega)]
    exact ⟨l, rfl, h1, h2⟩
  | n + 1, l, h, h1, h2 => by
    rw [loop_eq]
    simp only [Bs_l1Cur_anyNodes]
    by_cases c0 : (l.length : Int) < 31
    · rw [if_pos c0, if_pos (by simp only [List.length_append, List.length_singleton]; omega)]
      exact anyLoop2 n (by simp only [List.length_append, List.length_singleton]; omega) (by simp) (by simp only [List.length_append, List.length_singleton]; omega)
    · rw [if_neg c0]
      exact ⟨l, rfl, h1, h2⟩
theorem cuAnyNodes {c : Gs_l1Cur} {k : Int} (h : Cu c k) (hk : k + 60 ≤ 1099511627776) : ∃ l c', Ds_l1Cur_anyNodes c = some (l, c') ∧ Cu c' (k + 60) ∧ 1 ≤ l.length ∧ l.length ≤ 200 := by
  obtain ⟨l, c1, e1, g1, x1, x2⟩ := cuNodes h (by omega)
  obtain ⟨v, c2, e2, b2, g2⟩ := cuPick g1 (by omega) 24
  have hlast : l[(((l.length : Nat) : Int) - 1).toNat]? = some l[l.length - 1] := by
    rw [show (((l.length : Nat) : Int) - 1).toNat = l.length - 1 by omega]
    exact List.getElem?_eq_getElem (by omega)
  have h0 : l[Int.toNat 0]? = some l[0] := List.getElem?_eq_getElem (by omega)
  unfold Ds_l1Cur_anyNodes
  rw [e1, Option.bind_some, e2, Option.bind_some]
  simp only [w64 (n := ((l.length : Nat) : Int) - 1) (by omega), hlast, h0, Option.bind_some]
  by_cases z0 : v = 0
  · rw [if_pos z0]
    exact ⟨_, _, rfl, g2.mono (by omega) (by omega), by simp; omega, by simp; omega⟩
  · rw [if_neg z0]
    by_cases z1 : v = 1
    · rw [if_pos z1, if_pos (by omega), if_pos (by simp only [List.length_append, List.length_singleton]; omega)]
      exact ⟨_, _, rfl, g2.mono (by omega) (by omega), by simp, by simp; omega⟩
    · rw [if_neg z1]
      by_cases z2 : v = 2
      · rw [if_pos z2, if_pos (by omega), if_pos (by omega)]
        exact ⟨_, _, rfl, g2.mono (by omega) (by omega), by simp; omega, by simp; omega⟩
      · rw [if_neg z2]
        by_cases z3 : v = 3
        · obtain ⟨v3, c3, e3, b3, g3⟩ := cuPick g2 (by omega) 2
          have := b3.2.1 (by omega)
          rw [if_pos z3, e3, Option.bind_some, w64 (by omega)]
          obtain ⟨l', e, y1, y2⟩ := anyLoop1 (c := c3) (t := 40 + v3) 100 (l := l) (by omega) x1 (by omega) (by omega)
          exact ⟨l', c3, e, g3.mono (by omega) (by omega), y1, y2⟩
        · rw [if_neg z3]
          by_cases z4 : v = 4
          · obtain ⟨v4, c4, e4, g4⟩ := cuAnySeed g2 (by omega)
            rw [if_pos z4, e4, Option.bind_some, if_pos (by omega)]
            exact ⟨_, _, rfl, g4.mono (by omega) (by omega), by simp; omega, by simp; omega⟩
          · rw [if_neg z4]
            by_cases z5 : v = 5
            · rw [if_pos z5, if_pos (by omega)]
              have hlen : (List.take (Int.toNat 1 - 0) (List.drop 0 l)).length = 1 := by
                rw [List.length_take, List.drop_zero]
                simp
                omega
              obtain ⟨l', e, y1, y2⟩ := anyLoop2 (c := c2) 31 (l := List.take (Int.toNat 1 - 0) (List.drop 0 l)) (by omega) (by omega) (by omega)
              exact ⟨l', c2, e, g2.mono (by omega) (by omega), y1, y2⟩
            · rw [if_neg z5]
              exact ⟨_, _, rfl, g2.mono (by omega) (by omega), x1, by omega⟩
theorem cuNodeOf {c : Gs_l1Cur} {k : Int} (h : Cu c k) (hk : k + 6 ≤ 1099511627776) (l : List Gi_Node) : ∃ v c', Ds_l1Cur_nodeOf c l = some (v, c') ∧ Cu c' (k + 6) := by
  obtain ⟨v1, c1, e1, _, g1⟩ := cuPick h (by omega) 16
  obtain ⟨v2, c2, e2, _, g2⟩ := cuPick g1 (by omega) (IntKind.wrap .i64 (((l.length : Nat) : Int) + (IntKind.wrap .i64 (Int.tdiv v1 15))))
  obtain ⟨v3, c3, e3, _, g3⟩ := cuPick g2 (by omega) 24
  unfold Ds_l1Cur_nodeOf
  rw [e1, Option.bind_some, e2, Option.bind_some, e3, Option.bind_some]
  exact ⟨_, _, rfl, g3.mono (by omega) (by omega)⟩
theorem drawGraftTree {code : List Int} (h : ∀ x ∈ code, 0 ≤ x ∧ x < 256) (hl : code.length ≤ 1048576) : ∃ a b, Ds_DrawGraftTree code = some (a, b) ∧ a.length ≤ 200 ∧ b.length ≤ 200 := by
  obtain ⟨a, c1, e1, g1, x1, x2⟩ := cuAnyNodes (cu0 h hl) (by omega)
  obtain ⟨b, c2, e2, g2, y1, y2⟩ := cuAnyNodes g1 (by omega)
  obtain ⟨v3, c3, e3, g3⟩ := cuOne g2 (by omega) 16
  have h0 : b[Int.toNat 0]? = some b[0] := List.getElem?_eq_getElem (by omega)
  unfold Ds_DrawGraftTree
  rw [e1, Option.bind_some, e2, Option.bind_some, e3, Option.bind_some]
  by_cases z : v3 = true
  · rw [if_pos z, h0, Option.bind_some]
    exact ⟨_, _, rfl, x2, by simp; omega⟩
  · rw [if_neg z]
    exact ⟨_, _, rfl, x2, y2⟩
theorem drawForkOf {code : List Int} (h : ∀ x ∈ code, 0 ≤ x ∧ x < 256) (hl : code.length ≤ 1048576) : ∃ l i k, Ds_DrawForkOf code = some (l, i, k) ∧ l.length ≤ 200 := by
  obtain ⟨a, c1, e1, g1, x1, x2⟩ := cuAnyNodes (cu0 h hl) (by omega)
  obtain ⟨v2, c2, e2, g2⟩ := cuNodeOf g1 (by omega) a
  obtain ⟨v3, c3, e3, g3⟩ := cuNodeOf g2 (by omega) a
  unfold Ds_DrawForkOf
  rw [e1, Option.bind_some, e2, Option.bind_some, e3, Option.bind_some]
  exact ⟨_, _, _, rfl, x2⟩
theorem drawChildOf {code : List Int} (h : ∀ x ∈ code, 0 ≤ x ∧ x < 256) (hl : code.length ≤ 1048576) : ∃ l i k, Ds_DrawChildOf code = some (l, i, k) ∧ l.length ≤ 200 := by
  obtain ⟨a, c1, e1, g1, x1, x2⟩ := cuAnyNodes (cu0 h hl) (by omega)
  obtain ⟨v2, c2, e2, _, g2⟩ := cuPick g1 (by omega) 5
  obtain ⟨v3, c3, e3, g3⟩ := cuOne g2 (by omega) 24
  obtain ⟨v4, c4, e4, g4⟩ := cuAnySeed g3 (by omega)
  obtain ⟨v5, c5, e5, g5⟩ := cuOne g4 (by omega) 3
  obtain ⟨v6, c6, e6, g6⟩ := cuNodeOf g5 (by omega) a
  obtain ⟨v7, c7, e7, g7⟩ := cuOne g3 (by omega) 3
  obtain ⟨v8, c8, e8, g8⟩ := cuNodeOf g7 (by omega) a
  unfold Ds_DrawChildOf
  rw [e1, Option.bind_some, e2, Option.bind_some, e3, Option.bind_some]
  by_cases z : v3 = true
  · rw [if_pos z, e4, Option.bind_some, e5, Option.bind_some]
    by_cases y : v5 = true
    · rw [if_pos y]; exact ⟨_, _, _, rfl, x2⟩
    · rw [if_neg y, e6, Option.bind_some]; exact ⟨_, _, _, rfl, x2⟩
  · rw [if_neg z, e7, Option.bind_some]
    by_cases y : v7 = true
    · rw [if_pos y]; exact ⟨_, _, _, rfl, x2⟩
    · rw [if_neg y, e8, Option.bind_some]; exact ⟨_, _, _, rfl, x2⟩

theorem sameNodes (l : List Gi_Node) (hl : l.length ≤ 1048577) : Dw_pSameNodes l l = some true := by
  unfold Dw_pSameNodes
  rw [if_pos rfl]
  refine true_loop (S := fun i => Sw_pSameNodes.h1 l l (l.length : Int) (i : Int)) (n := l.length) (fun i hi => ?_) ?_
  · simp [Bw_pSameNodes, hi, wsucc (show i < 9223372036854775807 by omega)]
  · simp [Bw_pSameNodes]
def mainR (l : List Gi_Node) : Int × Bool := if tree l = true then ((tips l).foldl (better l) (-1), true) else (0, false)
theorem main_both (l : List Gi_Node) (hm : l.length ≤ 1048576) : Ds_MainTip l = some (mainR l) ∧ Di_MainTip l = some (mainR l) := by
  unfold Ds_MainTip Di_MainTip mainR
  rw [th36 _ hm, th17 _ hm, th46 _ hm, th47 _ hm]
  simp only [Option.bind_some]
  by_cases hb : tree l = true
  · rw [if_pos hb, if_pos hb, if_pos hb, th23' _ hm, th24' _ hm]
    exact ⟨rfl, rfl⟩
  · rw [if_neg hb, if_neg hb, if_neg hb]
    exact ⟨rfl, rfl⟩

theorem trees2 {more : List Int} (h : ∀ x ∈ more, 0 ≤ x ∧ x < 256) (hl : more.length ≤ 1048576) : loop Bw_FnTrees (.h2 more) = some true := by
  obtain ⟨l, i, k, e1, x1⟩ := drawForkOf h hl
  obtain ⟨m, p, u, e2, x2⟩ := drawChildOf h hl
  obtain ⟨m1, m2⟩ := main_both l (by omega)
  have c1 := lineR_len l i
  have c2 := tipsR_len l (by omega)
  have c3 := childR_len m (by omega) p u
  rw [loop_eq]
  simp only [Bw_FnTrees, e1, e2, Option.bind_some, th21 l (by omega), th22 l (by omega), sLineTo l (by omega), iLineTo l (by omega), sTipsOf l (by omega), iTipsOf l (by omega), m1, m2, th25 m (by omega), th26 m (by omega),
    eSameInts _ (show (lineR l i).1.length ≤ 1048577 by omega), eSameInts _ (show (tipsR l).1.length ≤ 1048577 by omega), sameNodes _ c3, BEq.rfl, Bool.not_true, Bool.false_eq_true, if_false, if_true]
  rfl

theorem trees1 {a b : List Gi_Node} {more : List Int} (h : ∀ x ∈ more, 0 ≤ x ∧ x < 256) (hl : more.length ≤ 1048576) (hg : (graftR a b).2.2 = true) : ∀ (n i : Nat), i + n = b.length →
    loop Bw_FnTrees (.h1 more ((b.length : Nat) : Int) (i : Int) (graftR a b).1 (graftR a b).2.1 b) = some true
  | 0, i, hi => by
    rw [loop_eq]
    simp only [Bw_FnTrees]
    rw [if_neg (by omega)]
    exact trees2 h hl
  | n + 1, i, hi => by
    obtain ⟨_, g2, g3, g4, g5⟩ := graft_ok hg
    have hx : b[i]? = some b[i] := List.getElem?_eq_getElem (by omega)
    obtain ⟨k, z, e1, e2, e3, e4, e5⟩ := g5 i _ hx
    rw [loop_eq]
    simp only [Bw_FnTrees]
    rw [if_pos (by omega), if_pos (by omega), Int.toNat_natCast, hx, Option.bind_some, if_pos (by omega), e1, Option.bind_some, if_pos e2, e3, Option.bind_some, if_pos e4, if_pos (by omega), Option.bind_some, if_pos e2, e3, Option.bind_some, if_pos e5, wsucc (by omega)]
    exact trees1 h hl hg n (i + 1) (by omega)

theorem lawTrees (code more : List Int) (hc : code.length < 9223372036854775808) (hm : more.length < 9223372036854775808) (h1 : ∀ x ∈ code, 0 ≤ x ∧ x < 256) (h2 : ∀ x ∈ more, 0 ≤ x ∧ x < 256) : Dw_FnTrees code more = some true := by
  unfold Dw_FnTrees
  rw [eBig code more hc hm, Option.bind_some]
  by_cases hb : 1048576 < code.length + more.length
  · rw [if_pos (decide_eq_true hb)]
  · rw [if_neg (by simpa using hb)]
    obtain ⟨a, b, ed, x1, x2⟩ := drawGraftTree h1 (by omega)
    obtain ⟨g1, g2⟩ := graft_both a b (by omega) (by omega)
    obtain ⟨c1, c2⟩ := graftR_len a b
    have s1 := sameNodes (graftR a b).1 (by omega)
    have s2 := eSameInts (graftR a b).2.1 (by omega)
    rw [ed, Option.bind_some, g2, g1]
    simp only [Option.bind_some, s1, s2, if_true]
    by_cases c : (graftR a b).2.2 = true
    · obtain ⟨o1, o2, _⟩ := graft_ok c
      rw [if_pos c, c]
      simp only [BEq.rfl, Bool.not_true, Bool.false_eq_true, if_false]
      rw [th17 _ (by omega), Option.bind_some, if_pos o1, if_pos (by omega)]
      exact trees1 h2 (by omega) c b.length 0 (by omega)
    · have hf : (graftR a b).2.2 = false := by simpa using c
      rw [if_neg c, hf]
      simp only [BEq.rfl, Bool.not_true, Bool.false_eq_true, if_false]
      exact trees2 h2 (by omega)


end Go.Proofs.Ytfnhclmdobdkbaa.Ab
