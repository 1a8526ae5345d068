/- Part of the proof of FnExactLineTo: no condition of its own. -/
import Derived.Test.YtgafibhekjnffaaBLD
import Derived.Test.YtgafibhekjnffaaPuA
set_option linter.unusedVariables false
set_option linter.unusedSimpArgs false
open Go
namespace Go.Proofs.Ytgafibhekjnffaa.Ab
def inr3 (n a b : Int) : Bool := decide (a ≤ n) && decide (n ≤ b)
theorem inr3_iff {n a b : Int} : inr3 n a b = true ↔ a ≤ n ∧ n ≤ b := by simp [inr3]
theorem e51 (n a b : Int) : Ds_l1In n a b = some (inr3 n a b) := by
  unfold Ds_l1In inr3; by_cases h : a ≤ n <;> simp [h]
theorem e38 (n a b : Int) : Di_inRange n a b = some (inr3 n a b) := by
  unfold Di_inRange inr3; by_cases h : a ≤ n <;> simp [h]
theorem e48 (n : Int) : Ds_dSeed n = some (inr3 n 0 4611686016279904236) := by simp [Ds_dSeed, e51]
theorem e33 (n : Int) : Di_isSeed n = some (inr3 n 0 4611686016279904236) := by simp [Di_isSeed, e38]
theorem e31 (n : Int) : Di_isTurn n = some (inr3 n 0 30) := by simp [Di_isTurn, e38]
/-- toNodeS, toMailS -/
def toN (x : Gw_Node) : Gi_Node := ⟨x.Parent, x.Turn, x.Hash⟩
theorem e16 (l : List Gw_Node) (hl : l.length ≤ 1048576) : Dw_toNodeS l = some (l.map toN) := by
  unfold Dw_toNodeS
  rw [if_pos (by omega), Int.toNat_natCast]
  refine fill_loop (S := fun i out => Sw_toNodeS.h1 l (i : Int) out) (fun i x y out hx hi hy => ?_) (fun out => ?_) _
  · simp only [Bw_toNodeS, Int.ofNat_lt, hi, if_true, Int.natCast_nonneg, Int.toNat_natCast, hx, hy, Option.bind_some, Dw_toNode, wsucc (show i < 9223372036854775807 by omega), toN]
  · simp [Bw_toNodeS]
theorem e18 (l : List Gi_Node) (hl : l.length ≤ 1048576) : Dw_eqNodeS l l = some true := by
  unfold Dw_eqNodeS
  rw [if_pos rfl]
  refine true_loop (S := fun i => Sw_eqNodeS.h1 l l (i : Int)) (n := l.length) (fun i hi => ?_) ?_
  · simp [Bw_eqNodeS, hi, Dw_eqNode, wsucc (show i < 9223372036854775807 by omega)]
  · simp [Bw_eqNodeS]
theorem e14 (l : List Gw_Node) (hl : l.length < 9223372036854775808) : Dw_szNodeS l 1048576 = some (if (1048576 : Int) - (l.length : Int) < 0 then (-1 : Int) else (1048576 : Int) - (l.length : Int)) := by
  unfold Dw_szNodeS
  rw [w64 (by omega)]
  split <;> rfl
def isCh (p h : Int) (x : Gi_Node) : Bool := decide (x.Parent = p) && decide (x.Hash = h)
theorem e53 (l : List Gi_Node) (hl : l.length ≤ 1048576) (p h : Int) : Ds_nChild l p h = some (ix (isCh p h) l) := by
  unfold Ds_nChild
  refine find_loop (S := fun i => Ss_nChild.h1 p h l (l.length : Int) (i : Int)) (fun i x hx hi => ?_) ?_
  · simp only [Bs_nChild, Int.ofNat_lt, hi, if_true, Int.natCast_nonneg, Int.toNat_natCast, hx, Option.bind_some, wsucc (show i < 9223372036854775807 by omega), isCh]
    by_cases h1 : x.Parent = p <;> by_cases h2 : x.Hash = h <;> simp [h1, h2]
  · simp [Bs_nChild]
theorem e40 (l : List Gi_Node) (hl : l.length ≤ 1048576) (p h : Int) : Di_childWith l p h = some (ix (isCh p h) l) := by
  unfold Di_childWith Dslices_IndexFunc_i_Node_i_childWith_1
  have : loop Bslices_IndexFunc_i_Node_i_childWith_1 (.h1 l p h (l.length : Int) 0) = some (ix (isCh p h) l) := by
    refine find_loop (S := fun i => Sslices_IndexFunc_i_Node_i_childWith_1.h1 l p h (l.length : Int) (i : Int)) (fun i x hx hi => ?_) ?_
    · simp only [Bslices_IndexFunc_i_Node_i_childWith_1, Di_childWith_1, Int.ofNat_lt, hi, if_true, Int.natCast_nonneg, Int.toNat_natCast, hx, Option.bind_some, wsucc (show i < 9223372036854775807 by omega), isCh]
      by_cases h1 : x.Parent = p <;> by_cases h2 : x.Hash = h <;> simp [h1, h2]
    · simp [Bslices_IndexFunc_i_Node_i_childWith_1]
  rw [this]
  rfl

def okn (l : List Gi_Node) (i : Nat) (x : Gi_Node) : Bool := inr3 x.Hash 0 4611686016279904236 &&
  (if i = 0 then decide (x.Parent = -1) && decide (x.Turn = 0) else
    inr3 x.Parent 0 ((i : Int) - 1) && (match l[x.Parent.toNat]? with | some y => decide (x.Turn = IntKind.wrap .i64 (y.Turn + 1)) | none => false) && decide (x.Turn ≤ 30) && decide (ix (isCh x.Parent x.Hash) (l.take i) < 0))
def tree (l : List Gi_Node) : Bool := inr3 l.length 1 40 && alli (okn l) l

theorem e36 (l : List Gi_Node) (hl : l.length ≤ 1048576) : Ds_nGood l = some (tree l) := by
  unfold Ds_nGood tree
  rw [e51]
  simp only [Option.bind_some]
  by_cases h0 : inr3 l.length 1 40 = true
  · rw [if_pos h0, h0, Bool.true_and]
    refine all_loop (S := fun i => Ss_nGood.h1 l l (l.length : Int) (i : Int)) (fun i x hx hi hb => ?_) ?_
    · simp only [Bs_nGood, Int.ofNat_lt, hi, if_true, Int.natCast_nonneg, Int.toNat_natCast, hx, Option.bind_some, wsucc (show i < 9223372036854775807 by omega), e48, okn]
      by_cases h1 : inr3 x.Hash 0 4611686016279904236 = true
      · simp only [h1, if_true, Bool.true_and]
        by_cases h2 : i = 0
        · subst h2
          by_cases h3 : x.Parent = -1 <;> by_cases h4 : x.Turn = 0 <;> simp [h3, h4]
        · rw [if_neg (by omega), e51, w64 (by omega), if_neg h2]
          simp only [Option.bind_some]
          by_cases h3 : inr3 x.Parent 0 ((i : Int) - 1) = true
          · obtain ⟨h4, h5⟩ := inr3_iff.1 h3
            have hlt : x.Parent.toNat < l.length := by omega
            rw [if_pos h3, if_pos h4, List.getElem?_eq_getElem hlt]
            simp only [h3, Bool.true_and, Option.bind_some]
            by_cases h6 : x.Turn = IntKind.wrap .i64 (l[x.Parent.toNat].Turn + 1)
            · rw [if_pos h6]
              simp only [decide_eq_true h6, Bool.true_and]
              by_cases h7 : x.Turn > 30
              · rw [if_pos h7]
                simp [show ¬ x.Turn ≤ 30 by omega]
              · rw [if_neg h7, if_pos (by omega), e53 _ (by simp; omega)]
                simp only [List.drop_zero, Nat.sub_zero, Option.bind_some, show x.Turn ≤ 30 by omega, decide_true, Bool.true_and]
                by_cases h8 : ix (isCh x.Parent x.Hash) (l.take i) < 0
                · rw [if_neg (by omega)]; simp [h8]
                · rw [if_pos (by omega)]; simp [h8]
            · rw [if_neg h6]
              simp [h6]
          · rw [if_neg h3]
            simp [h3]
      · simp [h1]
    · simp [Bs_nGood]
  · rw [if_neg h0]
    simp [h0]

theorem okn_pos {l : List Gi_Node} {i : Nat} {x : Gi_Node} (h : okn l i x = true) (hi : i ≠ 0) : inr3 x.Hash 0 4611686016279904236 = true ∧ 0 ≤ x.Parent ∧ x.Parent ≤ (i : Int) - 1 ∧ (∃ y, l[x.Parent.toNat]? = some y ∧ x.Turn = IntKind.wrap .i64 (y.Turn + 1)) ∧ x.Turn ≤ 30 ∧ ix (isCh x.Parent x.Hash) (l.take i) < 0 := by
  simp only [okn, Bool.and_eq_true] at h
  rw [if_neg hi] at h
  simp only [Bool.and_eq_true, inr3_iff, decide_eq_true_eq] at h
  obtain ⟨h1, ⟨⟨⟨h3, h4⟩, h5⟩, h6⟩⟩ := h
  refine ⟨inr3_iff.2 h1, h3.1, h3.2, ?_, h5, h6⟩
  split at h4
  · rename_i z hz
    exact ⟨z, hz, of_decide_eq_true h4⟩
  · cases h4
theorem okn_zero {l : List Gi_Node} {x : Gi_Node} (h : okn l 0 x = true) : x.Parent = -1 ∧ x.Turn = 0 := by
  simp [okn] at h
  exact h.2

theorem tree_turn {l : List Gi_Node} (n : Nat) (h : ∀ j y, j < n → l[j]? = some y → okn l j y = true) : ∀ j y, j < n → l[j]? = some y → 0 ≤ y.Turn ∧ y.Turn ≤ 30 := by
  intro j
  induction j using Nat.strongRecOn with
  | _ j ih =>
    intro y hj hy
    have h1 := h j y hj hy
    by_cases h2 : j = 0
    · subst h2
      have := okn_zero h1
      omega
    · obtain ⟨_, h3, h4, ⟨z, hz, h5⟩, h6, _⟩ := okn_pos h1 h2
      have := ih y.Parent.toNat (by omega) z (by omega) hz
      rw [w64 (by omega)] at h5
      omega

theorem ix_take {l : List Gi_Node} {i : Nat} {x : Gi_Node} (hx : l[i]? = some x) : ix (isCh x.Parent x.Hash) l = (i : Int) ↔ ix (isCh x.Parent x.Hash) (l.take i) < 0 := by
  have hi : i < l.length := (List.getElem?_eq_some_iff.1 hx).1
  have hp : isCh x.Parent x.Hash x = true := by simp [isCh]
  have hxi : l[i] = x := (List.getElem?_eq_some_iff.1 hx).2
  unfold ix
  constructor
  · intro h
    split at h
    · rename_i j hj
      have : j = i := by omega
      subst this
      rw [List.findIdx?_eq_some_iff_getElem] at hj
      have : (l.take j).findIdx? (isCh x.Parent x.Hash) = none := by
        rw [List.findIdx?_eq_none_iff]
        intro y hy
        obtain ⟨m, hm⟩ := List.getElem?_of_mem hy
        obtain ⟨hlt, he⟩ := List.getElem?_eq_some_iff.1 hm
        simp at hlt
        have := hj.2.2 m (by omega)
        simp at he
        rw [← he]
        simpa using this
      rw [this]
      decide
    · omega
  · intro h
    split at h
    · omega
    · rename_i hn
      rw [List.findIdx?_eq_none_iff] at hn
      have : l.findIdx? (isCh x.Parent x.Hash) = some i := by
        rw [List.findIdx?_eq_some_iff_getElem]
        refine ⟨hi, by rw [hxi]; exact hp, fun j hj => ?_⟩
        have := hn l[j] (List.mem_of_getElem? (i := j) (by rw [List.getElem?_take]; simp [hj]))
        simpa using this
      rw [this]

theorem e39 (i n : Int) (h : -9223372036854775808 ≤ n - 1 ∧ n - 1 ≤ 9223372036854775807) : Di_isIndex i n = some (inr3 i 0 (n - 1)) := by
  unfold Di_isIndex
  rw [w64 h, e38]
  rfl

theorem e17 (l : List Gi_Node) (hl : l.length ≤ 1048576) : Di_IsTree l = some (tree l) := by
  unfold Di_IsTree tree
  rw [e38]
  simp only [Option.bind_some]
  by_cases h0 : inr3 l.length 1 40 = true
  · rw [if_pos h0, h0, Bool.true_and]
    have hlen := inr3_iff.1 h0
    have h00 : 0 < l.length := by omega
    have hx0 : l[Int.toNat 0]? = some l[0] := List.getElem?_eq_getElem h00
    rw [hx0]
    simp only [Option.bind_some]
    have bad : ¬ (l[0].Parent = -1 ∧ l[0].Turn = 0) → alli (okn l) l = false := fun h => by
      have : ¬ alli (okn l) l = true := fun h' => h (okn_zero (alli_iff.1 h' 0 _ (List.getElem?_eq_getElem h00)))
      simpa using this
    by_cases h1 : l[0].Parent = -1
    · rw [if_pos h1]
      by_cases h2 : l[0].Turn = 0
      · rw [if_pos h2]
        refine all_loop (S := fun i => Si_IsTree.h1 l l (l.length : Int) (i : Int)) (fun i x hx hi hb => ?_) ?_
        · simp only [Bi_IsTree, Int.ofNat_lt, hi, if_true, Int.natCast_nonneg, Int.toNat_natCast, hx, Option.bind_some, wsucc (show i < 9223372036854775807 by omega), e33, okn]
          by_cases h3 : inr3 x.Hash 0 4611686016279904236 = true
          · simp only [h3, if_true, Bool.true_and]
            by_cases h4 : i = 0
            · subst h4
              have : x = l[0] := by rw [List.getElem?_eq_getElem h00] at hx; exact (Option.some.inj hx).symm
              subst this
              simp [h1, h2]
            · rw [if_pos (by omega), e39 _ _ (by omega), if_neg h4]
              simp only [Option.bind_some]
              by_cases h5 : inr3 x.Parent 0 ((i : Int) - 1) = true
              · obtain ⟨h6, h7⟩ := inr3_iff.1 h5
                have hlt : x.Parent.toNat < l.length := by omega
                rw [if_pos h5, if_pos h6, List.getElem?_eq_getElem hlt]
                simp only [h5, Bool.true_and, Option.bind_some]
                have ht := tree_turn i hb x.Parent.toNat _ (by omega) (List.getElem?_eq_getElem hlt)
                by_cases h8 : x.Turn = IntKind.wrap .i64 (l[x.Parent.toNat].Turn + 1)
                · rw [if_pos h8, e31]
                  simp only [decide_eq_true h8, Bool.true_and, Option.bind_some]
                  rw [w64 (by omega)] at h8
                  by_cases h9 : x.Turn ≤ 30
                  · rw [if_pos (inr3_iff.2 ⟨by omega, h9⟩), e40 _ hl]
                    simp only [Option.bind_some, h9, decide_true, Bool.true_and]
                    by_cases h10 : ix (isCh x.Parent x.Hash) l = (i : Int)
                    · rw [if_pos h10]
                      have := (ix_take hx).1 h10
                      simp [this]
                    · rw [if_neg h10]
                      have : ¬ ix (isCh x.Parent x.Hash) (l.take i) < 0 := fun h => h10 ((ix_take hx).2 h)
                      simp [this]
                  · rw [if_neg (fun h => h9 (inr3_iff.1 h).2)]
                    simp [h9]
                · rw [if_neg h8]
                  simp [h8]
              · rw [if_neg h5]
                simp [h5]
          · simp [h3]
        · simp [Bi_IsTree]
      · rw [if_neg h2, bad (fun h => h2 h.2)]
    · rw [if_neg h1, bad (fun h => h1 h.1)]
  · rw [if_neg h0]
    simp [h0]

theorem tree_ok {l : List Gi_Node} (h : tree l = true) : 1 ≤ l.length ∧ l.length ≤ 40 ∧ ∀ (i : Nat) (x : Gi_Node), l[i]? = some x → okn l i x = true := by
  simp only [tree, Bool.and_eq_true, inr3_iff] at h
  exact ⟨by omega, by omega, alli_iff.1 h.2⟩

/-- From a node up to the first. -/
def ch (l : List Gi_Node) : Nat → Int → List Int
  | 0, _ => []
  | n + 1, i => if i ≥ 0 then i :: ch l n (match l[i.toNat]? with | some x => x.Parent | none => -1) else []

theorem ch_pos {l : List Gi_Node} {i : Int} {x : Gi_Node} (n : Nat) (h : i ≥ 0) (hx : l[i.toNat]? = some x) : ch l (n + 1) i = i :: ch l n x.Parent := by rw [ch, if_pos h, hx]
theorem ch_neg {l : List Gi_Node} {i : Int} (n : Nat) (h : ¬ i ≥ 0) : ch l (n + 1) i = [] := by rw [ch, if_neg h]

theorem ch_le (l : List Gi_Node) : ∀ n i, (ch l n i).length ≤ n
  | 0, i => Nat.le_refl _
  | n + 1, i => by
    unfold ch
    split
    · simp only [List.length_cons]
      have := ch_le l n (match l[i.toNat]? with | some x => x.Parent | none => -1)
      omega
    · simp

theorem par_lt {l : List Gi_Node} (h : tree l = true) {i : Nat} {x : Gi_Node} (hx : l[i]? = some x) : x.Parent < (i : Int) ∧ -1 ≤ x.Parent := by
  have h1 := (tree_ok h).2.2 i x hx
  by_cases h0 : i = 0
  · subst h0
    have := okn_zero h1
    omega
  · obtain ⟨_, h2, h3, _⟩ := okn_pos h1 h0
    omega

theorem e44' {l : List Gi_Node} (h : tree l = true) : ∀ (n : Nat) (i : Int) (acc : List Int), -1 ≤ i → i < n → i < l.length → acc.length + n ≤ 100 → loop Bs_nLine (.h1 l i acc) = some ((ch l n i).reverse ++ acc) := by
  intro n
  induction n with
  | zero =>
    intro i acc h1 h2 h3 h4
    rw [loop_eq]
    simp only [Bs_nLine]
    rw [if_neg (by omega)]
    rfl
  | succ n ih =>
    intro i acc h1 h2 h3 h4
    rw [loop_eq]
    simp only [Bs_nLine]
    by_cases h0 : i ≥ 0
    · have hlt : i.toNat < l.length := by omega
      have hx := List.getElem?_eq_getElem hlt
      have hp := par_lt h hx
      rw [if_pos h0, if_pos (by simp; omega), if_pos h0, hx]
      simp only [Option.bind_some, goOn]
      rw [ih _ _ hp.2 (by omega) (by omega) (by simp; omega), ch_pos n h0 hx]
      simp
    · rw [if_neg h0, ch_neg n h0]
      rfl
theorem e44 {l : List Gi_Node} (h : tree l = true) {i : Int} (h0 : 0 ≤ i) (h1 : i < l.length) : Ds_nLine l i = some (ch l 40 i).reverse := by
  obtain ⟨t1, t2, _⟩ := tree_ok h
  unfold Ds_nLine
  rw [e44' h 40 _ _ (by omega) (by omega) h1 (by simp)]
  simp

theorem e56 (l : List Int) (hl : l.length ≤ 1048576) : Dslices_Reverse_int l = some l.reverse := by
  unfold Dslices_Reverse_int
  rw [w64 (by omega)]
  refine rev_loop (S := fun i j m => Sslices_Reverse_int.h1 i j m) (fun i j m x y hij hm hj hx hy => ?_) (fun i j m h => ?_)
  · have h1 : i < m.length := by omega
    have hy' : (m.set i y)[j]? = some y := by rw [List.getElem?_set, if_neg (by omega)]; exact hy
    simp only [Bslices_Reverse_int]
    rw [if_pos (by omega), if_pos (by omega), Int.toNat_natCast, hy]
    simp only [Option.bind_some]
    rw [if_pos (by omega), Int.toNat_natCast, hx]
    simp only [Option.bind_some]
    rw [if_pos (by omega), if_pos (by omega), hy']
    simp only [Option.bind_some]
    rw [wsucc (by omega), w64 (by omega)]
  · simp only [Bslices_Reverse_int]
    rw [if_neg h]

theorem e45' {l : List Gi_Node} (h : tree l = true) : ∀ (n : Nat) (i : Int) (acc : List Int), -1 ≤ i → i < n → i < l.length → acc.length + n ≤ 100 → loop Bi_lineTo (.h1 l i acc) = some ((acc ++ ch l n i).reverse) := by
  intro n
  induction n with
  | zero =>
    intro i acc h1 h2 h3 h4
    rw [loop_eq]
    simp only [Bi_lineTo]
    rw [if_neg (by omega), e56 _ (by omega)]
    simp [goOn, ch]
  | succ n ih =>
    intro i acc h1 h2 h3 h4
    rw [loop_eq]
    simp only [Bi_lineTo]
    by_cases h0 : i ≥ 0
    · have hlt : i.toNat < l.length := by omega
      have hx := List.getElem?_eq_getElem hlt
      have hp := par_lt h hx
      rw [if_pos h0, if_pos (by simp; omega), if_pos h0, hx]
      simp only [Option.bind_some, goOn]
      rw [ih _ _ hp.2 (by omega) (by omega) (by simp; omega)]
      rw [ch_pos n h0 hx]
      simp
    · rw [if_neg h0, e56 _ (by omega), ch_neg n h0]
      simp [goOn]
theorem e45 {l : List Gi_Node} (h : tree l = true) {i : Int} (h0 : 0 ≤ i) (h1 : i < l.length) : Di_lineTo l i = some (ch l 40 i).reverse := by
  obtain ⟨t1, t2, _⟩ := tree_ok h
  unfold Di_lineTo
  rw [e45' h 40 _ _ (by omega) (by omega) h1 (by simp)]
  simp

theorem e43 (l : List Gi_Node) (hl : l.length ≤ 1048576) (i : Int) : Ds_nNode l i = some (tree l && inr3 i 0 ((l.length : Int) - 1)) := by
  unfold Ds_nNode
  rw [e36 l hl]
  simp only [Option.bind_some]
  by_cases h : tree l = true
  · rw [if_pos h, w64 (by omega), e51, h]
    rfl
  · rw [if_neg h]
    simp [h]

def mkN (k : Int) : Gi_Node := ⟨k, k + 1, k + 2⟩
theorem e27 (l : List Gi_Node) (hl : l.length ≤ 1048577) : Dw_markNodeS l 1 = some ((1 : Int) + (3 * l.length : Nat), marked mkN 3 1 l.length) := by
  unfold Dw_markNodeS
  refine mark_loop (S := fun k i m => Sw_markNodeS.h1 k (i : Int) m) (by decide) (by omega) (fun i k m x hm hi hx h0 hb => ?_) (fun k m hm => ?_) l rfl
  · have hlt : i < m.length := by omega
    have a1 : k + 1 + 1 = k + 2 := by omega
    have a2 : k + 2 + 1 = k + 3 := by omega
    simp only [Bw_markNodeS, hm, Int.ofNat_lt, hi, if_true, Int.natCast_nonneg, Int.toNat_natCast, hx, Option.bind_some, List.getElem?_set, hlt, List.length_set]
    rw [wsucc (by omega), w64 (n := k + 1) (by omega), a1, w64 (n := k + 2) (by omega), a2, w64 (n := k + 3) (by omega)]
    simp [mkN, List.set_set]
  · simp [Bw_markNodeS, hm]
theorem eqIntS (l : List Int) (hl : l.length ≤ 1048577) : Dw_eqIntS l l = some true := by
  unfold Dw_eqIntS
  rw [if_pos rfl]
  refine true_loop (S := fun i => Sw_eqIntS.h1 l l (i : Int)) (n := l.length) (fun i hi => ?_) ?_
  · simp [Bw_eqIntS, hi, wsucc (show i < 9223372036854775807 by omega)]
  · simp [Bw_eqIntS]
theorem markI (l : List Int) (hl : l.length ≤ 1048577) (k0 : Int) (h0 : 0 ≤ k0) (h1 : k0 ≤ 1099511627776) : Dw_markIntS l k0 = some (k0 + (1 * l.length : Nat), marked (fun k => k) 1 k0 l.length) := by
  unfold Dw_markIntS
  refine mark_loop (S := fun k i m => Sw_markIntS.h1 k (i : Int) m) h0 (by omega) (fun i k m x hm hi hx h0 hb => ?_) (fun k m hm => ?_) l rfl
  · simp only [Bw_markIntS, hm, Int.ofNat_lt, hi, if_true, Int.natCast_nonneg, Int.toNat_natCast, hx, Option.bind_some]
    rw [wsucc (by omega), w64 (n := k + 1) (by omega)]
    rfl
  · simp [Bw_markIntS, hm]
theorem heldI (n : Nat) (hn : n ≤ 1048577) (k0 : Int) (h0 : 0 ≤ k0) (h1 : k0 ≤ 1099511627776) : Dw_heldIntS (marked (fun k => k) 1 k0 n) k0 = some (k0 + (1 * n : Nat)) := by
  unfold Dw_heldIntS
  have hlen := marked_len (fun k : Int => k) 1 k0 n
  refine held_loop (f := fun k => k) (c := 1) (n := n) (S := fun k i => Sw_heldIntS.h1 (marked (fun k => k) 1 k0 n) k (i : Int)) h0 (by omega) (fun i k hi hx h0 hb => ?_) (fun k => ?_)
  · simp only [Bw_heldIntS, hlen, Int.ofNat_lt, hi, if_true, Int.natCast_nonneg, Int.toNat_natCast, hx, Option.bind_some]
    rw [wsucc (by omega), w64 (n := k + 1) (by omega)]
    rfl
  · simp [Bw_heldIntS, hlen]
theorem markIntS (l : List Int) (hl : l.length ≤ 1048577) : Dw_markIntS l 1 = some ((1 : Int) + (1 * l.length : Nat), marked (fun k => k) 1 1 l.length) := markI l hl 1 (by decide) (by decide)
theorem heldIntS (n : Nat) (hn : n ≤ 1048577) : Dw_heldIntS (marked (fun k => k) 1 1 n) 1 = some ((1 : Int) + (1 * n : Nat)) := heldI n hn 1 (by decide) (by decide)
def lineR (l : List Gi_Node) (i : Int) : List Int × Bool := if (tree l && inr3 i 0 ((l.length : Int) - 1)) = true then ((ch l 40 i).reverse, true) else ([], false)
theorem sLineTo (l : List Gi_Node) (hl : l.length ≤ 1048576) (i : Int) : Ds_LineTo l i = some (lineR l i) := by
  unfold Ds_LineTo lineR
  rw [e43 l hl]
  simp only [Option.bind_some]
  by_cases h : (tree l && inr3 i 0 ((l.length : Int) - 1)) = true
  · rw [if_pos h, if_pos h]
    simp only [Bool.and_eq_true] at h
    have hi := inr3_iff.1 h.2
    rw [e44 h.1 hi.1 (by omega)]
    rfl
  · rw [if_neg h, if_neg h]
theorem iLineTo (l : List Gi_Node) (hl : l.length ≤ 1048576) (i : Int) : Di_LineTo l i = some (lineR l i) := by
  unfold Di_LineTo lineR
  rw [e17 l hl, e39 _ _ (by omega)]
  simp only [Option.bind_some]
  by_cases h1 : tree l = true
  · by_cases h2 : inr3 i 0 ((l.length : Int) - 1) = true
    · have hi := inr3_iff.1 h2
      rw [if_pos h1, if_pos h2, e45 h1 hi.1 (by omega)]
      simp [h1, h2]
    · simp [h1, h2]
  · simp [h1]
theorem lineR_len (l : List Gi_Node) (i : Int) : (lineR l i).1.length ≤ 40 := by
  unfold lineR
  have := ch_le l 40 i
  split <;> simp <;> omega

theorem lawLineTo (l : List Gw_Node) (i : Int) (hl : l.length < 9223372036854775808) : Dw_FnExactLineTo l i = some true := by
  unfold Dw_FnExactLineTo
  rw [e14 l hl]
  simp only [Option.bind_some]
  by_cases hn : (1048576 : Int) - (l.length : Int) < 0
  · rw [if_pos hn]; rfl
  · have hl' : l.length ≤ 1048576 := by omega
    have hm : (l.map toN).length ≤ 1048576 := by simpa using hl'
    have hc := lineR_len (l.map toN) i
    rw [if_neg hn, if_neg hn, e16 l hl']
    simp only [Option.bind_some, sLineTo _ hm, iLineTo _ hm, e18 _ hm, eqIntS _ (show (lineR (l.map toN) i).1.length ≤ 1048577 by omega), e27 (l.map toN) (by omega), markIntS _ (show (lineR (l.map toN) i).1.length ≤ 1048577 by omega), heldIntS _ (show (lineR (l.map toN) i).1.length ≤ 1048577 by omega), marked_len]
    simp
    rw [if_neg (by omega), if_neg (by omega), if_neg (by omega)]

end Go.Proofs.Ytgafibhekjnffaa.Ab
