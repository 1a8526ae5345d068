/- Part of the proof of FnExactTipsOf: no condition of its own. -/
import Derived.Test.YtgafibhekjnffaaBTD
import Derived.Test.YtgafibhekjnffaaPuA
set_option linter.unusedVariables false
set_option linter.unusedSimpArgs false
open Go
namespace Go.Proofs.Ytgafibhekjnffaa.Ab
def inr3 (n a b : Int) : Bool := decide (a ≤ n) && decide (n ≤ b)
theorem inr3_iff {n a b : Int} : inr3 n a b = true ↔ a ≤ n ∧ n ≤ b := by simp [inr3]
theorem e51 (n a b : Int) : Ds_l1In n a b = some (inr3 n a b) := by
  unfold Ds_l1In inr3; by_cases h : a ≤ n <;> simp [h]
theorem e38 (n a b : Int) : Di_inRange n a b = some (inr3 n a b) := by
  unfold Di_inRange inr3; by_cases h : a ≤ n <;> simp [h]
theorem e48 (n : Int) : Ds_dSeed n = some (inr3 n 0 4611686016279904236) := by simp [Ds_dSeed, e51]
theorem e33 (n : Int) : Di_isSeed n = some (inr3 n 0 4611686016279904236) := by simp [Di_isSeed, e38]
theorem e31 (n : Int) : Di_isTurn n = some (inr3 n 0 30) := by simp [Di_isTurn, e38]
/-- toNodeS, toMailS -/
def toN (x : Gw_Node) : Gi_Node := ⟨x.Parent, x.Turn, x.Hash⟩
theorem e16 (l : List Gw_Node) (hl : l.length ≤ 1048576) : Dw_toNodeS l = some (l.map toN) := by
  unfold Dw_toNodeS
  rw [if_pos (by omega), Int.toNat_natCast]
  refine fill_loop (S := fun i out => Sw_toNodeS.h1 l (i : Int) out) (fun i x y out hx hi hy => ?_) (fun out => ?_) _
  · simp only [Bw_toNodeS, Int.ofNat_lt, hi, if_true, Int.natCast_nonneg, Int.toNat_natCast, hx, hy, Option.bind_some, Dw_toNode, wsucc (show i < 9223372036854775807 by omega), toN]
  · simp [Bw_toNodeS]
theorem e18 (l : List Gi_Node) (hl : l.length ≤ 1048576) : Dw_eqNodeS l l = some true := by
  unfold Dw_eqNodeS
  rw [if_pos rfl]
  refine true_loop (S := fun i => Sw_eqNodeS.h1 l l (i : Int)) (n := l.length) (fun i hi => ?_) ?_
  · simp [Bw_eqNodeS, hi, Dw_eqNode, wsucc (show i < 9223372036854775807 by omega)]
  · simp [Bw_eqNodeS]
theorem e14 (l : List Gw_Node) (hl : l.length < 9223372036854775808) : Dw_szNodeS l 1048576 = some (if (1048576 : Int) - (l.length : Int) < 0 then (-1 : Int) else (1048576 : Int) - (l.length : Int)) := by
  unfold Dw_szNodeS
  rw [w64 (by omega)]
  split <;> rfl
def isCh (p h : Int) (x : Gi_Node) : Bool := decide (x.Parent = p) && decide (x.Hash = h)
theorem e53 (l : List Gi_Node) (hl : l.length ≤ 1048576) (p h : Int) : Ds_nChild l p h = some (ix (isCh p h) l) := by
  unfold Ds_nChild
  refine find_loop (S := fun i => Ss_nChild.h1 p h l (l.length : Int) (i : Int)) (fun i x hx hi => ?_) ?_
  · simp only [Bs_nChild, Int.ofNat_lt, hi, if_true, Int.natCast_nonneg, Int.toNat_natCast, hx, Option.bind_some, wsucc (show i < 9223372036854775807 by omega), isCh]
    by_cases h1 : x.Parent = p <;> by_cases h2 : x.Hash = h <;> simp [h1, h2]
  · simp [Bs_nChild]
theorem e40 (l : List Gi_Node) (hl : l.length ≤ 1048576) (p h : Int) : Di_childWith l p h = some (ix (isCh p h) l) := by
  unfold Di_childWith Dslices_IndexFunc_i_Node_i_childWith_1
  have : loop Bslices_IndexFunc_i_Node_i_childWith_1 (.h1 l p h (l.length : Int) 0) = some (ix (isCh p h) l) := by
    refine find_loop (S := fun i => Sslices_IndexFunc_i_Node_i_childWith_1.h1 l p h (l.length : Int) (i : Int)) (fun i x hx hi => ?_) ?_
    · simp only [Bslices_IndexFunc_i_Node_i_childWith_1, Di_childWith_1, Int.ofNat_lt, hi, if_true, Int.natCast_nonneg, Int.toNat_natCast, hx, Option.bind_some, wsucc (show i < 9223372036854775807 by omega), isCh]
      by_cases h1 : x.Parent = p <;> by_cases h2 : x.Hash = h <;> simp [h1, h2]
    · simp [Bslices_IndexFunc_i_Node_i_childWith_1]
  rw [this]
  rfl

def okn (l : List Gi_Node) (i : Nat) (x : Gi_Node) : Bool := inr3 x.Hash 0 4611686016279904236 &&
  (if i = 0 then decide (x.Parent = -1) && decide (x.Turn = 0) else
    inr3 x.Parent 0 ((i : Int) - 1) && (match l[x.Parent.toNat]? with | some y => decide (x.Turn = IntKind.wrap .i64 (y.Turn + 1)) | none => false) && decide (x.Turn ≤ 30) && decide (ix (isCh x.Parent x.Hash) (l.take i) < 0))
def tree (l : List Gi_Node) : Bool := inr3 l.length 1 40 && alli (okn l) l

theorem e36 (l : List Gi_Node) (hl : l.length ≤ 1048576) : Ds_nGood l = some (tree l) := by
  unfold Ds_nGood tree
  rw [e51]
  simp only [Option.bind_some]
  by_cases h0 : inr3 l.length 1 40 = true
  · rw [if_pos h0, h0, Bool.true_and]
    refine all_loop (S := fun i => Ss_nGood.h1 l l (l.length : Int) (i : Int)) (fun i x hx hi hb => ?_) ?_
    · simp only [Bs_nGood, Int.ofNat_lt, hi, if_true, Int.natCast_nonneg, Int.toNat_natCast, hx, Option.bind_some, wsucc (show i < 9223372036854775807 by omega), e48, okn]
      by_cases h1 : inr3 x.Hash 0 4611686016279904236 = true
      · simp only [h1, if_true, Bool.true_and]
        by_cases h2 : i = 0
        · subst h2
          by_cases h3 : x.Parent = -1 <;> by_cases h4 : x.Turn = 0 <;> simp [h3, h4]
        · rw [if_neg (by omega), e51, w64 (by omega), if_neg h2]
          simp only [Option.bind_some]
          by_cases h3 : inr3 x.Parent 0 ((i : Int) - 1) = true
          · obtain ⟨h4, h5⟩ := inr3_iff.1 h3
            have hlt : x.Parent.toNat < l.length := by omega
            rw [if_pos h3, if_pos h4, List.getElem?_eq_getElem hlt]
            simp only [h3, Bool.true_and, Option.bind_some]
            by_cases h6 : x.Turn = IntKind.wrap .i64 (l[x.Parent.toNat].Turn + 1)
            · rw [if_pos h6]
              simp only [decide_eq_true h6, Bool.true_and]
              by_cases h7 : x.Turn > 30
              · rw [if_pos h7]
                simp [show ¬ x.Turn ≤ 30 by omega]
              · rw [if_neg h7, if_pos (by omega), e53 _ (by simp; omega)]
                simp only [List.drop_zero, Nat.sub_zero, Option.bind_some, show x.Turn ≤ 30 by omega, decide_true, Bool.true_and]
                by_cases h8 : ix (isCh x.Parent x.Hash) (l.take i) < 0
                · rw [if_neg (by omega)]; simp [h8]
                · rw [if_pos (by omega)]; simp [h8]
            · rw [if_neg h6]
              simp [h6]
          · rw [if_neg h3]
            simp [h3]
      · simp [h1]
    · simp [Bs_nGood]
  · rw [if_neg h0]
    simp [h0]

theorem okn_pos {l : List Gi_Node} {i : Nat} {x : Gi_Node} (h : okn l i x = true) (hi : i ≠ 0) : inr3 x.Hash 0 4611686016279904236 = true ∧ 0 ≤ x.Parent ∧ x.Parent ≤ (i : Int) - 1 ∧ (∃ y, l[x.Parent.toNat]? = some y ∧ x.Turn = IntKind.wrap .i64 (y.Turn + 1)) ∧ x.Turn ≤ 30 ∧ ix (isCh x.Parent x.Hash) (l.take i) < 0 := by
  simp only [okn, Bool.and_eq_true] at h
  rw [if_neg hi] at h
  simp only [Bool.and_eq_true, inr3_iff, decide_eq_true_eq] at h
  obtain ⟨h1, ⟨⟨⟨h3, h4⟩, h5⟩, h6⟩⟩ := h
  refine ⟨inr3_iff.2 h1, h3.1, h3.2, ?_, h5, h6⟩
  split at h4
  · rename_i z hz
    exact ⟨z, hz, of_decide_eq_true h4⟩
  · cases h4
theorem okn_zero {l : List Gi_Node} {x : Gi_Node} (h : okn l 0 x = true) : x.Parent = -1 ∧ x.Turn = 0 := by
  simp [okn] at h
  exact h.2

theorem tree_turn {l : List Gi_Node} (n : Nat) (h : ∀ j y, j < n → l[j]? = some y → okn l j y = true) : ∀ j y, j < n → l[j]? = some y → 0 ≤ y.Turn ∧ y.Turn ≤ 30 := by
  intro j
  induction j using Nat.strongRecOn with
  | _ j ih =>
    intro y hj hy
    have h1 := h j y hj hy
    by_cases h2 : j = 0
    · subst h2
      have := okn_zero h1
      omega
    · obtain ⟨_, h3, h4, ⟨z, hz, h5⟩, h6, _⟩ := okn_pos h1 h2
      have := ih y.Parent.toNat (by omega) z (by omega) hz
      rw [w64 (by omega)] at h5
      omega

theorem ix_take {l : List Gi_Node} {i : Nat} {x : Gi_Node} (hx : l[i]? = some x) : ix (isCh x.Parent x.Hash) l = (i : Int) ↔ ix (isCh x.Parent x.Hash) (l.take i) < 0 := by
  have hi : i < l.length := (List.getElem?_eq_some_iff.1 hx).1
  have hp : isCh x.Parent x.Hash x = true := by simp [isCh]
  have hxi : l[i] = x := (List.getElem?_eq_some_iff.1 hx).2
  unfold ix
  constructor
  · intro h
    split at h
    · rename_i j hj
      have : j = i := by omega
      subst this
      rw [List.findIdx?_eq_some_iff_getElem] at hj
      have : (l.take j).findIdx? (isCh x.Parent x.Hash) = none := by
        rw [List.findIdx?_eq_none_iff]
        intro y hy
        obtain ⟨m, hm⟩ := List.getElem?_of_mem hy
        obtain ⟨hlt, he⟩ := List.getElem?_eq_some_iff.1 hm
        simp at hlt
        have := hj.2.2 m (by omega)
        simp at he
        rw [← he]
        simpa using this
      rw [this]
      decide
    · omega
  · intro h
    split at h
    · omega
    · rename_i hn
      rw [List.findIdx?_eq_none_iff] at hn
      have : l.findIdx? (isCh x.Parent x.Hash) = some i := by
        rw [List.findIdx?_eq_some_iff_getElem]
        refine ⟨hi, by rw [hxi]; exact hp, fun j hj => ?_⟩
        have := hn l[j] (List.mem_of_getElem? (i := j) (by rw [List.getElem?_take]; simp [hj]))
        simpa using this
      rw [this]

theorem e39 (i n : Int) (h : -9223372036854775808 ≤ n - 1 ∧ n - 1 ≤ 9223372036854775807) : Di_isIndex i n = some (inr3 i 0 (n - 1)) := by
  unfold Di_isIndex
  rw [w64 h, e38]
  rfl

theorem e17 (l : List Gi_Node) (hl : l.length ≤ 1048576) : Di_IsTree l = some (tree l) := by
  unfold Di_IsTree tree
  rw [e38]
  simp only [Option.bind_some]
  by_cases h0 : inr3 l.length 1 40 = true
  · rw [if_pos h0, h0, Bool.true_and]
    have hlen := inr3_iff.1 h0
    have h00 : 0 < l.length := by omega
    have hx0 : l[Int.toNat 0]? = some l[0] := List.getElem?_eq_getElem h00
    rw [hx0]
    simp only [Option.bind_some]
    have bad : ¬ (l[0].Parent = -1 ∧ l[0].Turn = 0) → alli (okn l) l = false := fun h => by
      have : ¬ alli (okn l) l = true := fun h' => h (okn_zero (alli_iff.1 h' 0 _ (List.getElem?_eq_getElem h00)))
      simpa using this
    by_cases h1 : l[0].Parent = -1
    · rw [if_pos h1]
      by_cases h2 : l[0].Turn = 0
      · rw [if_pos h2]
        refine all_loop (S := fun i => Si_IsTree.h1 l l (l.length : Int) (i : Int)) (fun i x hx hi hb => ?_) ?_
        · simp only [Bi_IsTree, Int.ofNat_lt, hi, if_true, Int.natCast_nonneg, Int.toNat_natCast, hx, Option.bind_some, wsucc (show i < 9223372036854775807 by omega), e33, okn]
          by_cases h3 : inr3 x.Hash 0 4611686016279904236 = true
          · simp only [h3, if_true, Bool.true_and]
            by_cases h4 : i = 0
            · subst h4
              have : x = l[0] := by rw [List.getElem?_eq_getElem h00] at hx; exact (Option.some.inj hx).symm
              subst this
              simp [h1, h2]
            · rw [if_pos (by omega), e39 _ _ (by omega), if_neg h4]
              simp only [Option.bind_some]
              by_cases h5 : inr3 x.Parent 0 ((i : Int) - 1) = true
              · obtain ⟨h6, h7⟩ := inr3_iff.1 h5
                have hlt : x.Parent.toNat < l.length := by omega
                rw [if_pos h5, if_pos h6, List.getElem?_eq_getElem hlt]
                simp only [h5, Bool.true_and, Option.bind_some]
                have ht := tree_turn i hb x.Parent.toNat _ (by omega) (List.getElem?_eq_getElem hlt)
                by_cases h8 : x.Turn = IntKind.wrap .i64 (l[x.Parent.toNat].Turn + 1)
                · rw [if_pos h8, e31]
                  simp only [decide_eq_true h8, Bool.true_and, Option.bind_some]
                  rw [w64 (by omega)] at h8
                  by_cases h9 : x.Turn ≤ 30
                  · rw [if_pos (inr3_iff.2 ⟨by omega, h9⟩), e40 _ hl]
                    simp only [Option.bind_some, h9, decide_true, Bool.true_and]
                    by_cases h10 : ix (isCh x.Parent x.Hash) l = (i : Int)
                    · rw [if_pos h10]
                      have := (ix_take hx).1 h10
                      simp [this]
                    · rw [if_neg h10]
                      have : ¬ ix (isCh x.Parent x.Hash) (l.take i) < 0 := fun h => h10 ((ix_take hx).2 h)
                      simp [this]
                  · rw [if_neg (fun h => h9 (inr3_iff.1 h).2)]
                    simp [h9]
                · rw [if_neg h8]
                  simp [h8]
              · rw [if_neg h5]
                simp [h5]
          · simp [h3]
        · simp [Bi_IsTree]
      · rw [if_neg h2, bad (fun h => h2 h.2)]
    · rw [if_neg h1, bad (fun h => h1 h.1)]
  · rw [if_neg h0]
    simp [h0]

theorem ix_neg {α : Type} {p : α → Bool} {l : List α} (h : ∀ x ∈ l, p x = false) : ix p l = -1 := by
  have : l.findIdx? p = none := by rw [List.findIdx?_eq_none_iff]; exact h
  simp [ix, this]
theorem ix_nn {α : Type} {p : α → Bool} {l : List α} {x : α} (hx : x ∈ l) (h : p x = true) : 0 ≤ ix p l := by
  unfold ix
  split
  · omega
  · rename_i hn
    rw [List.findIdx?_eq_none_iff] at hn
    rw [hn x hx] at h
    cases h

def tipOf (l : List Gi_Node) (i : Int) : Bool := l.all fun x => decide (x.Parent ≠ i)
def tips (l : List Gi_Node) : List Int := ((List.range l.length).map fun i : Nat => (i : Int)).filter (tipOf l)

theorem ix_all {l : List Gi_Node} {i : Int} : decide (ix (fun x : Gi_Node => decide (x.Parent = i)) l ≥ 0) = !tipOf l i := by
  by_cases h : tipOf l i = true
  · rw [h, ix_neg (fun x hx => by simp only [tipOf, List.all_eq_true, decide_eq_true_eq] at h; simpa using h x hx)]
    rfl
  · rw [Bool.not_eq_true] at h
    rw [h]
    simp only [tipOf, List.all_eq_false, decide_eq_true_eq, Decidable.not_not] at h
    obtain ⟨x, hx, he⟩ := h
    exact decide_eq_true (ix_nn hx (decide_eq_true he))
theorem e57 (l : List Gi_Node) (hl : l.length ≤ 1048576) (i : Int) : Dslices_ContainsFunc_i_Node_i_tipsOf_1 l i = some (!tipOf l i) := by
  unfold Dslices_ContainsFunc_i_Node_i_tipsOf_1 Dslices_IndexFunc_i_Node_i_tipsOf_1
  have : loop Bslices_IndexFunc_i_Node_i_tipsOf_1 (.h1 l i (l.length : Int) 0) = some (ix (fun x : Gi_Node => decide (x.Parent = i)) l) := by
    refine find_loop (S := fun j => Sslices_IndexFunc_i_Node_i_tipsOf_1.h1 l i (l.length : Int) (j : Int)) (fun j x hx hj => ?_) ?_
    · simp only [Bslices_IndexFunc_i_Node_i_tipsOf_1, Di_tipsOf_1, Int.ofNat_lt, hj, if_true, Int.natCast_nonneg, Int.toNat_natCast, hx, Option.bind_some, wsucc (show j < 9223372036854775807 by omega)]
      by_cases h1 : x.Parent = i <;> simp [h1]
    · simp [Bslices_IndexFunc_i_Node_i_tipsOf_1]
  rw [this]
  simp only [Option.bind_some, ix_all]

theorem tips_take (l : List Gi_Node) (i : Nat) (hi : i < l.length) : ((List.range (i + 1)).map fun i : Nat => (i : Int)).filter (tipOf l) = ((List.range i).map fun i : Nat => (i : Int)).filter (tipOf l) ++ (if tipOf l i = true then [(i : Int)] else []) := by
  rw [List.range_succ, List.map_append, List.filter_append]
  congr 1
  simp only [List.map_cons, List.map_nil, List.filter_cons, List.filter_nil]

theorem e47 (l : List Gi_Node) (hl : l.length ≤ 1048576) : Di_tipsOf l = some (tips l) := by
  unfold Di_tipsOf
  have key : ∀ (k i : Nat), i + k = l.length → loop Bi_tipsOf (.h1 l (l.length : Int) (i : Int) (((List.range i).map fun i : Nat => (i : Int)).filter (tipOf l))) = some (tips l) := by
    intro k
    induction k with
    | zero =>
      intro i h
      have : i = l.length := by omega
      subst this
      rw [loop_eq]
      simp only [Bi_tipsOf]
      rw [if_neg (by omega)]
      rfl
    | succ k ih =>
      intro i h
      rw [loop_eq]
      simp only [Bi_tipsOf]
      rw [if_pos (by omega), e57 l hl]
      simp only [Option.bind_some]
      have ht := tips_take l i (by omega)
      have := ih (i + 1) (by omega)
      rw [ht] at this
      by_cases h1 : tipOf l i = true
      · have hlen := List.length_filter_le (tipOf l) ((List.range i).map fun i : Nat => (i : Int))
        simp only [List.length_map, List.length_range] at hlen
        rw [if_pos h1] at this
        rw [if_neg (by simp [h1]), if_pos (by simp only [List.length_append, List.length_singleton]; omega), wsucc (by omega)]
        exact this
      · rw [if_neg h1, List.append_nil] at this
        rw [if_pos (by simpa using h1), wsucc (by omega)]
        exact this
  simpa using key l.length 0 (by omega)

theorem e46b (l : List Gi_Node) (hl : l.length ≤ 1048576) (i t : Int) (out : List Int) (ho : out.length ≤ 1048576) : ∀ (k j : Nat) (b : Bool), j + k = l.length → loop Bs_nTips (.h2 l i b (l.length : Int) t l (l.length : Int) (j : Int) out) =
    loop Bs_nTips (.h1 l (l.length : Int) (IntKind.wrap .i64 (t + 1)) (if (b && (l.drop j).all fun x => decide (x.Parent ≠ i)) = true then out ++ [i] else out)) := by
  intro k
  induction k with
  | zero =>
    intro j b h
    rw [loop_eq, List.drop_of_length_le (show l.length ≤ j by omega)]
    cases b
    · simp only [Bs_nTips]
      rw [if_neg (by omega)]
      rfl
    · simp only [Bs_nTips]
      rw [if_neg (by omega), if_pos (by simp; omega)]
      rfl
  | succ k ih =>
    intro j b h
    have hlt : j < l.length := by omega
    rw [loop_eq, List.drop_eq_getElem_cons hlt]
    cases b
    · simp only [Bs_nTips]
      rw [if_pos (by omega), if_pos (by omega), Int.toNat_natCast, List.getElem?_eq_getElem hlt, wsucc (by omega)]
      simp only [Option.bind_some, goOn]
      rw [ih (j + 1) false (by omega)]
      rfl
    · simp only [Bs_nTips]
      rw [if_pos (by omega), if_pos (by omega), Int.toNat_natCast, List.getElem?_eq_getElem hlt, wsucc (by omega)]
      simp only [Option.bind_some, goOn]
      rw [ih (j + 1) _ (by omega)]
      generalize List.drop (j + 1) l = tl
      by_cases h1 : l[j].Parent = i <;> simp [h1]

theorem e46 (l : List Gi_Node) (hl : l.length ≤ 1048576) : Ds_nTips l = some (tips l) := by
  unfold Ds_nTips
  have k3 : ∀ (k i : Nat), i + k = l.length → loop Bs_nTips (.h1 l (l.length : Int) (i : Int) (((List.range i).map fun i : Nat => (i : Int)).filter (tipOf l))) = some (tips l) := by
    intro k
    induction k with
    | zero =>
      intro i h
      have : i = l.length := by omega
      subst this
      rw [loop_eq]
      simp only [Bs_nTips]
      rw [if_neg (by omega)]
      rfl
    | succ k ih =>
      intro i h
      have hlen := List.length_filter_le (tipOf l) ((List.range i).map fun i : Nat => (i : Int))
      simp only [List.length_map, List.length_range] at hlen
      rw [loop_eq]
      simp only [Bs_nTips]
      rw [if_pos (by omega)]
      simp only [goOn]
      rw [show (0 : Int) = ((0 : Nat) : Int) from rfl, e46b l hl _ _ _ (by omega) l.length 0 true (by omega), wsucc (by omega)]
      have := ih (i + 1) (by omega)
      rw [tips_take l i (by omega)] at this
      simp only [List.drop_zero, Bool.true_and]
      by_cases h1 : tipOf l i = true
      · rw [if_pos h1] at this
        rw [if_pos (by simpa [tipOf] using h1)]
        exact this
      · rw [if_neg h1, List.append_nil] at this
        rw [if_neg (by simpa [tipOf] using h1)]
        exact this
  exact k3 l.length 0 (by omega)

theorem tips_len (l : List Gi_Node) : (tips l).length ≤ l.length := by
  have hlen := List.length_filter_le (tipOf l) ((List.range l.length).map fun i : Nat => (i : Int))
  simpa [tips] using hlen
def mkN (k : Int) : Gi_Node := ⟨k, k + 1, k + 2⟩
theorem e27 (l : List Gi_Node) (hl : l.length ≤ 1048577) : Dw_markNodeS l 1 = some ((1 : Int) + (3 * l.length : Nat), marked mkN 3 1 l.length) := by
  unfold Dw_markNodeS
  refine mark_loop (S := fun k i m => Sw_markNodeS.h1 k (i : Int) m) (by decide) (by omega) (fun i k m x hm hi hx h0 hb => ?_) (fun k m hm => ?_) l rfl
  · have hlt : i < m.length := by omega
    have a1 : k + 1 + 1 = k + 2 := by omega
    have a2 : k + 2 + 1 = k + 3 := by omega
    simp only [Bw_markNodeS, hm, Int.ofNat_lt, hi, if_true, Int.natCast_nonneg, Int.toNat_natCast, hx, Option.bind_some, List.getElem?_set, hlt, List.length_set]
    rw [wsucc (by omega), w64 (n := k + 1) (by omega), a1, w64 (n := k + 2) (by omega), a2, w64 (n := k + 3) (by omega)]
    simp [mkN, List.set_set]
  · simp [Bw_markNodeS, hm]
theorem eqIntS (l : List Int) (hl : l.length ≤ 1048577) : Dw_eqIntS l l = some true := by
  unfold Dw_eqIntS
  rw [if_pos rfl]
  refine true_loop (S := fun i => Sw_eqIntS.h1 l l (i : Int)) (n := l.length) (fun i hi => ?_) ?_
  · simp [Bw_eqIntS, hi, wsucc (show i < 9223372036854775807 by omega)]
  · simp [Bw_eqIntS]
theorem markI (l : List Int) (hl : l.length ≤ 1048577) (k0 : Int) (h0 : 0 ≤ k0) (h1 : k0 ≤ 1099511627776) : Dw_markIntS l k0 = some (k0 + (1 * l.length : Nat), marked (fun k => k) 1 k0 l.length) := by
  unfold Dw_markIntS
  refine mark_loop (S := fun k i m => Sw_markIntS.h1 k (i : Int) m) h0 (by omega) (fun i k m x hm hi hx h0 hb => ?_) (fun k m hm => ?_) l rfl
  · simp only [Bw_markIntS, hm, Int.ofNat_lt, hi, if_true, Int.natCast_nonneg, Int.toNat_natCast, hx, Option.bind_some]
    rw [wsucc (by omega), w64 (n := k + 1) (by omega)]
    rfl
  · simp [Bw_markIntS, hm]
theorem heldI (n : Nat) (hn : n ≤ 1048577) (k0 : Int) (h0 : 0 ≤ k0) (h1 : k0 ≤ 1099511627776) : Dw_heldIntS (marked (fun k => k) 1 k0 n) k0 = some (k0 + (1 * n : Nat)) := by
  unfold Dw_heldIntS
  have hlen := marked_len (fun k : Int => k) 1 k0 n
  refine held_loop (f := fun k => k) (c := 1) (n := n) (S := fun k i => Sw_heldIntS.h1 (marked (fun k => k) 1 k0 n) k (i : Int)) h0 (by omega) (fun i k hi hx h0 hb => ?_) (fun k => ?_)
  · simp only [Bw_heldIntS, hlen, Int.ofNat_lt, hi, if_true, Int.natCast_nonneg, Int.toNat_natCast, hx, Option.bind_some]
    rw [wsucc (by omega), w64 (n := k + 1) (by omega)]
    rfl
  · simp [Bw_heldIntS, hlen]
theorem markIntS (l : List Int) (hl : l.length ≤ 1048577) : Dw_markIntS l 1 = some ((1 : Int) + (1 * l.length : Nat), marked (fun k => k) 1 1 l.length) := markI l hl 1 (by decide) (by decide)
theorem heldIntS (n : Nat) (hn : n ≤ 1048577) : Dw_heldIntS (marked (fun k => k) 1 1 n) 1 = some ((1 : Int) + (1 * n : Nat)) := heldI n hn 1 (by decide) (by decide)
def tipsR (l : List Gi_Node) : List Int × Bool := if tree l = true then (tips l, true) else ([], false)
theorem sTipsOf (l : List Gi_Node) (hl : l.length ≤ 1048576) : Ds_TipsOf l = some (tipsR l) := by
  unfold Ds_TipsOf tipsR
  rw [e36 l hl, e46 l hl]
  simp only [Option.bind_some]
  split <;> rfl
theorem iTipsOf (l : List Gi_Node) (hl : l.length ≤ 1048576) : Di_TipsOf l = some (tipsR l) := by
  unfold Di_TipsOf tipsR
  rw [e17 l hl, e47 l hl]
  simp only [Option.bind_some]
  split <;> rfl
theorem tipsR_len (l : List Gi_Node) (hl : l.length ≤ 1048576) : (tipsR l).1.length ≤ 1048576 := by
  unfold tipsR
  have := tips_len l
  split <;> simp <;> omega
theorem lawTipsOf (l : List Gw_Node) (hl : l.length < 9223372036854775808) : Dw_FnExactTipsOf l = some true := by
  unfold Dw_FnExactTipsOf
  rw [e14 l hl]
  simp only [Option.bind_some]
  by_cases hn : (1048576 : Int) - (l.length : Int) < 0
  · rw [if_pos hn]; rfl
  · have hl' : l.length ≤ 1048576 := by omega
    have hm : (l.map toN).length ≤ 1048576 := by simpa using hl'
    have hc := tipsR_len (l.map toN) hm
    rw [if_neg hn, if_neg hn, e16 l hl']
    simp only [Option.bind_some, sTipsOf _ hm, iTipsOf _ hm, e18 _ hm, eqIntS _ (show (tipsR (l.map toN)).1.length ≤ 1048577 by omega), e27 (l.map toN) (by omega), markIntS _ (show (tipsR (l.map toN)).1.length ≤ 1048577 by omega), heldIntS _ (show (tipsR (l.map toN)).1.length ≤ 1048577 by omega), marked_len]
    simp
    rw [if_neg (by omega), if_neg (by omega), if_neg (by omega)]

end Go.Proofs.Ytgafibhekjnffaa.Ab
