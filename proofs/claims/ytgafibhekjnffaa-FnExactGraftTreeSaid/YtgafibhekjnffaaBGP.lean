/- Part of the proof of FnExactGraftTree: no condition of its own. -/
import Derived.Test.YtgafibhekjnffaaBGD
import Derived.Test.YtgafibhekjnffaaPuA
set_option linter.unusedVariables false
set_option linter.unusedSimpArgs false
open Go
namespace Go.Proofs.Ytgafibhekjnffaa.Ab
def inr3 (n a b : Int) : Bool := decide (a ≤ n) && decide (n ≤ b)
theorem inr3_iff {n a b : Int} : inr3 n a b = true ↔ a ≤ n ∧ n ≤ b := by simp [inr3]
theorem e51 (n a b : Int) : Ds_l1In n a b = some (inr3 n a b) := by
  unfold Ds_l1In inr3; by_cases h : a ≤ n <;> simp [h]
theorem e38 (n a b : Int) : Di_inRange n a b = some (inr3 n a b) := by
  unfold Di_inRange inr3; by_cases h : a ≤ n <;> simp [h]
theorem e48 (n : Int) : Ds_dSeed n = some (inr3 n 0 4611686016279904236) := by simp [Ds_dSeed, e51]
theorem e33 (n : Int) : Di_isSeed n = some (inr3 n 0 4611686016279904236) := by simp [Di_isSeed, e38]
theorem e31 (n : Int) : Di_isTurn n = some (inr3 n 0 30) := by simp [Di_isTurn, e38]
/-- toNodeS, toMailS -/
def toN (x : Gw_Node) : Gi_Node := ⟨x.Parent, x.Turn, x.Hash⟩
theorem e16 (l : List Gw_Node) (hl : l.length ≤ 1048576) : Dw_toNodeS l = some (l.map toN) := by
  unfold Dw_toNodeS
  rw [if_pos (by omega), Int.toNat_natCast]
  refine fill_loop (S := fun i out => Sw_toNodeS.h1 l (i : Int) out) (fun i x y out hx hi hy => ?_) (fun out => ?_) _
  · simp only [Bw_toNodeS, Int.ofNat_lt, hi, if_true, Int.natCast_nonneg, Int.toNat_natCast, hx, hy, Option.bind_some, Dw_toNode, wsucc (show i < 9223372036854775807 by omega), toN]
  · simp [Bw_toNodeS]
theorem e18 (l : List Gi_Node) (hl : l.length ≤ 1048576) : Dw_eqNodeS l l = some true := by
  unfold Dw_eqNodeS
  rw [if_pos rfl]
  refine true_loop (S := fun i => Sw_eqNodeS.h1 l l (i : Int)) (n := l.length) (fun i hi => ?_) ?_
  · simp [Bw_eqNodeS, hi, Dw_eqNode, wsucc (show i < 9223372036854775807 by omega)]
  · simp [Bw_eqNodeS]
def isCh (p h : Int) (x : Gi_Node) : Bool := decide (x.Parent = p) && decide (x.Hash = h)
theorem e53 (l : List Gi_Node) (hl : l.length ≤ 1048576) (p h : Int) : Ds_nChild l p h = some (ix (isCh p h) l) := by
  unfold Ds_nChild
  refine find_loop (S := fun i => Ss_nChild.h1 p h l (l.length : Int) (i : Int)) (fun i x hx hi => ?_) ?_
  · simp only [Bs_nChild, Int.ofNat_lt, hi, if_true, Int.natCast_nonneg, Int.toNat_natCast, hx, Option.bind_some, wsucc (show i < 9223372036854775807 by omega), isCh]
    by_cases h1 : x.Parent = p <;> by_cases h2 : x.Hash = h <;> simp [h1, h2]
  · simp [Bs_nChild]
theorem e40 (l : List Gi_Node) (hl : l.length ≤ 1048576) (p h : Int) : Di_childWith l p h = some (ix (isCh p h) l) := by
  unfold Di_childWith Dslices_IndexFunc_i_Node_i_childWith_1
  have : loop Bslices_IndexFunc_i_Node_i_childWith_1 (.h1 l p h (l.length : Int) 0) = some (ix (isCh p h) l) := by
    refine find_loop (S := fun i => Sslices_IndexFunc_i_Node_i_childWith_1.h1 l p h (l.length : Int) (i : Int)) (fun i x hx hi => ?_) ?_
    · simp only [Bslices_IndexFunc_i_Node_i_childWith_1, Di_childWith_1, Int.ofNat_lt, hi, if_true, Int.natCast_nonneg, Int.toNat_natCast, hx, Option.bind_some, wsucc (show i < 9223372036854775807 by omega), isCh]
      by_cases h1 : x.Parent = p <;> by_cases h2 : x.Hash = h <;> simp [h1, h2]
    · simp [Bslices_IndexFunc_i_Node_i_childWith_1]
  rw [this]
  rfl

def okn (l : List Gi_Node) (i : Nat) (x : Gi_Node) : Bool := inr3 x.Hash 0 4611686016279904236 &&
  (if i = 0 then decide (x.Parent = -1) && decide (x.Turn = 0) else
    inr3 x.Parent 0 ((i : Int) - 1) && (match l[x.Parent.toNat]? with | some y => decide (x.Turn = IntKind.wrap .i64 (y.Turn + 1)) | none => false) && decide (x.Turn ≤ 30) && decide (ix (isCh x.Parent x.Hash) (l.take i) < 0))
def tree (l : List Gi_Node) : Bool := inr3 l.length 1 40 && alli (okn l) l

theorem e36 (l : List Gi_Node) (hl : l.length ≤ 1048576) : Ds_nGood l = some (tree l) := by
  unfold Ds_nGood tree
  rw [e51]
  simp only [Option.bind_some]
  by_cases h0 : inr3 l.length 1 40 = true
  · rw [if_pos h0, h0, Bool.true_and]
    refine all_loop (S := fun i => Ss_nGood.h1 l l (l.length : Int) (i : Int)) (fun i x hx hi hb => ?_) ?_
    · simp only [Bs_nGood, Int.ofNat_lt, hi, if_true, Int.natCast_nonneg, Int.toNat_natCast, hx, Option.bind_some, wsucc (show i < 9223372036854775807 by omega), e48, okn]
      by_cases h1 : inr3 x.Hash 0 4611686016279904236 = true
      · simp only [h1, if_true, Bool.true_and]
        by_cases h2 : i = 0
        · subst h2
          by_cases h3 : x.Parent = -1 <;> by_cases h4 : x.Turn = 0 <;> simp [h3, h4]
        · rw [if_neg (by omega), e51, w64 (by omega), if_neg h2]
          simp only [Option.bind_some]
          by_cases h3 : inr3 x.Parent 0 ((i : Int) - 1) = true
          · obtain ⟨h4, h5⟩ := inr3_iff.1 h3
            have hlt : x.Parent.toNat < l.length := by omega
            rw [if_pos h3, if_pos h4, List.getElem?_eq_getElem hlt]
            simp only [h3, Bool.true_and, Option.bind_some]
            by_cases h6 : x.Turn = IntKind.wrap .i64 (l[x.Parent.toNat].Turn + 1)
            · rw [if_pos h6]
              simp only [decide_eq_true h6, Bool.true_and]
              by_cases h7 : x.Turn > 30
              · rw [if_pos h7]
                simp [show ¬ x.Turn ≤ 30 by omega]
              · rw [if_neg h7, if_pos (by omega), e53 _ (by simp; omega)]
                simp only [List.drop_zero, Nat.sub_zero, Option.bind_some, show x.Turn ≤ 30 by omega, decide_true, Bool.true_and]
                by_cases h8 : ix (isCh x.Parent x.Hash) (l.take i) < 0
                · rw [if_neg (by omega)]; simp [h8]
                · rw [if_pos (by omega)]; simp [h8]
            · rw [if_neg h6]
              simp [h6]
          · rw [if_neg h3]
            simp [h3]
      · simp [h1]
    · simp [Bs_nGood]
  · rw [if_neg h0]
    simp [h0]

theorem okn_pos {l : List Gi_Node} {i : Nat} {x : Gi_Node} (h : okn l i x = true) (hi : i ≠ 0) : inr3 x.Hash 0 4611686016279904236 = true ∧ 0 ≤ x.Parent ∧ x.Parent ≤ (i : Int) - 1 ∧ (∃ y, l[x.Parent.toNat]? = some y ∧ x.Turn = IntKind.wrap .i64 (y.Turn + 1)) ∧ x.Turn ≤ 30 ∧ ix (isCh x.Parent x.Hash) (l.take i) < 0 := by
  simp only [okn, Bool.and_eq_true] at h
  rw [if_neg hi] at h
  simp only [Bool.and_eq_true, inr3_iff, decide_eq_true_eq] at h
  obtain ⟨h1, ⟨⟨⟨h3, h4⟩, h5⟩, h6⟩⟩ := h
  refine ⟨inr3_iff.2 h1, h3.1, h3.2, ?_, h5, h6⟩
  split at h4
  · rename_i z hz
    exact ⟨z, hz, of_decide_eq_true h4⟩
  · cases h4
theorem okn_zero {l : List Gi_Node} {x : Gi_Node} (h : okn l 0 x = true) : x.Parent = -1 ∧ x.Turn = 0 := by
  simp [okn] at h
  exact h.2

theorem tree_turn {l : List Gi_Node} (n : Nat) (h : ∀ j y, j < n → l[j]? = some y → okn l j y = true) : ∀ j y, j < n → l[j]? = some y → 0 ≤ y.Turn ∧ y.Turn ≤ 30 := by
  intro j
  induction j using Nat.strongRecOn with
  | _ j ih =>
    intro y hj hy
    have h1 := h j y hj hy
    by_cases h2 : j = 0
    · subst h2
      have := okn_zero h1
      omega
    · obtain ⟨_, h3, h4, ⟨z, hz, h5⟩, h6, _⟩ := okn_pos h1 h2
      have := ih y.Parent.toNat (by omega) z (by omega) hz
      rw [w64 (by omega)] at h5
      omega

theorem ix_take {l : List Gi_Node} {i : Nat} {x : Gi_Node} (hx : l[i]? = some x) : ix (isCh x.Parent x.Hash) l = (i : Int) ↔ ix (isCh x.Parent x.Hash) (l.take i) < 0 := by
  have hi : i < l.length := (List.getElem?_eq_some_iff.1 hx).1
  have hp : isCh x.Parent x.Hash x = true := by simp [isCh]
  have hxi : l[i] = x := (List.getElem?_eq_some_iff.1 hx).2
  unfold ix
  constructor
  · intro h
    split at h
    · rename_i j hj
      have : j = i := by omega
      subst this
      rw [List.findIdx?_eq_some_iff_getElem] at hj
      have : (l.take j).findIdx? (isCh x.Parent x.Hash) = none := by
        rw [List.findIdx?_eq_none_iff]
        intro y hy
        obtain ⟨m, hm⟩ := List.getElem?_of_mem hy
        obtain ⟨hlt, he⟩ := List.getElem?_eq_some_iff.1 hm
        simp at hlt
        have := hj.2.2 m (by omega)
        simp at he
        rw [← he]
        simpa using this
      rw [this]
      decide
    · omega
  · intro h
    split at h
    · omega
    · rename_i hn
      rw [List.findIdx?_eq_none_iff] at hn
      have : l.findIdx? (isCh x.Parent x.Hash) = some i := by
        rw [List.findIdx?_eq_some_iff_getElem]
        refine ⟨hi, by rw [hxi]; exact hp, fun j hj => ?_⟩
        have := hn l[j] (List.mem_of_getElem? (i := j) (by rw [List.getElem?_take]; simp [hj]))
        simpa using this
      rw [this]

theorem e39 (i n : Int) (h : -9223372036854775808 ≤ n - 1 ∧ n - 1 ≤ 9223372036854775807) : Di_isIndex i n = some (inr3 i 0 (n - 1)) := by
  unfold Di_isIndex
  rw [w64 h, e38]
  rfl

theorem e17 (l : List Gi_Node) (hl : l.length ≤ 1048576) : Di_IsTree l = some (tree l) := by
  unfold Di_IsTree tree
  rw [e38]
  simp only [Option.bind_some]
  by_cases h0 : inr3 l.length 1 40 = true
  · rw [if_pos h0, h0, Bool.true_and]
    have hlen := inr3_iff.1 h0
    have h00 : 0 < l.length := by omega
    have hx0 : l[Int.toNat 0]? = some l[0] := List.getElem?_eq_getElem h00
    rw [hx0]
    simp only [Option.bind_some]
    have bad : ¬ (l[0].Parent = -1 ∧ l[0].Turn = 0) → alli (okn l) l = false := fun h => by
      have : ¬ alli (okn l) l = true := fun h' => h (okn_zero (alli_iff.1 h' 0 _ (List.getElem?_eq_getElem h00)))
      simpa using this
    by_cases h1 : l[0].Parent = -1
    · rw [if_pos h1]
      by_cases h2 : l[0].Turn = 0
      · rw [if_pos h2]
        refine all_loop (S := fun i => Si_IsTree.h1 l l (l.length : Int) (i : Int)) (fun i x hx hi hb => ?_) ?_
        · simp only [Bi_IsTree, Int.ofNat_lt, hi, if_true, Int.natCast_nonneg, Int.toNat_natCast, hx, Option.bind_some, wsucc (show i < 9223372036854775807 by omega), e33, okn]
          by_cases h3 : inr3 x.Hash 0 4611686016279904236 = true
          · simp only [h3, if_true, Bool.true_and]
            by_cases h4 : i = 0
            · subst h4
              have : x = l[0] := by rw [List.getElem?_eq_getElem h00] at hx; exact (Option.some.inj hx).symm
              subst this
              simp [h1, h2]
            · rw [if_pos (by omega), e39 _ _ (by omega), if_neg h4]
              simp only [Option.bind_some]
              by_cases h5 : inr3 x.Parent 0 ((i : Int) - 1) = true
              · obtain ⟨h6, h7⟩ := inr3_iff.1 h5
                have hlt : x.Parent.toNat < l.length := by omega
                rw [if_pos h5, if_pos h6, List.getElem?_eq_getElem hlt]
                simp only [h5, Bool.true_and, Option.bind_some]
                have ht := tree_turn i hb x.Parent.toNat _ (by omega) (List.getElem?_eq_getElem hlt)
                by_cases h8 : x.Turn = IntKind.wrap .i64 (l[x.Parent.toNat].Turn + 1)
                · rw [if_pos h8, e31]
                  simp only [decide_eq_true h8, Bool.true_and, Option.bind_some]
                  rw [w64 (by omega)] at h8
                  by_cases h9 : x.Turn ≤ 30
                  · rw [if_pos (inr3_iff.2 ⟨by omega, h9⟩), e40 _ hl]
                    simp only [Option.bind_some, h9, decide_true, Bool.true_and]
                    by_cases h10 : ix (isCh x.Parent x.Hash) l = (i : Int)
                    · rw [if_pos h10]
                      have := (ix_take hx).1 h10
                      simp [this]
                    · rw [if_neg h10]
                      have : ¬ ix (isCh x.Parent x.Hash) (l.take i) < 0 := fun h => h10 ((ix_take hx).2 h)
                      simp [this]
                  · rw [if_neg (fun h => h9 (inr3_iff.1 h).2)]
                    simp [h9]
                · rw [if_neg h8]
                  simp [h8]
              · rw [if_neg h5]
                simp [h5]
          · simp [h3]
        · simp [Bi_IsTree]
      · rw [if_neg h2, bad (fun h => h2 h.2)]
    · rw [if_neg h1, bad (fun h => h1 h.1)]
  · rw [if_neg h0]
    simp [h0]

theorem tree_ok {l : List Gi_Node} (h : tree l = true) : 1 ≤ l.length ∧ l.length ≤ 40 ∧ ∀ (i : Nat) (x : Gi_Node), l[i]? = some x → okn l i x = true := by
  simp only [tree, Bool.and_eq_true, inr3_iff] at h
  exact ⟨by omega, by omega, alli_iff.1 h.2⟩

def turnAt (l : List Gi_Node) (i : Int) : Int := match l[i.toNat]? with | some x => x.Turn | none => 0
theorem turnAt_eq {l : List Gi_Node} {i : Int} (h : i < l.length) (h0 : 0 ≤ i) : ∃ x, l[i.toNat]? = some x ∧ turnAt l i = x.Turn := by
  have hlt : i.toNat < l.length := by omega
  exact ⟨_, List.getElem?_eq_getElem hlt, by simp [turnAt, List.getElem?_eq_getElem hlt]⟩
def addR (l : List Gi_Node) (p h : Int) : List Gi_Node × Int × Bool := if ix (isCh p h) l ≥ 0 then (l, ix (isCh p h) l, true) else if (l.length : Int) = 40 ∨ turnAt l p = 30 then ([], 0, false) else (l ++ [⟨p, IntKind.wrap .i64 (turnAt l p + 1), h⟩], (l.length : Int), true)
theorem e49 (l : List Gi_Node) (hl : l.length ≤ 1048576) (p h : Int) (hp : 0 ≤ p) (hp' : p < l.length) : Ds_nAdd l p h = some (addR l p h) := by
  obtain ⟨y, hy, hy'⟩ := turnAt_eq hp' hp
  unfold Ds_nAdd addR
  rw [e53 l hl, hy']
  simp only [Option.bind_some]
  by_cases h1 : ix (isCh p h) l ≥ 0
  · rw [if_pos h1, if_pos h1, if_pos (by omega)]
  · rw [if_neg h1, if_neg h1]
    by_cases h2 : (l.length : Int) = 40
    · rw [if_pos h2, if_pos (.inl h2)]
    · rw [if_neg h2, if_pos hp, hy]
      simp only [Option.bind_some]
      by_cases h3 : y.Turn = 30
      · rw [if_pos h3, if_pos (.inr h3)]
      · rw [if_neg h3, if_pos (show l.length * 24 ≤ 70368744177664 by omega), if_pos hp, if_neg (show ¬ ((l.length : Int) = 40 ∨ y.Turn = 30) by omega), if_pos (by simp only [List.length_append, List.length_singleton]; omega)]
theorem e50 (l : List Gi_Node) (hl : l.length ≤ 1048576) (p h : Int) (hp : 0 ≤ p) (hp' : p < l.length) : Di_childOf l p h = some (addR l p h) := by
  obtain ⟨y, hy, hy'⟩ := turnAt_eq hp' hp
  have hc : Dslices_Clone_i_Node l = some l := by unfold Dslices_Clone_i_Node; rw [if_pos (by omega)]
  unfold Di_childOf addR
  rw [e40 l hl, hy', hc]
  simp only [Option.bind_some]
  by_cases h1 : ix (isCh p h) l ≥ 0
  · rw [if_pos h1, if_pos h1]
  · rw [if_neg h1, if_neg h1]
    by_cases h2 : (l.length : Int) = 40
    · rw [if_pos h2, if_pos (.inl h2)]
    · rw [if_neg h2, if_pos hp, hy]
      simp only [Option.bind_some]
      by_cases h3 : y.Turn = 30
      · rw [if_pos h3, if_pos (.inr h3)]
      · rw [if_neg h3, if_pos hp, if_neg (show ¬ ((l.length : Int) = 40 ∨ y.Turn = 30) by omega), if_pos (by simp only [List.length_append, List.length_singleton]; omega)]

def mkN (k : Int) : Gi_Node := ⟨k, k + 1, k + 2⟩
theorem e18' (l : List Gi_Node) (hl : l.length ≤ 1048577) : Dw_eqNodeS l l = some true := by
  unfold Dw_eqNodeS
  rw [if_pos rfl]
  refine true_loop (S := fun i => Sw_eqNodeS.h1 l l (i : Int)) (n := l.length) (fun i hi => ?_) ?_
  · simp [Bw_eqNodeS, hi, Dw_eqNode, wsucc (show i < 9223372036854775807 by omega)]
  · simp [Bw_eqNodeS]

theorem eqIntS (l : List Int) (hl : l.length ≤ 1048577) : Dw_eqIntS l l = some true := by
  unfold Dw_eqIntS
  rw [if_pos rfl]
  refine true_loop (S := fun i => Sw_eqIntS.h1 l l (i : Int)) (n := l.length) (fun i hi => ?_) ?_
  · simp [Bw_eqIntS, hi, wsucc (show i < 9223372036854775807 by omega)]
  · simp [Bw_eqIntS]
theorem markI (l : List Int) (hl : l.length ≤ 1048577) (k0 : Int) (h0 : 0 ≤ k0) (h1 : k0 ≤ 1099511627776) : Dw_markIntS l k0 = some (k0 + (1 * l.length : Nat), marked (fun k => k) 1 k0 l.length) := by
  unfold Dw_markIntS
  refine mark_loop (S := fun k i m => Sw_markIntS.h1 k (i : Int) m) h0 (by omega) (fun i k m x hm hi hx h0 hb => ?_) (fun k m hm => ?_) l rfl
  · simp only [Bw_markIntS, hm, Int.ofNat_lt, hi, if_true, Int.natCast_nonneg, Int.toNat_natCast, hx, Option.bind_some]
    rw [wsucc (by omega), w64 (n := k + 1) (by omega)]
    rfl
  · simp [Bw_markIntS, hm]
theorem heldI (n : Nat) (hn : n ≤ 1048577) (k0 : Int) (h0 : 0 ≤ k0) (h1 : k0 ≤ 1099511627776) : Dw_heldIntS (marked (fun k => k) 1 k0 n) k0 = some (k0 + (1 * n : Nat)) := by
  unfold Dw_heldIntS
  have hlen := marked_len (fun k : Int => k) 1 k0 n
  refine held_loop (f := fun k => k) (c := 1) (n := n) (S := fun k i => Sw_heldIntS.h1 (marked (fun k => k) 1 k0 n) k (i : Int)) h0 (by omega) (fun i k hi hx h0 hb => ?_) (fun k => ?_)
  · simp only [Bw_heldIntS, hlen, Int.ofNat_lt, hi, if_true, Int.natCast_nonneg, Int.toNat_natCast, hx, Option.bind_some]
    rw [wsucc (by omega), w64 (n := k + 1) (by omega)]
    rfl
  · simp [Bw_heldIntS, hlen]
theorem markN (l : List Gi_Node) (hl : l.length ≤ 1048577) (k0 : Int) (h0 : 0 ≤ k0) (h1 : k0 ≤ 1099511627776) : Dw_markNodeS l k0 = some (k0 + (3 * l.length : Nat), marked mkN 3 k0 l.length) := by
  unfold Dw_markNodeS
  refine mark_loop (S := fun k i m => Sw_markNodeS.h1 k (i : Int) m) h0 (by omega) (fun i k m x hm hi hx h0 hb => ?_) (fun k m hm => ?_) l rfl
  · have hlt : i < m.length := by omega
    have a1 : k + 1 + 1 = k + 2 := by omega
    have a2 : k + 2 + 1 = k + 3 := by omega
    simp only [Bw_markNodeS, hm, Int.ofNat_lt, hi, if_true, Int.natCast_nonneg, Int.toNat_natCast, hx, Option.bind_some, List.getElem?_set, List.length_set]
    rw [wsucc (by omega), w64 (n := k + 1) (by omega), a1, w64 (n := k + 2) (by omega), a2, w64 (n := k + 3) (by omega)]
    simp [mkN, List.set_set]
  · simp [Bw_markNodeS, hm]
theorem heldN (n : Nat) (hn : n ≤ 1048577) (k0 : Int) (h0 : 0 ≤ k0) (h1 : k0 ≤ 1099511627776) : Dw_heldNodeS (marked mkN 3 k0 n) k0 = some (k0 + (3 * n : Nat)) := by
  unfold Dw_heldNodeS
  have hlen := marked_len mkN 3 k0 n
  refine held_loop (f := mkN) (c := 3) (n := n) (S := fun k i => Sw_heldNodeS.h1 (marked mkN 3 k0 n) k (i : Int)) h0 (by omega) (fun i k hi hx h0 hb => ?_) (fun k => ?_)
  · have a1 : k + 1 + 1 = k + 2 := by omega
    have a2 : k + 2 + 1 = k + 3 := by omega
    simp only [Bw_heldNodeS, hlen, Int.ofNat_lt, hi, if_true, Int.natCast_nonneg, Int.toNat_natCast, hx, Option.bind_some]
    rw [wsucc (by omega), w64 (n := k + 1) (by omega), a1, w64 (n := k + 2) (by omega), a2, w64 (n := k + 3) (by omega)]
    simp [mkN]
  · simp [Bw_heldNodeS, hlen]

def plAt (pl : List Int) (i : Int) : Int := match pl[i.toNat]? with | some x => x | none => 0
def gr : List Gi_Node → List Gi_Node → List Int → List Gi_Node × List Int × Bool
  | [], l, pl => (l, pl, true)
  | x :: r, l, pl => if (addR l (plAt pl x.Parent) x.Hash).2.2 = true then gr r (addR l (plAt pl x.Parent) x.Hash).1 (pl ++ [(addR l (plAt pl x.Parent) x.Hash).2.1]) else ([], [], false)

theorem ix_lt {α : Type} (p : α → Bool) (l : List α) : ix p l < l.length ∨ ix p l = -1 := by
  unfold ix
  split
  · rename_i i hi
    rw [List.findIdx?_eq_some_iff_getElem] at hi
    obtain ⟨h, _⟩ := hi
    exact .inl (by omega)
  · exact .inr rfl

theorem addR_ok (l : List Gi_Node) (p h : Int) (hl : l.length ≤ 40) (ht : (addR l p h).2.2 = true) : l.length ≤ (addR l p h).1.length ∧ (addR l p h).1.length ≤ 40 ∧ 0 ≤ (addR l p h).2.1 ∧ (addR l p h).2.1 < (addR l p h).1.length := by
  unfold addR at ht ⊢
  split
  · rename_i h1
    rcases ix_lt (isCh p h) l with h2 | h2
    · exact ⟨Nat.le_refl _, hl, h1, h2⟩
    · omega
  · split
    · rename_i h1 h2
      rw [if_neg h1, if_pos h2] at ht
      cases ht
    · rename_i h1 h2
      simp only [List.length_append, List.length_singleton]
      omega

structure GrI (b : List Gi_Node) (l : List Gi_Node) (pl : List Int) (i : Nat) : Prop where
  hpl : pl.length = i + 1
  hi : i + 1 ≤ b.length
  hl : l.length ≤ 40
  ok : ∀ x ∈ pl, 0 ≤ x ∧ x < l.length

theorem gr_loop {b : List Gi_Node} (hb : tree b = true) : ∀ (k i : Nat) (l : List Gi_Node) (pl : List Int), i + k + 1 = b.length → GrI b l pl i →
    loop Bs_GraftTree (.h1 (b.drop 1) ((b.drop 1).length : Int) (i : Int) l pl) = some (gr ((b.drop 1).drop i) l pl) ∧
    loop Bi_GraftTree (.h1 (b.drop 1) ((b.drop 1).length : Int) (i : Int) l pl) = some (gr ((b.drop 1).drop i) l pl) := by
  obtain ⟨t1, t2, t3⟩ := tree_ok hb
  have hlen : (b.drop 1).length = b.length - 1 := by simp
  intro k
  induction k with
  | zero =>
    intro i l pl h hI
    rw [List.drop_of_length_le (show (b.drop 1).length ≤ i by omega)]
    constructor
    · rw [loop_eq]
      simp only [Bs_GraftTree]
      rw [if_neg (by omega)]
      rfl
    · rw [loop_eq]
      simp only [Bi_GraftTree]
      rw [if_neg (by omega)]
      rfl
  | succ k ih =>
    intro i l pl h hI
    have hlt : i < (b.drop 1).length := by omega
    obtain ⟨x, hx⟩ : ∃ x, (b.drop 1)[i]? = some x := ⟨_, List.getElem?_eq_getElem hlt⟩
    have hx1 : (b.drop 1)[i] = x := (List.getElem?_eq_some_iff.1 hx).2
    have hbx : b[i + 1]? = some x := by rw [List.getElem?_drop] at hx; rwa [Nat.add_comm] at hx
    obtain ⟨_, p1, p2, _⟩ := okn_pos (t3 (i + 1) x hbx) (by omega)
    have hpl : x.Parent.toNat < pl.length := by rw [hI.hpl]; omega
    have hp : pl[x.Parent.toNat]? = some pl[x.Parent.toNat] := List.getElem?_eq_getElem hpl
    have hpa : plAt pl x.Parent = pl[x.Parent.toNat] := by simp [plAt, hp]
    have hok := hI.ok _ (List.getElem_mem hpl)
    have hadd := addR_ok l pl[x.Parent.toNat] x.Hash hI.hl
    rw [List.drop_eq_getElem_cons hlt, hx1]
    simp only [gr, hpa]
    have hl2 := hI.hl
    by_cases hr : (addR l pl[x.Parent.toNat] x.Hash).2.2 = true
    · obtain ⟨a1, a2, a3, a4⟩ := hadd hr
      have hI' : GrI b (addR l pl[x.Parent.toNat] x.Hash).1 (pl ++ [(addR l pl[x.Parent.toNat] x.Hash).2.1]) (i + 1) := by
        refine ⟨by simp [hI.hpl], by omega, a2, fun y hy => ?_⟩
        rcases List.mem_append.1 hy with hy | hy
        · have := hI.ok y hy
          omega
        · rw [List.mem_singleton] at hy
          subst hy
          exact ⟨a3, a4⟩
      obtain ⟨i1, i2⟩ := ih (i + 1) _ _ (by omega) hI'
      rw [if_pos hr]
      constructor
      · rw [loop_eq]
        simp only [Bs_GraftTree]
        rw [if_pos (by omega), if_pos (by omega), Int.toNat_natCast, hx]
        simp only [Option.bind_some]
        rw [if_pos p1, hp]
        simp only [Option.bind_some]
        rw [e49 l (by omega) _ _ hok.1 hok.2]
        simp only [Option.bind_some]
        rw [if_pos hr, if_pos (by simp [hI.hpl]; omega), wsucc (by omega)]
        exact i1
      · rw [loop_eq]
        simp only [Bi_GraftTree]
        rw [if_pos (by omega), if_pos (by omega), Int.toNat_natCast, hx]
        simp only [Option.bind_some]
        rw [if_pos p1, hp]
        simp only [Option.bind_some]
        rw [e50 l (by omega) _ _ hok.1 hok.2]
        simp only [Option.bind_some]
        rw [if_pos hr, if_pos (by simp [hI.hpl]; omega), wsucc (by omega)]
        exact i2
    · rw [if_neg hr]
      constructor
      · rw [loop_eq]
        simp only [Bs_GraftTree]
        rw [if_pos (by omega), if_pos (by omega), Int.toNat_natCast, hx]
        simp only [Option.bind_some]
        rw [if_pos p1, hp]
        simp only [Option.bind_some]
        rw [e49 l (by omega) _ _ hok.1 hok.2]
        simp only [Option.bind_some]
        rw [if_neg hr]
        rfl
      · rw [loop_eq]
        simp only [Bi_GraftTree]
        rw [if_pos (by omega), if_pos (by omega), Int.toNat_natCast, hx]
        simp only [Option.bind_some]
        rw [if_pos p1, hp]
        simp only [Option.bind_some]
        rw [e50 l (by omega) _ _ hok.1 hok.2]
        simp only [Option.bind_some]
        rw [if_neg hr]
        rfl

theorem gr_len (b : List Gi_Node) : ∀ (l : List Gi_Node) (pl : List Int), l.length ≤ 40 → (gr b l pl).1.length ≤ 40 ∧ (gr b l pl).2.1.length ≤ pl.length + b.length := by
  induction b with
  | nil => intro l pl h; exact ⟨h, by simp [gr]⟩
  | cons x r ih =>
    intro l pl h
    simp only [gr]
    split
    · rename_i hr
      have := ih _ (pl ++ [(addR l (plAt pl x.Parent) x.Hash).2.1]) (addR_ok l _ _ h hr).2.1
      simp only [List.length_append, List.length_singleton, List.length_cons, List.length_nil] at this ⊢
      omega
    · simp

def rootH (l : List Gi_Node) : Int := match l[0]? with | some x => x.Hash | none => 0
def graftR (a b : List Gi_Node) : List Gi_Node × List Int × Bool := if (tree a && tree b && decide (rootH a = rootH b)) = true then gr (b.drop 1) a [0] else ([], [], false)

theorem graft_both (a b : List Gi_Node) (ha : a.length ≤ 1048576) (hb : b.length ≤ 1048576) : Ds_GraftTree a b = some (graftR a b) ∧ Di_GraftTree a b = some (graftR a b) := by
  unfold Ds_GraftTree Di_GraftTree graftR
  rw [e36 a ha, e36 b hb, e17 a ha, e17 b hb]
  simp only [Option.bind_some]
  by_cases h1 : tree a = true
  · by_cases h2 : tree b = true
    · obtain ⟨a1, a2, a3⟩ := tree_ok h1
      obtain ⟨b1, b2, b3⟩ := tree_ok h2
      have ha0 : a[(0 : Int).toNat]? = some a[0] := List.getElem?_eq_getElem (by omega)
      have hb0 : b[(0 : Int).toNat]? = some b[0] := List.getElem?_eq_getElem (by omega)
      have hra : rootH a = a[0].Hash := by simp [rootH, List.getElem?_eq_getElem (show 0 < a.length by omega)]
      have hrb : rootH b = b[0].Hash := by simp [rootH, List.getElem?_eq_getElem (show 0 < b.length by omega)]
      rw [if_pos h1, if_pos h2, if_pos h1, if_pos h2, ha0, hb0, hra, hrb]
      simp only [Option.bind_some]
      by_cases h3 : a[0].Hash = b[0].Hash
      · have htk : List.take (b.length - Int.toNat 1) (List.drop (Int.toNat 1) b) = b.drop 1 := by
          rw [show Int.toNat 1 = 1 from rfl]
          exact List.take_of_length_le (by simp)
        have hc : Dslices_Clone_i_Node a = some a := by unfold Dslices_Clone_i_Node; rw [if_pos (by omega)]
        have := gr_loop h2 (b.length - 1) 0 a [0] (by omega) ⟨rfl, by omega, a2, fun x hx => by rw [List.mem_singleton] at hx; subst hx; omega⟩
        rw [List.drop_zero] at this
        rw [htk, hc, if_pos (show (tree a && tree b && decide (a[0].Hash = b[0].Hash)) = true by simp [h1, h2, h3])]
        constructor
        · rw [if_pos h3, if_pos (by omega), if_pos (by omega)]
          exact this.1
        · rw [if_pos h3]
          simp only [Option.bind_some]
          rw [if_pos (by omega)]
          exact this.2
      · rw [if_neg h3, if_neg h3, if_neg (by simp [h3])]
        exact ⟨rfl, rfl⟩
    · rw [if_pos h1, if_neg h2, if_pos h1, if_neg h2, if_neg (by simp [h2])]
      exact ⟨rfl, rfl⟩
  · rw [if_neg h1, if_neg h1, if_neg (by simp [h1])]
    exact ⟨rfl, rfl⟩
theorem graftR_len (a b : List Gi_Node) : (graftR a b).1.length ≤ 40 ∧ (graftR a b).2.1.length ≤ 100 := by
  unfold graftR
  split
  · rename_i h
    simp only [Bool.and_eq_true] at h
    obtain ⟨_, a2, _⟩ := tree_ok h.1.1
    obtain ⟨_, b2, _⟩ := tree_ok h.1.2
    have := gr_len (b.drop 1) a [0] a2
    simp only [List.length_drop, List.length_singleton] at this
    omega
  · simp

theorem szN (l : List Gw_Node) (hl : l.length < 9223372036854775808) (n : Int) (h0 : 0 ≤ n) (hn : n ≤ 1048576) : Dw_szNodeS l n = some (if n - (l.length : Int) < 0 then (-1 : Int) else n - (l.length : Int)) := by
  unfold Dw_szNodeS
  rw [w64 (by omega)]
  split <;> rfl
theorem e18r (l : List Gi_Node) (hl : l.length ≤ 1048577) : Dw_eqNodeS l l = some true := e18' l hl
theorem lawGraftTree (a b : List Gw_Node) (ha : a.length < 9223372036854775808) (hb : b.length < 9223372036854775808) : Dw_FnExactGraftTree a b = some true := by
  unfold Dw_FnExactGraftTree
  rw [szN a ha _ (by decide) (by decide)]
  simp only [Option.bind_some]
  by_cases hn : (1048576 : Int) - (a.length : Int) < 0
  · rw [if_pos hn]; rfl
  · rw [if_neg hn, if_neg hn, szN b hb _ (by omega) (by omega)]
    simp only [Option.bind_some]
    by_cases hn' : (1048576 : Int) - (a.length : Int) - (b.length : Int) < 0
    · rw [if_pos hn']; rfl
    · have ha' : a.length ≤ 1048576 := by omega
      have hb' : b.length ≤ 1048576 := by omega
      have hma : (a.map toN).length ≤ 1048576 := by simpa using ha'
      have hmb : (b.map toN).length ≤ 1048576 := by simpa using hb'
      obtain ⟨c1, c2⟩ := graftR_len (a.map toN) (b.map toN)
      obtain ⟨g1, g2⟩ := graft_both (a.map toN) (b.map toN) hma hmb
      generalize hg : graftR (a.map toN) (b.map toN) = r at *
      obtain ⟨l, pl, ok⟩ := r
      simp only at c1 c2
      rw [if_neg hn', if_neg hn', e16 a ha', e16 b hb']
      simp only [Option.bind_some, g1, g2, e18 _ hma, e18 _ hmb, e18r l (by omega), eqIntS pl (by omega), markN (a.map toN) (by omega) 1 (by decide) (by decide), markN (b.map toN) (by omega) (1 + (3 * (a.map toN).length : Nat)) (by omega) (by omega), markN l (by omega) 1 (by decide) (by decide),
        markI pl (by omega) (1 + (3 * l.length : Nat)) (by omega) (by omega), heldN l.length (by omega) 1 (by decide) (by decide), heldI pl.length (by omega) (1 + (3 * l.length : Nat)) (by omega) (by omega), marked_len, if_true, bne_self_eq_false, BEq.rfl, Bool.not_true, Bool.false_eq_true, if_false]
      have z : ∀ {α : Type} {n : Int} {x y : α}, 0 ≤ n → (if n < 0 then x else y) = y := fun h => if_neg (by omega)
      rw [z (by omega), z (by omega), z (by omega), z (by omega), z (by omega)]


end Go.Proofs.Ytgafibhekjnffaa.Ab
