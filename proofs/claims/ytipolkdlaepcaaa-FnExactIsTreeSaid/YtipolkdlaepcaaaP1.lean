/- Part of the proof of FnExactIsTree: no condition of its own. -/
import Derived.Test.YtipolkdlaepcaaaA1D
import Derived.Test.YtipolkdlaepcaaaPuA
set_option linter.unusedVariables false
set_option linter.unusedSimpArgs false
open Go
namespace Go.Proofs.Ytipolkdlaepcaaa.Ab

def inr3 (n a b : Int) : Bool := decide (a ≤ n) && decide (n ≤ b)
theorem inr3_iff {n a b : Int} : inr3 n a b = true ↔ a ≤ n ∧ n ≤ b := by simp [inr3]
theorem e51 (n a b : Int) : D51 n a b = some (inr3 n a b) := by
  unfold D51 inr3; by_cases h : a ≤ n <;> simp [h]
theorem e38 (n a b : Int) : D38 n a b = some (inr3 n a b) := by
  unfold D38 inr3; by_cases h : a ≤ n <;> simp [h]
theorem e48 (n : Int) : D48 n = some (inr3 n 0 4611686016279904236) := by simp [D48, e51]
theorem e33 (n : Int) : D33 n = some (inr3 n 0 4611686016279904236) := by simp [D33, e38]
theorem e31 (n : Int) : D31 n = some (inr3 n 0 30) := by simp [D31, e38]
theorem e32 (n : Int) : D32 n = some (inr3 n 0 1) := by simp [D32, e38]

/-- toNodeS, toMailS -/
def toN (x : G55) : G53 := ⟨x.Parent, x.Turn, x.Hash⟩
def toM (x : G48) : G46 := ⟨x.Turn, x.Side, x.Seal⟩
theorem e16 (l : List G55) (hl : l.length ≤ 1048576) : D16 l = some (l.map toN) := by
  unfold D16
  rw [if_pos (by omega), if_pos (by omega), Int.toNat_natCast]
  refine fill_loop (S := fun i out => S16.h1 l (i : Int) out) (fun i x y out hx hi hy => ?_) (fun out => ?_) _
  · simp only [B16, Int.ofNat_lt, hi, if_true, Int.natCast_nonneg, Int.toNat_natCast, hx, hy, Option.bind_some, D37, wsucc (show i < 9223372036854775807 by omega), toN]
  · simp [B16]
theorem e11 (l : List G48) (hl : l.length ≤ 1048576) : D11 l = some (l.map toM) := by
  unfold D11
  rw [if_pos (by omega), if_pos (by omega), Int.toNat_natCast]
  refine fill_loop (S := fun i out => S11.h1 l (i : Int) out) (fun i x y out hx hi hy => ?_) (fun out => ?_) _
  · simp only [B11, Int.ofNat_lt, hi, if_true, Int.natCast_nonneg, Int.toNat_natCast, hx, hy, Option.bind_some, D30, wsucc (show i < 9223372036854775807 by omega), toM]
  · simp [B11]
theorem e18 (l : List G53) (hl : l.length ≤ 1048576) : D18 l l = some true := by
  unfold D18
  rw [if_pos rfl]
  refine true_loop (S := fun i => S18.h1 l l (i : Int)) (n := l.length) (fun i hi => ?_) ?_
  · simp [B18, hi, D41, wsucc (show i < 9223372036854775807 by omega)]
  · simp [B18]
theorem e13 (l : List G46) (hl : l.length ≤ 1048576) : D13 l l = some true := by
  unfold D13
  rw [if_pos rfl]
  refine true_loop (S := fun i => S13.h1 l l (i : Int)) (n := l.length) (fun i hi => ?_) ?_
  · simp [B13, hi, D35, wsucc (show i < 9223372036854775807 by omega)]
  · simp [B13]
theorem e14 (l : List G55) (hl : l.length < 9223372036854775808) : D14 l 1048576 = some (if (1048576 : Int) - (l.length : Int) < 0 then (-1 : Int) else (1048576 : Int) - (l.length : Int)) := by
  unfold D14
  rw [w64 (by omega)]
  split <;> rfl
theorem e9 (l : List G48) (hl : l.length < 9223372036854775808) : D9 l 1048576 = some (if (1048576 : Int) - (l.length : Int) < 0 then (-1 : Int) else (1048576 : Int) - (l.length : Int)) := by
  unfold D9
  rw [w64 (by omega)]
  split <;> rfl

/-! ### Trees -/
def isCh (p h : Int) (x : G53) : Bool := decide (x.Parent = p) && decide (x.Hash = h)
theorem e53 (l : List G53) (hl : l.length ≤ 1048576) (p h : Int) : D53 l p h = some (ix (isCh p h) l) := by
  unfold D53
  refine find_loop (S := fun i => S53.h1 p h l (l.length : Int) (i : Int)) (fun i x hx hi => ?_) ?_
  · simp only [B53, Int.ofNat_lt, hi, if_true, Int.natCast_nonneg, Int.toNat_natCast, hx, Option.bind_some, wsucc (show i < 9223372036854775807 by omega), isCh]
    by_cases h1 : x.Parent = p <;> by_cases h2 : x.Hash = h <;> simp [h1, h2]
  · simp [B53]
theorem e40 (l : List G53) (hl : l.length ≤ 1048576) (p h : Int) : D40 l p h = some (ix (isCh p h) l) := by
  unfold D40 D54f55qq
  have : loop B54f55qq (.h1 l p h (l.length : Int) 0) = some (ix (isCh p h) l) := by
    refine find_loop (S := fun i => S54f55qq.h1 l p h (l.length : Int) (i : Int)) (fun i x hx hi => ?_) ?_
    · simp only [B54f55qq, D55, Int.ofNat_lt, hi, if_true, Int.natCast_nonneg, Int.toNat_natCast, hx, Option.bind_some, wsucc (show i < 9223372036854775807 by omega), isCh]
      by_cases h1 : x.Parent = p <;> by_cases h2 : x.Hash = h <;> simp [h1, h2]
    · simp [B54f55qq]
  rw [this]
  rfl

def okn (l : List G53) (i : Nat) (x : G53) : Bool := inr3 x.Hash 0 4611686016279904236 &&
  (if i = 0 then decide (x.Parent = -1) && decide (x.Turn = 0) else
    inr3 x.Parent 0 ((i : Int) - 1) && (match l[x.Parent.toNat]? with | some y => decide (x.Turn = IntKind.wrap .i64 (y.Turn + 1)) | none => false) && decide (x.Turn ≤ 30) && decide (ix (isCh x.Parent x.Hash) (l.take i) < 0))
def tree (l : List G53) : Bool := inr3 l.length 1 40 && alli (okn l) l

theorem e36 (l : List G53) (hl : l.length ≤ 1048576) : D36 l = some (tree l) := by
  unfold D36 tree
  rw [e51]
  simp only [Option.bind_some]
  by_cases h0 : inr3 l.length 1 40 = true
  · rw [if_pos h0, h0, Bool.true_and]
    refine all_loop (S := fun i => S36.h1 l l (l.length : Int) (i : Int)) (fun i x hx hi hb => ?_) ?_
    · simp only [B36, Int.ofNat_lt, hi, if_true, Int.natCast_nonneg, Int.toNat_natCast, hx, Option.bind_some, wsucc (show i < 9223372036854775807 by omega), e48, okn]
      by_cases h1 : inr3 x.Hash 0 4611686016279904236 = true
      · simp only [h1, if_true, Bool.true_and]
        by_cases h2 : i = 0
        · subst h2
          by_cases h3 : x.Parent = -1 <;> by_cases h4 : x.Turn = 0 <;> simp [h3, h4]
        · rw [if_neg (by omega), e51, w64 (by omega), if_neg h2]
          simp only [Option.bind_some]
          by_cases h3 : inr3 x.Parent 0 ((i : Int) - 1) = true
          · obtain ⟨h4, h5⟩ := inr3_iff.1 h3
            have hlt : x.Parent.toNat < l.length := by omega
            rw [if_pos h3, if_pos h4, List.getElem?_eq_getElem hlt]
            simp only [h3, Bool.true_and, Option.bind_some]
            by_cases h6 : x.Turn = IntKind.wrap .i64 (l[x.Parent.toNat].Turn + 1)
            · rw [if_pos h6]
              simp only [decide_eq_true h6, Bool.true_and]
              by_cases h7 : x.Turn > 30
              · rw [if_pos h7]
                simp [show ¬ x.Turn ≤ 30 by omega]
              · rw [if_neg h7, if_pos (by omega), e53 _ (by simp; omega)]
                simp only [List.drop_zero, Nat.sub_zero, Option.bind_some, show x.Turn ≤ 30 by omega, decide_true, Bool.true_and]
                by_cases h8 : ix (isCh x.Parent x.Hash) (l.take i) < 0
                · rw [if_neg (by omega)]; simp [h8]
                · rw [if_pos (by omega)]; simp [h8]
            · rw [if_neg h6]
              simp [h6]
          · rw [if_neg h3]
            simp [h3]
      · simp [h1]
    · simp [B36]
  · rw [if_neg h0]
    simp [h0]

theorem okn_pos {l : List G53} {i : Nat} {x : G53} (h : okn l i x = true) (hi : i ≠ 0) : inr3 x.Hash 0 4611686016279904236 = true ∧ 0 ≤ x.Parent ∧ x.Parent ≤ (i : Int) - 1 ∧ (∃ y, l[x.Parent.toNat]? = some y ∧ x.Turn = IntKind.wrap .i64 (y.Turn + 1)) ∧ x.Turn ≤ 30 ∧ ix (isCh x.Parent x.Hash) (l.take i) < 0 := by
  simp only [okn, Bool.and_eq_true] at h
  rw [if_neg hi] at h
  simp only [Bool.and_eq_true, inr3_iff, decide_eq_true_eq] at h
  obtain ⟨h1, ⟨⟨⟨h3, h4⟩, h5⟩, h6⟩⟩ := h
  refine ⟨inr3_iff.2 h1, h3.1, h3.2, ?_, h5, h6⟩
  split at h4
  · rename_i z hz
    exact ⟨z, hz, of_decide_eq_true h4⟩
  · cases h4
theorem okn_zero {l : List G53} {x : G53} (h : okn l 0 x = true) : x.Parent = -1 ∧ x.Turn = 0 := by
  simp [okn] at h
  exact h.2

theorem tree_turn {l : List G53} (n : Nat) (h : ∀ j y, j < n → l[j]? = some y → okn l j y = true) : ∀ j y, j < n → l[j]? = some y → 0 ≤ y.Turn ∧ y.Turn ≤ 30 := by
  intro j
  induction j using Nat.strongRecOn with
  | _ j ih =>
    intro y hj hy
    have h1 := h j y hj hy
    by_cases h2 : j = 0
    · subst h2
      have := okn_zero h1
      omega
    · obtain ⟨_, h3, h4, ⟨z, hz, h5⟩, h6, _⟩ := okn_pos h1 h2
      have := ih y.Parent.toNat (by omega) z (by omega) hz
      rw [w64 (by omega)] at h5
      omega

theorem ix_take {l : List G53} {i : Nat} {x : G53} (hx : l[i]? = some x) : ix (isCh x.Parent x.Hash) l = (i : Int) ↔ ix (isCh x.Parent x.Hash) (l.take i) < 0 := by
  have hi : i < l.length := (List.getElem?_eq_some_iff.1 hx).1
  have hp : isCh x.Parent x.Hash x = true := by simp [isCh]
  have hxi : l[i] = x := (List.getElem?_eq_some_iff.1 hx).2
  unfold ix
  constructor
  · intro h
    split at h
    · rename_i j hj
      have : j = i := by omega
      subst this
      rw [List.findIdx?_eq_some_iff_getElem] at hj
      have : (l.take j).findIdx? (isCh x.Parent x.Hash) = none := by
        rw [List.findIdx?_eq_none_iff]
        intro y hy
        obtain ⟨m, hm⟩ := List.getElem?_of_mem hy
        obtain ⟨hlt, he⟩ := List.getElem?_eq_some_iff.1 hm
        simp at hlt
        have := hj.2.2 m (by omega)
        simp at he
        rw [← he]
        simpa using this
      rw [this]
      decide
    · omega
  · intro h
    split at h
    · omega
    · rename_i hn
      rw [List.findIdx?_eq_none_iff] at hn
      have : l.findIdx? (isCh x.Parent x.Hash) = some i := by
        rw [List.findIdx?_eq_some_iff_getElem]
        refine ⟨hi, by rw [hxi]; exact hp, fun j hj => ?_⟩
        have := hn l[j] (List.mem_of_getElem? (i := j) (by rw [List.getElem?_take]; simp [hj]))
        simpa using this
      rw [this]

theorem e39 (i n : Int) (h : -9223372036854775808 ≤ n - 1 ∧ n - 1 ≤ 9223372036854775807) : D39 i n = some (inr3 i 0 (n - 1)) := by
  unfold D39
  rw [w64 h, e38]
  rfl

theorem e17 (l : List G53) (hl : l.length ≤ 1048576) : D17 l = some (tree l) := by
  unfold D17 tree
  rw [e38]
  simp only [Option.bind_some]
  by_cases h0 : inr3 l.length 1 40 = true
  · rw [if_pos h0, h0, Bool.true_and]
    have hlen := inr3_iff.1 h0
    have h00 : 0 < l.length := by omega
    have hx0 : l[Int.toNat 0]? = some l[0] := List.getElem?_eq_getElem h00
    rw [hx0]
    simp only [Option.bind_some]
    have bad : ¬ (l[0].Parent = -1 ∧ l[0].Turn = 0) → alli (okn l) l = false := fun h => by
      have : ¬ alli (okn l) l = true := fun h' => h (okn_zero (alli_iff.1 h' 0 _ (List.getElem?_eq_getElem h00)))
      simpa using this
    by_cases h1 : l[0].Parent = -1
    · rw [if_pos h1]
      by_cases h2 : l[0].Turn = 0
      · rw [if_pos h2]
        refine all_loop (S := fun i => S17.h1 l l (l.length : Int) (i : Int)) (fun i x hx hi hb => ?_) ?_
        · simp only [B17, Int.ofNat_lt, hi, if_true, Int.natCast_nonneg, Int.toNat_natCast, hx, Option.bind_some, wsucc (show i < 9223372036854775807 by omega), e33, okn]
          by_cases h3 : inr3 x.Hash 0 4611686016279904236 = true
          · simp only [h3, if_true, Bool.true_and]
            by_cases h4 : i = 0
            · subst h4
              have : x = l[0] := by rw [List.getElem?_eq_getElem h00] at hx; exact (Option.some.inj hx).symm
              subst this
              simp [h1, h2]
            · rw [if_pos (by omega), e39 _ _ (by omega), if_neg h4]
              simp only [Option.bind_some]
              by_cases h5 : inr3 x.Parent 0 ((i : Int) - 1) = true
              · obtain ⟨h6, h7⟩ := inr3_iff.1 h5
                have hlt : x.Parent.toNat < l.length := by omega
                rw [if_pos h5, if_pos h6, List.getElem?_eq_getElem hlt]
                simp only [h5, Bool.true_and, Option.bind_some]
                have ht := tree_turn i hb x.Parent.toNat _ (by omega) (List.getElem?_eq_getElem hlt)
                by_cases h8 : x.Turn = IntKind.wrap .i64 (l[x.Parent.toNat].Turn + 1)
                · rw [if_pos h8, e31]
                  simp only [decide_eq_true h8, Bool.true_and, Option.bind_some]
                  rw [w64 (by omega)] at h8
                  by_cases h9 : x.Turn ≤ 30
                  · rw [if_pos (inr3_iff.2 ⟨by omega, h9⟩), e40 _ hl]
                    simp only [Option.bind_some, h9, decide_true, Bool.true_and]
                    by_cases h10 : ix (isCh x.Parent x.Hash) l = (i : Int)
                    · rw [if_pos h10]
                      have := (ix_take hx).1 h10
                      simp [this]
                    · rw [if_neg h10]
                      have : ¬ ix (isCh x.Parent x.Hash) (l.take i) < 0 := fun h => h10 ((ix_take hx).2 h)
                      simp [this]
                  · rw [if_neg (fun h => h9 (inr3_iff.1 h).2)]
                    simp [h9]
                · rw [if_neg h8]
                  simp [h8]
              · rw [if_neg h5]
                simp [h5]
          · simp [h3]
        · simp [B17]
      · rw [if_neg h2, bad (fun h => h2 h.2)]
    · rw [if_neg h1, bad (fun h => h1 h.1)]
  · rw [if_neg h0]
    simp [h0]

/-- IsTree's law. -/
theorem e4 (l : List G55) (hl : l.length < 9223372036854775808) : D4 l = some true := by
  unfold D4
  rw [e14 l hl]
  simp only [Option.bind_some]
  by_cases h : (1048576 : Int) - (l.length : Int) < 0
  · rw [if_pos h]; rfl
  · have hl' : l.length ≤ 1048576 := by omega
    have hm : (l.map toN).length ≤ 1048576 := by simpa using hl'
    rw [if_neg h, if_neg h, e16 l hl']
    simp only [Option.bind_some, D15, e36 _ hm, e17 _ hm, e18 _ hm]
    simp

end Go.Proofs.Ytipolkdlaepcaaa.Ab
