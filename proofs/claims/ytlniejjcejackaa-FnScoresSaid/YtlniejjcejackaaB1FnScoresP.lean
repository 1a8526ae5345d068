/- Part of the proof of FnScores: no condition of its own. -/
import Derived.Test.YtlniejjcejackaaB1FnScoresD
import Derived.Test.YtlniejjcejackaaPuA
set_option linter.unusedVariables false
set_option linter.unusedSimpArgs false
open Go
namespace Go.Proofs.Ytlniejjcejackaa.Ab
structure Cu (c : Gs_l1Cur) (k : Int) : Prop where
  at0 : 0 ≤ c.at_
  atk : c.at_ ≤ k
  kk : k ≤ 1099511627776
  code : ∀ x ∈ c.code, 0 ≤ x ∧ x < 256
  len : c.code.length < 9223372036854775808

theorem Cu.mono {c : Gs_l1Cur} {k k' : Int} (h : Cu c k) (hk : k ≤ k') (hb : k' ≤ 1099511627776) : Cu c k' := ⟨h.at0, by have := h.atk; omega, hb, h.code, h.len⟩

theorem and255 (x : Int) : 0 ≤ IntKind.wrap .i64 (IntKind.wrap .u64 ((BitVec.toNat (BitVec.ofInt (IntKind.bits .u64) x &&& BitVec.ofInt (IntKind.bits .u64) 255) : Nat) : Int)) ∧ IntKind.wrap .i64 (IntKind.wrap .u64 ((BitVec.toNat (BitVec.ofInt (IntKind.bits .u64) x &&& BitVec.ofInt (IntKind.bits .u64) 255) : Nat) : Int)) < 256 := by
  have h : (BitVec.ofInt (IntKind.bits .u64) x &&& BitVec.ofInt (IntKind.bits .u64) 255).toNat ≤ 255 := by
    rw [BitVec.toNat_and]
    have e : (BitVec.ofInt (IntKind.bits .u64) 255).toNat = 255 := by decide
    rw [e]
    exact Nat.and_le_right
  generalize (BitVec.ofInt (IntKind.bits .u64) x &&& BitVec.ofInt (IntKind.bits .u64) 255).toNat = n at h
  have h2 : IntKind.wrap .u64 (n : Int) = (n : Int) := by
    simp only [IntKind.wrap, IntKind.bits, IntKind.signed]
    simp
    omega
  rw [h2, w64 (by omega)]
  omega

theorem cuNext {c : Gs_l1Cur} {k : Int} (h : Cu c k) (hk : k + 1 ≤ 1099511627776) : ∃ v c', Ds_l1Cur_next c = some (v, c') ∧ (0 ≤ v ∧ v < 256) ∧ Cu c' (k + 1) := by
  have h0 := h.at0
  have h1 := h.atk
  have mk : ∀ s, Cu ⟨c.code, c.at_ + 1, s⟩ (k + 1) := fun s => ⟨by simp only; omega, by simp only; omega, hk, h.code, h.len⟩
  unfold Ds_l1Cur_next
  rw [w64 (n := c.at_ + 1) (by omega)]
  by_cases ha : c.at_ < (c.code.length : Int)
  · have hlt : c.at_.toNat < c.code.length := by omega
    have hx := List.getElem?_eq_getElem hlt
    have hv := h.code _ (List.mem_of_getElem? hx)
    rw [if_pos ha, if_pos h0, hx]
    simp only [Option.bind_some]
    split
    · exact ⟨_, _, rfl, by rw [w64 (by omega)]; exact hv, mk _⟩
    · exact ⟨_, _, rfl, and255 _, mk _⟩
  · rw [if_neg ha]
    split
    · exact ⟨_, _, rfl, by omega, mk _⟩
    · exact ⟨_, _, rfl, and255 _, mk _⟩

theorem cuPick {c : Gs_l1Cur} {k : Int} (h : Cu c k) (hk : k + 2 ≤ 1099511627776) (n : Int) : ∃ v c', Ds_l1Cur_pick c n = some (v, c') ∧ (0 ≤ v ∧ (1 ≤ n → v < n) ∧ v ≤ 65535) ∧ Cu c' (k + 2) := by
  unfold Ds_l1Cur_pick
  by_cases h1 : n ≤ 1
  · rw [if_pos h1]
    exact ⟨_, _, rfl, by omega, h.mono (by omega) hk⟩
  · rw [if_neg h1]
    obtain ⟨v, c1, e1, hv, hc1⟩ := cuNext h (by omega)
    rw [e1]
    simp only [Option.bind_some]
    by_cases h2 : n > 200
    · rw [if_pos h2]
      obtain ⟨u, c2, e2, hu, hc2⟩ := cuNext hc1 (by omega)
      rw [e2]
      simp only [Option.bind_some]
      rw [if_pos (by omega), w64 (n := v * 256) (by omega), w64 (by omega)]
      have a1 := Int.tmod_nonneg n (show 0 ≤ v * 256 + u by omega)
      have a2 := Int.tmod_lt_of_pos (v * 256 + u) (show 0 < n by omega)
      have a3 : Int.tmod (v * 256 + u) n ≤ v * 256 + u := by
        have b1 := Int.mul_tdiv_add_tmod (v * 256 + u) n
        have b2 := Int.mul_nonneg (show 0 ≤ n by omega) (Int.tdiv_nonneg (show 0 ≤ v * 256 + u by omega) (show 0 ≤ n by omega))
        omega
      exact ⟨_, _, rfl, ⟨a1, fun _ => a2, by omega⟩, by have := hc2; rw [Int.add_assoc] at this; exact this⟩
    · rw [if_neg h2, if_pos (by omega)]
      have a1 := Int.tmod_nonneg n hv.1
      have a2 := Int.tmod_lt_of_pos v (show 0 < n by omega)
      exact ⟨_, _, rfl, ⟨a1, fun _ => a2, by omega⟩, hc1.mono (by omega) hk⟩

theorem cuOne {c : Gs_l1Cur} {k : Int} (h : Cu c k) (hk : k + 2 ≤ 1099511627776) (n : Int) : ∃ v c', Ds_l1Cur_one c n = some (v, c') ∧ Cu c' (k + 2) := by
  obtain ⟨v, c1, e1, _, hc1⟩ := cuPick h hk n
  unfold Ds_l1Cur_one
  rw [e1]
  exact ⟨_, _, rfl, hc1⟩

theorem cuAmong {c : Gs_l1Cur} {k : Int} (h : Cu c k) (hk : k + 2 ≤ 1099511627776) (l : List Int) (hl : 0 < l.length) : ∃ v c', Ds_l1Cur_among c l = some (v, c') ∧ v ∈ l ∧ Cu c' (k + 2) := by
  obtain ⟨v, c1, e1, hv, hc1⟩ := cuPick h hk l.length
  unfold Ds_l1Cur_among
  rw [e1]
  have hlt : v.toNat < l.length := by have := hv.2.1 (by omega); omega
  have hx := List.getElem?_eq_getElem hlt
  simp only [Option.bind_some]
  rw [if_pos hv.1, hx]
  exact ⟨_, _, rfl, List.mem_of_getElem? hx, hc1⟩

theorem cu1 {code : List Int} (h : ∀ x ∈ code, 0 ≤ x ∧ x < 256) (hl : code.length < 9223372036854775808) : Cu ⟨code, 0, 0⟩ 0 := ⟨Int.le_refl _, Int.le_refl _, by decide, h, hl⟩

def kIn (x lo hi : Int) : Bool := decide (lo ≤ x) && decide (x ≤ hi)
theorem kIn_iff {x lo hi : Int} : kIn x lo hi = true ↔ lo ≤ x ∧ x ≤ hi := by simp [kIn]
theorem kin_i (x lo hi : Int) : Di_inRange x lo hi = some (kIn x lo hi) := by
  unfold Di_inRange kIn
  by_cases c : lo ≤ x <;> simp [c]
theorem kin_s (x lo hi : Int) : Ds_l1In x lo hi = some (kIn x lo hi) := by
  unfold Ds_l1In kIn
  by_cases c : lo ≤ x
  · rw [if_pos c]; simp [c]
  · rw [if_neg c]; simp [c]
theorem ifB (b : Bool) : (if b = true then some true else some false) = some b := by cases b <;> rfl
theorem ifNB (b : Bool) : (if b = true then some false else some true) = some (!b) := by cases b <;> rfl

/-- A walk over a list that ends at the first element that q does not hold of. -/
theorem all_goL {σ α ρ : Type} {L : σ → Option ρ} {S : Nat → σ} {l : List α} {q : Nat → α → Bool} {f : ρ} {r : Option ρ}
    (hs : ∀ i x, l[i]? = some x → i < l.length → (∀ j y, j < i → l[j]? = some y → q j y = true) → L (S i) = if q i x = true then L (S (i + 1)) else some f)
    (he : (∀ j y, l[j]? = some y → q j y = true) → L (S l.length) = r) : L (S 0) = if alli q l = true then r else some f := by
  have key : ∀ (k i : Nat), i + k = l.length → (∀ j x, j < i → l[j]? = some x → q j x = true) → L (S i) = if alli q l = true then r else some f := by
    intro k
    induction k with
    | zero =>
      intro i h hb
      have : i = l.length := by omega
      subst this
      have hall : ∀ j y, l[j]? = some y → q j y = true := fun j x hj => hb j x (List.getElem?_eq_some_iff.1 hj).1 hj
      rw [he hall, if_pos (alli_iff.2 hall)]
    | succ k ih =>
      intro i h hb
      have hlt : i < l.length := by omega
      have hx := List.getElem?_eq_getElem hlt
      rw [hs i l[i] hx hlt hb]
      by_cases hp : q i l[i] = true
      · rw [if_pos hp]
        refine ih (i + 1) (by omega) fun j x hj hx' => ?_
        by_cases hji : j = i
        · subst hji
          rw [hx] at hx'
          cases hx'
          exact hp
        · exact hb j x (by omega) hx'
      · rw [if_neg hp, if_neg fun h => hp (alli_iff.1 h i _ hx)]
  exact key l.length 0 (by omega) fun j x h => by omega

theorem l1All_s {l : List Int} (hl : l.length ≤ 1000000) (lo hi : Int) : Ds_l1All l lo hi = some (alli (fun _ x => kIn x lo hi) l) := by
  rw [← ifB]
  exact all_goL (L := loop Bs_l1All) (S := fun i => .h1 lo hi l (l.length : Int) (i : Int)) (fun i x hx hlt _ => by
    rw [loop_eq]
    simp only [Bs_l1All]
    rw [if_pos (by omega), if_pos (by omega), Int.toNat_natCast, hx, Option.bind_some, kin_s, Option.bind_some, wsucc (by omega)]
    by_cases c : kIn x lo hi = true
    · rw [if_pos c, if_pos c]; rfl
    · rw [if_neg c, if_neg c]; rfl) fun _ => by
    rw [loop_eq]
    simp only [Bs_l1All]
    rw [if_neg (by omega)]
    rfl
theorem bad_i (x : Int) : Di_IsCombatTable_1 x = some (!(kIn x 0 7)) := by
  unfold Di_IsCombatTable_1 Di_isResult
  rw [kin_i]
  rfl
theorem contains_bad {l : List Int} (hl : l.length ≤ 1000000) : Dslices_ContainsFunc_int_i_IsCombatTable_1 l = some (!(alli (fun _ x => kIn x 0 7) l)) := by
  rw [← ifNB]
  have := all_goL (L := fun s => (loop Bslices_IndexFunc_int_i_IsCombatTable_1 s).map fun r => decide (r ≥ 0)) (S := fun i => .h1 l (l.length : Int) (i : Int)) (l := l) (q := fun _ x => kIn x 0 7) (f := true) (r := some false) (fun i x hx hlt _ => by
    rw [loop_eq]
    simp only [Bslices_IndexFunc_int_i_IsCombatTable_1]
    rw [if_pos (by omega), if_pos (by omega), Int.toNat_natCast, hx, Option.bind_some, bad_i, Option.bind_some, wsucc (by omega)]
    by_cases c : kIn x 0 7 = true
    · rw [if_pos c, c, if_neg (by decide)]; rfl
    · rw [if_neg c, if_pos (by simpa using c)]; simp [goOn]) fun _ => by
    rw [loop_eq]
    simp only [Bslices_IndexFunc_int_i_IsCombatTable_1]
    rw [if_neg (by omega)]
    rfl
  refine Eq.trans ?_ this
  unfold Dslices_ContainsFunc_int_i_IsCombatTable_1 Dslices_IndexFunc_int_i_IsCombatTable_1
  cases loop Bslices_IndexFunc_int_i_IsCombatTable_1 (.h1 l (l.length : Int) 0) <;> rfl

def kCol (cs : List Gi_Odds) (i : Nat) (x : Gi_Odds) : Bool := kIn x.Num 1 20 && kIn x.Den 1 20 && (decide (i = 0) || match cs[i - 1]? with
  | some p => !decide (IntKind.wrap .i64 (p.Num * x.Den) ≥ IntKind.wrap .i64 (x.Num * p.Den))
  | none => false)
def kRow (cs : List Gi_Odds) (x : List Int) : Bool := decide (x.length = cs.length) && alli (fun _ y => kIn y 0 7) x
def kG (t : Gi_CombatTable) : Bool := kIn t.Columns.length 1 8 && kIn t.Dice 1 2 && decide ((t.Results.length : Int) = 5 * t.Dice + 1) && alli (kCol t.Columns) t.Columns && alli (fun _ x => kRow t.Columns x) t.Results

theorem rows_i {t : Gi_CombatTable} (hc : t.Columns.length ≤ 8) (hr : t.Results.length ≤ 100) : loop Bi_IsCombatTable (.h2 t.Results (t.Results.length : Int) 0 t) = some (alli (fun _ x => kRow t.Columns x) t.Results) := by
  rw [← ifB]
  exact all_goL (L := loop Bi_IsCombatTable) (S := fun i => .h2 t.Results (t.Results.length : Int) (i : Int) t) (fun i x hx hlt _ => by
    rw [loop_eq]
    simp only [Bi_IsCombatTable]
    rw [if_pos (by omega), if_pos (by omega), Int.toNat_natCast, hx, Option.bind_some, wsucc (by omega)]
    by_cases c : x.length = t.Columns.length
    · rw [if_pos (by omega), contains_bad (by omega), Option.bind_some]
      by_cases c2 : alli (fun _ y => kIn y 0 7) x = true
      · rw [c2, if_neg (by decide), if_pos (by simp [kRow, c, c2])]; rfl
      · rw [if_pos (by simpa using c2), if_neg (by simp [kRow, c2])]; rfl
    · rw [if_neg (by omega), if_neg (by simp [kRow, c])]; rfl) fun _ => by
    rw [loop_eq]
    simp only [Bi_IsCombatTable]
    rw [if_neg (by omega)]
    rfl
theorem rows_s {t : Gi_CombatTable} (hc : t.Columns.length ≤ 8) (hr : t.Results.length ≤ 100) : loop Bs_kGood (.h2 t.Results (t.Results.length : Int) 0 t) = some (alli (fun _ x => kRow t.Columns x) t.Results) := by
  rw [← ifB]
  exact all_goL (L := loop Bs_kGood) (S := fun i => .h2 t.Results (t.Results.length : Int) (i : Int) t) (fun i x hx hlt _ => by
    rw [loop_eq]
    simp only [Bs_kGood]
    rw [if_pos (by omega), if_pos (by omega), Int.toNat_natCast, hx, Option.bind_some, wsucc (by omega)]
    by_cases c : x.length = t.Columns.length
    · rw [if_pos (by omega), l1All_s (by omega), Option.bind_some]
      by_cases c2 : alli (fun _ y => kIn y 0 7) x = true
      · rw [if_pos c2, if_pos (by simp [kRow, c, c2])]; rfl
      · rw [if_neg c2, if_neg (by simp [kRow, c2])]; rfl
    · rw [if_neg (by omega), if_neg (by simp [kRow, c])]; rfl) fun _ => by
    rw [loop_eq]
    simp only [Bs_kGood]
    rw [if_neg (by omega)]
    rfl
theorem wpred {i : Nat} (h : i < 9223372036854775807) (h0 : 0 < i) : IntKind.wrap .i64 ((i : Int) - 1) = ((i - 1 : Nat) : Int) := by rw [w64 (by omega)]; omega
theorem cols_i {t : Gi_CombatTable} (hc : t.Columns.length ≤ 8) (hr : t.Results.length ≤ 100) : loop Bi_IsCombatTable (.h1 t.Columns (t.Columns.length : Int) 0 t) = some (alli (kCol t.Columns) t.Columns && alli (fun _ x => kRow t.Columns x) t.Results) := by
  have := all_goL (L := loop Bi_IsCombatTable) (S := fun i => .h1 t.Columns (t.Columns.length : Int) (i : Int) t) (l := t.Columns) (q := kCol t.Columns) (f := false) (r := some (alli (fun _ x => kRow t.Columns x) t.Results)) (fun i x hx hlt _ => by
    rw [loop_eq]
    simp only [Bi_IsCombatTable]
    rw [if_pos (by omega), if_pos (by omega), Int.toNat_natCast, hx, Option.bind_some, kin_i, Option.bind_some, wsucc (by omega)]
    by_cases c1 : kIn x.Num 1 20 = true
    · rw [if_pos c1, kin_i, Option.bind_some]
      by_cases c2 : kIn x.Den 1 20 = true
      · rw [if_pos c2]
        by_cases c3 : i = 0
        · subst c3
          rw [if_neg (by decide), if_pos (by simp [kCol, c1, c2])]
          rfl
        · have hp : t.Columns[i - 1]? = some t.Columns[i - 1] := List.getElem?_eq_getElem (by omega)
          rw [if_pos (by omega), wpred (by omega) (by omega), if_pos (by omega), Int.toNat_natCast, hp, Option.bind_some, if_pos (by omega), Option.bind_some]
          by_cases c4 : IntKind.wrap .i64 (t.Columns[i - 1].Num * x.Den) ≥ IntKind.wrap .i64 (x.Num * t.Columns[i - 1].Den)
          · have e : kCol t.Columns i x = false := by simp only [kCol, hp, decide_eq_true c4]; simp [c3]
            rw [if_pos c4, e, if_neg (by decide)]; rfl
          · have e : kCol t.Columns i x = true := by simp only [kCol, hp, decide_eq_false c4]; simp [c1, c2]
            rw [if_neg c4, if_pos e]; rfl
      · rw [if_neg c2, if_neg (by simp [kCol, c2])]; rfl
    · rw [if_neg c1, if_neg (by simp [kCol, c1])]; rfl) fun _ => by
    rw [loop_eq]
    simp only [Bi_IsCombatTable]
    rw [if_neg (by omega)]
    exact rows_i hc hr
  refine this.trans ?_
  cases alli (kCol t.Columns) t.Columns <;> rfl
theorem cols_s {t : Gi_CombatTable} (hc : t.Columns.length ≤ 8) (hr : t.Results.length ≤ 100) : loop Bs_kGood (.h1 t.Columns (t.Columns.length : Int) 0 t) = some (alli (kCol t.Columns) t.Columns && alli (fun _ x => kRow t.Columns x) t.Results) := by
  have := all_goL (L := loop Bs_kGood) (S := fun i => .h1 t.Columns (t.Columns.length : Int) (i : Int) t) (l := t.Columns) (q := kCol t.Columns) (f := false) (r := some (alli (fun _ x => kRow t.Columns x) t.Results)) (fun i x hx hlt _ => by
    rw [loop_eq]
    simp only [Bs_kGood]
    rw [if_pos (by omega), if_pos (by omega), Int.toNat_natCast, hx, Option.bind_some, kin_s, Option.bind_some, wsucc (by omega)]
    by_cases c1 : kIn x.Num 1 20 = true
    · rw [if_pos c1, kin_s, Option.bind_some]
      by_cases c2 : kIn x.Den 1 20 = true
      · rw [if_pos c2]
        by_cases c3 : i = 0
        · subst c3
          rw [if_neg (by decide), if_pos (by simp [kCol, c1, c2])]
          rfl
        · have hp : t.Columns[i - 1]? = some t.Columns[i - 1] := List.getElem?_eq_getElem (by omega)
          rw [if_pos (by omega), wpred (by omega) (by omega), if_pos (by omega), Int.toNat_natCast, hp, Option.bind_some, if_pos (by omega), Option.bind_some]
          by_cases c4 : IntKind.wrap .i64 (t.Columns[i - 1].Num * x.Den) ≥ IntKind.wrap .i64 (x.Num * t.Columns[i - 1].Den)
          · have e : kCol t.Columns i x = false := by simp only [kCol, hp, decide_eq_true c4]; simp [c3]
            rw [if_pos c4, e, if_neg (by decide)]; rfl
          · have e : kCol t.Columns i x = true := by simp only [kCol, hp, decide_eq_false c4]; simp [c1, c2]
            rw [if_neg c4, if_pos e]; rfl
      · rw [if_neg c2, if_neg (by simp [kCol, c2])]; rfl
    · rw [if_neg c1, if_neg (by simp [kCol, c1])]; rfl) fun _ => by
    rw [loop_eq]
    simp only [Bs_kGood]
    rw [if_neg (by omega)]
    exact rows_s hc hr
  refine this.trans ?_
  cases alli (kCol t.Columns) t.Columns <;> rfl
theorem isTable_i (t : Gi_CombatTable) : Di_IsCombatTable t = some (kG t) := by
  unfold Di_IsCombatTable kG
  rw [kin_i, Option.bind_some]
  by_cases c1 : kIn (t.Columns.length : Int) 1 8 = true
  · rw [if_pos c1, c1, kin_i, Option.bind_some]
    by_cases c2 : kIn t.Dice 1 2 = true
    · obtain ⟨d1, d2⟩ := kIn_iff.1 c2
      obtain ⟨d3, d4⟩ := kIn_iff.1 c1
      rw [if_pos c2, c2, w64 (n := 5 * t.Dice) (by omega), w64 (by omega)]
      by_cases c3 : (t.Results.length : Int) = 5 * t.Dice + 1
      · rw [if_pos c3, decide_eq_true c3, cols_i (by omega) (by omega)]
        simp
      · rw [if_neg c3, decide_eq_false c3]
        rfl
    · rw [if_neg c2]
      simp only [Bool.not_eq_true] at c2
      rw [c2]
      rfl
  · rw [if_neg c1]
    simp only [Bool.not_eq_true] at c1
    rw [c1]
    rfl
theorem tabGood_s (t : Gi_CombatTable) : Ds_kGood t = some (kG t) := by
  unfold Ds_kGood Ds_kRows kG
  rw [kin_s, Option.bind_some]
  by_cases c1 : kIn (t.Columns.length : Int) 1 8 = true
  · rw [if_pos c1, c1, kin_s, Option.bind_some]
    by_cases c2 : kIn t.Dice 1 2 = true
    · obtain ⟨d1, d2⟩ := kIn_iff.1 c2
      obtain ⟨d3, d4⟩ := kIn_iff.1 c1
      rw [if_pos c2, c2, w64 (n := 5 * t.Dice) (by omega), w64 (by omega), Option.bind_some]
      by_cases c3 : (t.Results.length : Int) = 5 * t.Dice + 1
      · rw [if_pos c3, decide_eq_true c3, cols_s (by omega) (by omega)]
        simp
      · rw [if_neg c3, decide_eq_false c3]
        rfl
    · rw [if_neg c2]
      simp only [Bool.not_eq_true] at c2
      rw [c2]
      rfl
  · rw [if_neg c1]
    simp only [Bool.not_eq_true] at c1
    rw [c1]
    rfl
/-- What a valid table is. -/
structure KT (t : Gi_CombatTable) : Prop where
  cols : 1 ≤ t.Columns.length ∧ t.Columns.length ≤ 8
  dice : t.Dice = 1 ∨ t.Dice = 2
  rows : (t.Results.length : Int) = 5 * t.Dice + 1
  row : ∀ (i : Nat) x, t.Results[i]? = some x → x.length = t.Columns.length
  res : ∀ (i : Nat) x (j : Nat) y, t.Results[i]? = some x → x[j]? = some y → 0 ≤ y ∧ y ≤ 7
theorem kG_KT {t : Gi_CombatTable} (h : kG t = true) : KT t := by
  simp only [kG, Bool.and_eq_true, decide_eq_true_eq] at h
  obtain ⟨⟨⟨⟨h1, h2⟩, h3⟩, _⟩, h5⟩ := h
  rw [kIn_iff] at h1 h2
  rw [alli_iff] at h5
  refine ⟨by omega, by omega, h3, fun i x hx => ?_, fun i x j y hx hy => ?_⟩
  · have := h5 i x hx
    simp only [kRow, Bool.and_eq_true, decide_eq_true_eq] at this
    exact this.1
  · have := h5 i x hx
    simp only [kRow, Bool.and_eq_true, decide_eq_true_eq] at this
    exact kIn_iff.1 (alli_iff.1 this.2 j y hy)

def kSc (x : Int) : Int := if x = 7 then 0 else if x ≥ 4 then 3 - x else x
theorem score_i {x : Int} (h : 0 ≤ x ∧ x ≤ 7) : Di_scoreOf x = some (kSc x) := by
  have : x = 0 ∨ x = 1 ∨ x = 2 ∨ x = 3 ∨ x = 4 ∨ x = 5 ∨ x = 6 ∨ x = 7 := by omega
  rcases this with rfl | rfl | rfl | rfl | rfl | rfl | rfl | rfl <;> rfl
theorem score_s {x : Int} (h : 0 ≤ x ∧ x ≤ 7) : Ds_kScore x = some (kSc x) := by
  have : x = 0 ∨ x = 1 ∨ x = 2 ∨ x = 3 ∨ x = 4 ∨ x = 5 ∨ x = 6 ∨ x = 7 := by omega
  rcases this with rfl | rfl | rfl | rfl | rfl | rfl | rfl | rfl <;> rfl
theorem kSc_b {x : Int} (h : 0 ≤ x ∧ x ≤ 7) : -3 ≤ kSc x ∧ kSc x ≤ 3 := by
  unfold kSc
  split
  · omega
  · split <;> omega
def kElm (l : List Int) (j : Nat) : Int := match l[j]? with
  | some x => x
  | none => 0
theorem kElm_get {l : List Int} {j : Nat} {x : Int} (h : l[j]? = some x) : kElm l j = x := by simp [kElm, h]
def kUp (t : Gi_CombatTable) (i : Nat) (row : List Int) (j : Nat) (x : Int) : Bool :=
  (decide (j = 0) || decide (kSc (kElm row (j - 1)) ≤ kSc x)) && (decide (i = 0) || match t.Results[i - 1]? with
    | some p => decide (kSc (kElm p j) ≤ kSc x)
    | none => false)
def kMono (t : Gi_CombatTable) : Bool := alli (fun i row => alli (kUp t i row) row) t.Results
theorem kUp_iff {t : Gi_CombatTable} {i : Nat} {row : List Int} {j : Nat} {x : Int} {p : List Int} (hp : i = 0 ∨ t.Results[i - 1]? = some p) : kUp t i row j x = true ↔ (j = 0 ∨ kSc (kElm row (j - 1)) ≤ kSc x) ∧ (i = 0 ∨ kSc (kElm p j) ≤ kSc x) := by
  unfold kUp
  rcases hp with hp | hp
  · subst hp
    simp
  · rw [hp]
    simp

theorem monoRow_i {t : Gi_CombatTable} (ht : KT t) {i : Nat} {row : List Int} (hr : t.Results[i]? = some row) {t2 : List (List Int)} {t3 : Int} : loop Bi_IsMonotone (.h2 i row t2 t3 i (row.length : Int) 0 t) = if alli (kUp t i row) row = true then loop Bi_IsMonotone (.h1 t2 t3 (i + 1 : Nat) t) else some (false, true) := by
  have hi : i < t.Results.length := (List.getElem?_eq_some_iff.1 hr).1
  have hi2 : i ≤ 100 := by have h1 := ht.rows; have h2 := ht.dice; omega
  have hlen := ht.row i row hr
  have hc := ht.cols
  have hb : ∀ (j : Nat) y, row[j]? = some y → 0 ≤ y ∧ y ≤ 7 := fun j y hy => ht.res i row j y hr hy
  refine all_goL (L := loop Bi_IsMonotone) (S := fun j => .h2 i row t2 t3 i (row.length : Int) (j : Int) t) (fun j x hx hlt _ => ?_) fun _ => ?_
  · rw [loop_eq]
    simp only [Bi_IsMonotone]
    rw [if_pos (by omega), wsucc (by omega)]
    have hxb := hb j x hx
    obtain ⟨p, hp, hup⟩ : ∃ p, (i = 0 ∨ t.Results[i - 1]? = some p) ∧ (0 < i → ∃ y, p[j]? = some y ∧ 0 ≤ y ∧ y ≤ 7) := by
      by_cases h0 : i = 0
      · exact ⟨[], .inl h0, fun h => by omega⟩
      · have hp : t.Results[i - 1]? = some t.Results[i - 1] := List.getElem?_eq_getElem (by omega)
        have hpl := ht.row _ _ hp
        have hy := List.getElem?_eq_getElem (show j < t.Results[i - 1].length by omega)
        exact ⟨_, .inr hp, fun _ => ⟨_, hy, ht.res _ _ _ _ hp hy⟩⟩
    have hiff := kUp_iff (t := t) (i := i) (row := row) (j := j) (x := x) hp
    by_cases c1 : j = 0
    · subst c1
      rw [if_neg (by decide)]
      by_cases c2 : i = 0
      · subst c2
        rw [if_neg (by decide), if_pos (hiff.2 ⟨.inl rfl, .inl rfl⟩)]
        rfl
      · obtain ⟨y, hy, hyb⟩ := hup (by omega)
        rw [if_pos (by omega), wpred (by omega) (by omega), if_pos (by omega), Int.toNat_natCast, hp.resolve_left c2, Option.bind_some, if_pos (by decide), show (Int.toNat ((0 : Nat) : Int)) = 0 from rfl, hy, Option.bind_some, score_i hyb, Option.bind_some, if_pos (by decide), hx, Option.bind_some, score_i hxb, Option.bind_some]
        rw [kElm_get hy] at hiff
        by_cases c3 : kSc y > kSc x
        · rw [if_pos c3, if_neg (fun h => by have := (hiff.1 h).2; omega)]; rfl
        · rw [if_neg c3, if_pos (hiff.2 ⟨.inl rfl, .inr (by omega)⟩)]; rfl
    · have hq : row[j - 1]? = some row[j - 1] := List.getElem?_eq_getElem (by omega)
      have hqb := hb _ _ hq
      rw [kElm_get hq] at hiff
      rw [if_pos (by omega), wpred (by omega) (by omega), if_pos (by omega), Int.toNat_natCast, hq, Option.bind_some, score_i hqb, Option.bind_some, if_pos (by omega), Int.toNat_natCast, hx, Option.bind_some, score_i hxb, Option.bind_some]
      by_cases c4 : kSc row[j - 1] > kSc x
      · rw [if_pos c4, if_neg (fun h => by have := (hiff.1 h).1; omega)]; rfl
      · rw [if_neg c4]
        by_cases c2 : i = 0
        · subst c2
          rw [if_neg (by decide), if_pos (hiff.2 ⟨.inr (by omega), .inl rfl⟩)]
          rfl
        · obtain ⟨y, hy, hyb⟩ := hup (by omega)
          rw [if_pos (by omega), wpred (by omega) (by omega), if_pos (by omega), Int.toNat_natCast, hp.resolve_left c2, Option.bind_some, if_pos (by omega), hy, Option.bind_some, score_i hyb, Option.bind_some, if_pos (by omega), Option.bind_some, score_i hxb, Option.bind_some]
          rw [kElm_get hy] at hiff
          by_cases c3 : kSc y > kSc x
          · rw [if_pos c3, if_neg (fun h => by have := (hiff.1 h).2; omega)]; rfl
          · rw [if_neg c3, if_pos (hiff.2 ⟨.inr (by omega), .inr (by omega)⟩)]; rfl
  · rw [loop_eq]
    simp only [Bi_IsMonotone]
    rw [if_neg (by omega), wsucc (by omega)]
    rfl
theorem monoRow_s {t : Gi_CombatTable} (ht : KT t) {i : Nat} {row : List Int} (hr : t.Results[i]? = some row) {t2 : List (List Int)} {t3 : Int} : loop Bs_IsMonotone (.h2 i row t2 t3 i row (row.length : Int) 0 t) = if alli (kUp t i row) row = true then loop Bs_IsMonotone (.h1 t2 t3 (i + 1 : Nat) t) else some (false, true) := by
  have hi : i < t.Results.length := (List.getElem?_eq_some_iff.1 hr).1
  have hi2 : i ≤ 100 := by have h1 := ht.rows; have h2 := ht.dice; omega
  have hlen := ht.row i row hr
  have hc := ht.cols
  have hb : ∀ (j : Nat) y, row[j]? = some y → 0 ≤ y ∧ y ≤ 7 := fun j y hy => ht.res i row j y hr hy
  refine all_goL (L := loop Bs_IsMonotone) (S := fun j => .h2 i row t2 t3 i row (row.length : Int) (j : Int) t) (fun j x hx hlt _ => ?_) fun _ => ?_
  · rw [loop_eq]
    simp only [Bs_IsMonotone]
    rw [if_pos (by omega), wsucc (by omega), if_pos (by omega), Int.toNat_natCast, hx, Option.bind_some]
    have hxb := hb j x hx
    obtain ⟨p, hp, hup⟩ : ∃ p, (i = 0 ∨ t.Results[i - 1]? = some p) ∧ (0 < i → ∃ y, p[j]? = some y ∧ 0 ≤ y ∧ y ≤ 7) := by
      by_cases h0 : i = 0
      · exact ⟨[], .inl h0, fun h => by omega⟩
      · have hp : t.Results[i - 1]? = some t.Results[i - 1] := List.getElem?_eq_getElem (by omega)
        have hpl := ht.row _ _ hp
        have hy := List.getElem?_eq_getElem (show j < t.Results[i - 1].length by omega)
        exact ⟨_, .inr hp, fun _ => ⟨_, hy, ht.res _ _ _ _ hp hy⟩⟩
    have hiff := kUp_iff (t := t) (i := i) (row := row) (j := j) (x := x) hp
    by_cases c1 : j = 0
    · subst c1
      rw [if_neg (by decide)]
      by_cases c2 : i = 0
      · subst c2
        rw [if_neg (by decide), if_pos (hiff.2 ⟨.inl rfl, .inl rfl⟩)]
        rfl
      · obtain ⟨y, hy, hyb⟩ := hup (by omega)
        rw [if_pos (by omega), wpred (by omega) (by omega), if_pos (by omega), Int.toNat_natCast, hp.resolve_left c2, Option.bind_some, if_pos (by decide), hy, Option.bind_some, score_s hyb, Option.bind_some, score_s hxb, Option.bind_some]
        rw [kElm_get hy] at hiff
        by_cases c3 : kSc y > kSc x
        · rw [if_pos c3, if_neg (fun h => by have := (hiff.1 h).2; omega)]; rfl
        · rw [if_neg c3, if_pos (hiff.2 ⟨.inl rfl, .inr (by omega)⟩)]; rfl
    · have hq : row[j - 1]? = some row[j - 1] := List.getElem?_eq_getElem (by omega)
      have hqb := hb _ _ hq
      rw [kElm_get hq] at hiff
      rw [if_pos (by omega), wpred (by omega) (by omega), if_pos (by omega), Int.toNat_natCast, hq, Option.bind_some, score_s hqb, Option.bind_some, score_s hxb, Option.bind_some]
      by_cases c4 : kSc row[j - 1] > kSc x
      · rw [if_pos c4, if_neg (fun h => by have := (hiff.1 h).1; omega)]; rfl
      · rw [if_neg c4]
        by_cases c2 : i = 0
        · subst c2
          rw [if_neg (by decide), if_pos (hiff.2 ⟨.inr (by omega), .inl rfl⟩)]
          rfl
        · obtain ⟨y, hy, hyb⟩ := hup (by omega)
          rw [if_pos (by omega), wpred (by omega) (by omega), if_pos (by omega), Int.toNat_natCast, hp.resolve_left c2, Option.bind_some, if_pos (by omega), hy, Option.bind_some, score_s hyb, Option.bind_some, Option.bind_some]
          rw [kElm_get hy] at hiff
          by_cases c3 : kSc y > kSc x
          · rw [if_pos c3, if_neg (fun h => by have := (hiff.1 h).2; omega)]; rfl
          · rw [if_neg c3, if_pos (hiff.2 ⟨.inr (by omega), .inr (by omega)⟩)]; rfl
  · rw [loop_eq]
    simp only [Bs_IsMonotone]
    rw [if_neg (by omega), wsucc (by omega)]
    rfl
def kMonoR (t : Gi_CombatTable) : Bool × Bool := if kG t = true then (kMono t, true) else (false, false)
theorem ifPair (b : Bool) : (if b = true then some (true, true) else some (false, true)) = some (b, true) := by cases b <;> rfl
theorem mono_i (t : Gi_CombatTable) : Di_IsMonotone t = some (kMonoR t) := by
  unfold Di_IsMonotone kMonoR
  rw [isTable_i, Option.bind_some]
  by_cases c : kG t = true
  · have ht := kG_KT c
    have hl : t.Results.length ≤ 100 := by have h1 := ht.rows; have h2 := ht.dice; omega
    rw [if_pos c, if_pos c, ← ifPair]
    refine all_goL (L := loop Bi_IsMonotone) (S := fun i => .h1 t.Results (t.Results.length : Int) (i : Int) t) (fun i x hx hlt _ => ?_) fun _ => ?_
    · rw [loop_eq]
      simp only [Bi_IsMonotone]
      rw [if_pos (by omega), if_pos (by omega), Int.toNat_natCast, hx, Option.bind_some]
      exact monoRow_i ht hx
    · rw [loop_eq]
      simp only [Bi_IsMonotone]
      rw [if_neg (by omega)]
      rfl
  · rw [if_neg c, if_neg c]
theorem mono_s (t : Gi_CombatTable) : Ds_IsMonotone t = some (kMonoR t) := by
  unfold Ds_IsMonotone kMonoR
  rw [tabGood_s, Option.bind_some]
  by_cases c : kG t = true
  · have ht := kG_KT c
    have hl : t.Results.length ≤ 100 := by have h1 := ht.rows; have h2 := ht.dice; omega
    rw [if_pos c, if_pos c, ← ifPair]
    refine all_goL (L := loop Bs_IsMonotone) (S := fun i => .h1 t.Results (t.Results.length : Int) (i : Int) t) (fun i x hx hlt _ => ?_) fun _ => ?_
    · rw [loop_eq]
      simp only [Bs_IsMonotone]
      rw [if_pos (by omega), if_pos (by omega), Int.toNat_natCast, hx, Option.bind_some]
      exact monoRow_s ht hx
    · rw [loop_eq]
      simp only [Bs_IsMonotone]
      rw [if_neg (by omega)]
      rfl
  · rw [if_neg c, if_neg c]

def kAsk (t : Gi_CombatTable) (c : Int) : Bool := kG t && kIn c 0 ((t.Columns.length : Int) - 1)
theorem kAsk_iff {t : Gi_CombatTable} {c : Int} : kAsk t c = true ↔ kG t = true ∧ 0 ≤ c ∧ c ≤ (t.Columns.length : Int) - 1 := by simp [kAsk, kIn_iff]
theorem column_i (t : Gi_CombatTable) (c : Int) : Di_isColumn t c = some (kAsk t c) := by
  unfold Di_isColumn kAsk Di_isIndex
  rw [isTable_i, Option.bind_some]
  by_cases h : kG t = true
  · have := (kG_KT h).cols
    rw [if_pos h, h, kin_i, w64 (by omega)]
    rfl
  · rw [if_neg h]
    simp only [Bool.not_eq_true] at h
    rw [h]
    rfl
theorem asked_k (t : Gi_CombatTable) (c : Int) : Ds_kAsked t c = some (kAsk t c) := by
  unfold Ds_kAsked kAsk
  rw [tabGood_s, Option.bind_some]
  by_cases h : kG t = true
  · have := (kG_KT h).cols
    rw [if_pos h, h, kin_s, w64 (by omega)]
    rfl
  · rw [if_neg h]
    simp only [Bool.not_eq_true] at h
    rw [h]
    rfl
theorem shift_both (t : Gi_CombatTable) (c s : Int) : ∃ r, Di_ShiftColumn t c s = some r ∧ Ds_ShiftColumn t c s = some r := by
  unfold Di_ShiftColumn Ds_ShiftColumn
  rw [column_i, asked_k, Option.bind_some, Option.bind_some, kin_i, kin_s]
  by_cases h : kAsk t c = true
  · obtain ⟨h1, h2, h3⟩ := kAsk_iff.1 h
    have hc := (kG_KT h1).cols
    rw [if_pos h, if_pos h, Option.bind_some, Option.bind_some]
    by_cases g : kIn s (-10) 10 = true
    · obtain ⟨g1, g2⟩ := kIn_iff.1 g
      rw [if_pos g, if_pos g]
      unfold Di_shiftColumn Ds_kShift Ds_l1Least Ds_l1Most
      rw [w64 (n := (t.Columns.length : Int) - 1) (by omega), w64 (n := c + s) (by omega)]
      refine ⟨_, rfl, ?_⟩
      generalize hn : (t.Columns.length : Int) = n at *
      have a0 : ¬ (n - 1 < 0) := by omega
      by_cases a1 : n - 1 < c + s
      · have a2 : ¬ (c + s < 0) := by omega
        have a3 : ¬ (0 > n - 1) := by omega
        simp only [a1, a2, a3, if_true, if_false, Option.bind_some]
      · by_cases a2 : c + s < 0
        · have a3 : 0 > c + s := by omega
          simp only [a0, a1, a2, a3, if_true, if_false, Option.bind_some]
        · have a3 : ¬ (0 > c + s) := by omega
          simp only [a1, a2, a3, if_false, Option.bind_some]
    · rw [if_neg g, if_neg g]
      exact ⟨_, rfl, rfl⟩
  · rw [if_neg h, if_neg h]
    exact ⟨_, rfl, rfl⟩
theorem result_both (t : Gi_CombatTable) (roll c : Int) : ∃ r, Di_ResultAt t roll c = some r ∧ Ds_ResultAt t roll c = some r ∧ (r.2 = true → 0 ≤ r.1 ∧ r.1 ≤ 7) := by
  unfold Di_ResultAt Ds_ResultAt
  rw [column_i, asked_k, Option.bind_some, Option.bind_some, kin_i, kin_s]
  by_cases h : kAsk t c = true
  · obtain ⟨h1, h2, h3⟩ := kAsk_iff.1 h
    have ht := kG_KT h1
    have hdc := ht.dice
    have hrw := ht.rows
    rw [if_pos h, if_pos h, w64 (n := 6 * t.Dice) (by omega), Option.bind_some, Option.bind_some]
    by_cases g : kIn roll t.Dice (6 * t.Dice) = true
    · obtain ⟨g1, g2⟩ := kIn_iff.1 g
      have hx : t.Results[(roll - t.Dice).toNat]? = some t.Results[(roll - t.Dice).toNat] := List.getElem?_eq_getElem (by omega)
      have hlen := ht.row _ _ hx
      have hy := List.getElem?_eq_getElem (show c.toNat < t.Results[(roll - t.Dice).toNat].length by omega)
      rw [if_pos g, if_pos g]
      unfold Ds_kResult
      rw [w64 (n := roll - t.Dice) (by omega), if_pos (by omega), hx, Option.bind_some, if_pos (by omega), hy, Option.bind_some, if_pos (by omega), Option.bind_some, if_pos (by omega), hy, Option.bind_some, Option.bind_some]
      exact ⟨_, rfl, rfl, fun _ => ht.res _ _ _ _ hx hy⟩
    · rw [if_neg g, if_neg g]
      exact ⟨_, rfl, rfl, fun h => by cases h⟩
  · rw [if_neg h, if_neg h]
    exact ⟨_, rfl, rfl, fun h => by cases h⟩
theorem scoreOf_i {x : Int} (h : 0 ≤ x ∧ x ≤ 7) : Di_ScoreOf x = some (kSc x, true) := by
  unfold Di_ScoreOf Di_isResult
  rw [kin_i, Option.bind_some, Option.bind_some, if_pos (kIn_iff.2 h), score_i h]
  rfl

def kW (d : Int) (r : Nat) : Int := if d = 1 then 1 else if (r : Int) < 5 then 1 + r else 11 - r
theorem kW_b {d : Int} {r : Nat} (hr : r ≤ 10) : 1 ≤ kW d r ∧ kW d r ≤ 6 := by
  unfold kW
  split
  · omega
  · split <;> omega
theorem wayFor_i {t : Gi_CombatTable} {r : Nat} (hr : r ≤ 10) : Di_waysFor t r = some (kW t.Dice r) := by
  unfold Di_waysFor Di_absOf kW
  by_cases c : t.Dice = 1
  · rw [if_pos c, if_pos c]
  · rw [if_neg c, if_neg c, w64 (n := (r : Int) - 5) (by omega)]
    by_cases c2 : (r : Int) - 5 < 0
    · rw [if_pos c2, if_pos (by omega), Option.bind_some, w64 (n := 0 - ((r : Int) - 5)) (by omega), w64 (by omega)]
      congr 1
      omega
    · rw [if_neg c2, if_neg (by omega), Option.bind_some, w64 (by omega)]
      congr 1
      omega
theorem wayFor_s {d : Int} {r : Nat} (hdc : d = 1 ∨ d = 2) (hr : r ≤ 10) : Ds_kWays d ((r : Int) + d) = some (kW d r) := by
  unfold Ds_kWays Ds_l1Abs Ds_l1Most kW
  by_cases c : d = 1
  · rw [if_pos c, if_pos c]
  · rw [if_neg c, if_neg c, w64 (n := (r : Int) + d - 7) (by omega), w64 (n := 0 - ((r : Int) + d - 7)) (by omega)]
    by_cases c2 : (r : Int) < 5
    · rw [if_neg (by omega), if_pos c2, Option.bind_some, Option.bind_some, w64 (by omega)]
      congr 1
      omega
    · rw [if_neg c2]
      by_cases c3 : (r : Int) = 5
      · rw [if_neg (by omega), Option.bind_some, Option.bind_some, w64 (by omega)]
        congr 1
        omega
      · rw [if_pos (by omega), Option.bind_some, Option.bind_some, w64 (by omega)]
        congr 1
        omega
theorem mul3 {x s b : Int} (hx : 0 ≤ x ∧ x ≤ b) (hs : -3 ≤ s ∧ s ≤ 3) : -(3 * b) ≤ x * s ∧ x * s ≤ 3 * b := by
  have : s = -3 ∨ s = -2 ∨ s = -1 ∨ s = 0 ∨ s = 1 ∨ s = 2 ∨ s = 3 := by omega
  rcases this with rfl | rfl | rfl | rfl | rfl | rfl | rfl <;> omega

def meanF (d : Int) (c : Nat) : List (List Int) → Nat → Int × Int
  | [], _ => (0, 0)
  | row :: l, r => (kW d r * kSc (kElm row c) + (meanF d c l (r + 1)).1, kW d r + (meanF d c l (r + 1)).2)
theorem mean_loop_i {t : Gi_CombatTable} (ht : KT t) {c : Nat} (hc : c < t.Columns.length) : ∀ (n r : Nat) (s m : Int), r + n = t.Results.length → -(18 * (r : Int)) ≤ s → s ≤ 18 * r → 0 ≤ m → m ≤ 6 * r →
    loop Bi_MeanScore (.h1 (c : Int) s m t.Results (t.Results.length : Int) (r : Int) t) = some (s + (meanF t.Dice c (t.Results.drop r) r).1, m + (meanF t.Dice c (t.Results.drop r) r).2, true)
  | 0, r, s, m, h, h1, h2, h3, h4 => by
    rw [loop_eq, List.drop_of_length_le (by omega)]
    simp only [Bi_MeanScore]
    rw [if_neg (by omega)]
    simp [meanF, goOn]
  | n + 1, r, s, m, h, h1, h2, h3, h4 => by
    have hl : t.Results.length ≤ 11 := by have h1 := ht.rows; have h2 := ht.dice; omega
    have hx : t.Results[r]? = some t.Results[r] := List.getElem?_eq_getElem (by omega)
    have hlen := ht.row _ _ hx
    have hy : t.Results[r][c]? = some t.Results[r][c] := List.getElem?_eq_getElem (by omega)
    have hyb := ht.res _ _ _ _ hx hy
    have hw := kW_b (d := t.Dice) (r := r) (by omega)
    have hs := kSc_b hyb
    have hm := mul3 (b := 6) ⟨show 0 ≤ kW t.Dice r by omega, hw.2⟩ hs
    rw [loop_eq, List.drop_eq_getElem_cons (by omega)]
    simp only [Bi_MeanScore, meanF]
    rw [if_pos (by omega), if_pos (by omega), Int.toNat_natCast, hx, Option.bind_some, if_pos (by omega), Int.toNat_natCast, hy, Option.bind_some, score_i hyb, Option.bind_some, wayFor_i (by omega), Option.bind_some, Option.bind_some, wsucc (by omega)]
    simp only [kElm_get hy]
    rw [Int.mul_comm (kSc _) (kW _ _), w64 (n := kW t.Dice r * kSc t.Results[r][c]) (by omega), w64 (by omega), w64 (by omega)]
    simp only [goOn]
    rw [mean_loop_i ht hc n (r + 1) _ _ (by omega) (by omega) (by omega) (by omega) (by omega)]
    simp only [Int.add_assoc]
def dotF : List Int → Nat → Int
  | [], _ => 0
  | a :: l, v => a * kSc v + dotF l (v + 1)
def sumF : List Int → Int
  | [] => 0
  | a :: l => a + sumF l
theorem dot_set : ∀ (l : List Int) (i v : Nat) (a w : Int), l[i]? = some a → dotF (l.set i (a + w)) v = dotF l v + w * kSc ((v + i : Nat) : Int)
  | [], i, v, a, w, h => by simp at h
  | b :: l, 0, v, a, w, h => by
    simp only [List.getElem?_cons_zero, Option.some.injEq] at h
    subst h
    simp only [List.set_cons_zero, dotF, Int.add_mul, Nat.add_zero]
    omega
  | b :: l, i + 1, v, a, w, h => by
    have ih := dot_set l i (v + 1) a w (by simpa using h)
    simp only [List.set_cons_succ, dotF, ih]
    rw [show v + 1 + i = v + (i + 1) by omega]
    omega
theorem kSum_set : ∀ (l : List Int) (i : Nat) (a w : Int), l[i]? = some a → sumF (l.set i (a + w)) = sumF l + w
  | [], i, a, w, h => by simp at h
  | b :: l, 0, a, w, h => by
    simp only [List.getElem?_cons_zero, Option.some.injEq] at h
    subst h
    simp only [List.set_cons_zero, sumF]
    omega
  | b :: l, i + 1, a, w, h => by
    have ih := kSum_set l i a w (by simpa using h)
    simp only [List.set_cons_succ, sumF, ih]
    omega
theorem counts_loop {t : Gi_CombatTable} (ht : KT t) {c : Nat} (hc : c < t.Columns.length) : ∀ (n r : Nat) (l : List Int), r + n = t.Results.length → l.length = 8 → (∀ x ∈ l, 0 ≤ x ∧ x ≤ 6 * r) →
    ∃ l', loop Bs_kCounts (.h1 (c : Int) ((r : Int) + t.Dice) t l) = some l' ∧ l'.length = 8 ∧ (∀ x ∈ l', 0 ≤ x ∧ x ≤ 66) ∧ dotF l' 0 = dotF l 0 + (meanF t.Dice c (t.Results.drop r) r).1 ∧ sumF l' = sumF l + (meanF t.Dice c (t.Results.drop r) r).2
  | 0, r, l, h, h1, h2 => by
    have hr := ht.rows
    have hdc := ht.dice
    rw [loop_eq, List.drop_of_length_le (by omega)]
    simp only [Bs_kCounts]
    rw [w64 (n := 6 * t.Dice) (by omega), if_neg (by omega)]
    exact ⟨l, rfl, h1, fun x hx => by have := h2 x hx; omega, by simp [meanF], by simp [meanF]⟩
  | n + 1, r, l, h, h1, h2 => by
    have hr := ht.rows
    have hdc := ht.dice
    have hl : t.Results.length ≤ 11 := by omega
    have hx : t.Results[r]? = some t.Results[r] := List.getElem?_eq_getElem (by omega)
    have hlen := ht.row _ _ hx
    have hy : t.Results[r][c]? = some t.Results[r][c] := List.getElem?_eq_getElem (by omega)
    have hyb := ht.res _ _ _ _ hx hy
    have hw := kW_b (d := t.Dice) (r := r) (by omega)
    rw [loop_eq, List.drop_eq_getElem_cons (by omega)]
    simp only [Bs_kCounts, meanF, kElm_get hy]
    have hk : Ds_kResult t ((r : Int) + t.Dice) (c : Int) = some t.Results[r][c] := by
      unfold Ds_kResult
      rw [w64 (by omega), show (r : Int) + t.Dice - t.Dice = r by omega, if_pos (by omega), Int.toNat_natCast, hx, Option.bind_some, if_pos (by omega), Int.toNat_natCast, hy, Option.bind_some]
    obtain ⟨v, hv⟩ : ∃ v : Nat, (v : Int) = t.Results[r][c] := ⟨t.Results[r][c].toNat, by omega⟩
    have ha : l[v]? = some l[v] := List.getElem?_eq_getElem (by omega)
    have hab := h2 _ (List.mem_of_getElem? ha)
    rw [w64 (n := 6 * t.Dice) (by omega), if_pos (by omega), hk, Option.bind_some, ← hv, if_pos (by omega), Int.toNat_natCast, ha, Option.bind_some, wayFor_s hdc (by omega), Option.bind_some, if_pos (by omega), Option.bind_some, w64 (n := (r : Int) + t.Dice + 1) (by omega), w64 (by omega), show (r : Int) + t.Dice + 1 = ((r + 1 : Nat) : Int) + t.Dice by omega]
    simp only [goOn]
    obtain ⟨l', e1, e2, e3, e4, e5⟩ := counts_loop ht hc n (r + 1) (l.set v (l[v] + kW t.Dice r)) (by omega) (by simpa using h1) (fun x hx => by
      rcases List.mem_or_eq_of_mem_set hx with hx | hx
      · have := h2 x hx; omega
      · omega)
    rw [dot_set l v 0 _ _ ha] at e4
    rw [kSum_set l v _ _ ha] at e5
    refine ⟨l', e1, e2, e3, ?_, ?_⟩
    · rw [e4, Nat.zero_add]; omega
    · rw [e5]; omega
theorem dot_loop_s {l : List Int} (hl : l.length = 8) (hb : ∀ x ∈ l, 0 ≤ x ∧ x ≤ 66) : ∀ (n i : Nat) (s m : Int), i + n = 8 → -(300 * (i : Int)) ≤ s → s ≤ 300 * i → 0 ≤ m → m ≤ 100 * i →
    loop Bs_MeanScore (.h1 s m 8 (i : Int) l) = some (s + dotF (l.drop i) i, m + sumF (l.drop i), true)
  | 0, i, s, m, h, h1, h2, h3, h4 => by
    rw [loop_eq, List.drop_of_length_le (by omega)]
    simp only [Bs_MeanScore]
    rw [if_neg (by omega)]
    simp [dotF, sumF, goOn]
  | n + 1, i, s, m, h, h1, h2, h3, h4 => by
    have hx : l[i]? = some l[i] := List.getElem?_eq_getElem (by omega)
    have hxb := hb _ (List.mem_of_getElem? hx)
    have hib : (0 : Int) ≤ (i : Int) ∧ (i : Int) ≤ 7 := by omega
    have hs := kSc_b hib
    have hm := mul3 hxb hs
    rw [loop_eq, List.drop_eq_getElem_cons (by omega)]
    simp only [Bs_MeanScore, dotF, sumF]
    rw [if_pos (by omega), if_pos (by omega), Int.toNat_natCast, hx, Option.bind_some, score_s hib, Option.bind_some, w64 (n := l[i] * kSc i) (by omega), w64 (by omega), w64 (by omega), wsucc (by omega)]
    simp only [goOn]
    rw [dot_loop_s hl hb n (i + 1) _ _ (by omega) (by omega) (by omega) (by omega) (by omega)]
    simp only [Int.add_assoc]
def kMeanR (t : Gi_CombatTable) (c : Int) : Int × Int × Bool := if kAsk t c = true then ((meanF t.Dice c.toNat t.Results 0).1, (meanF t.Dice c.toNat t.Results 0).2, true) else (0, 0, false)
theorem mean_i (t : Gi_CombatTable) (c : Int) : Di_MeanScore t c = some (kMeanR t c) := by
  unfold Di_MeanScore kMeanR
  rw [column_i, Option.bind_some]
  by_cases h : kAsk t c = true
  · obtain ⟨h1, h2, h3⟩ := kAsk_iff.1 h
    obtain ⟨k, rfl⟩ : ∃ k : Nat, c = k := ⟨c.toNat, by omega⟩
    rw [if_pos h, if_pos h]
    have := mean_loop_i (kG_KT h1) (c := k) (by omega) t.Results.length 0 0 0 (by omega) (by omega) (by omega) (by omega) (by omega)
    simpa using this
  · rw [if_neg h, if_neg h]
theorem mean_s (t : Gi_CombatTable) (c : Int) : Ds_MeanScore t c = some (kMeanR t c) := by
  unfold Ds_MeanScore kMeanR Ds_kCounts
  rw [asked_k, Option.bind_some]
  by_cases h : kAsk t c = true
  · obtain ⟨h1, h2, h3⟩ := kAsk_iff.1 h
    obtain ⟨k, rfl⟩ : ∃ k : Nat, c = k := ⟨c.toNat, by omega⟩
    rw [if_pos h, if_pos h, if_pos (by decide)]
    obtain ⟨l', e1, e2, e3, e4, e5⟩ := counts_loop (kG_KT h1) (c := k) (by omega) t.Results.length 0 (List.replicate 8 0) (by omega) (by simp) (fun x hx => by rw [List.eq_of_mem_replicate hx]; omega)
    rw [show ((0 : Nat) : Int) + t.Dice = t.Dice by omega] at e1
    rw [show Int.toNat 8 = 8 from rfl, e1, Option.bind_some, e2]
    have := dot_loop_s e2 e3 8 0 0 0 (by omega) (by omega) (by omega) (by omega) (by omega)
    refine Eq.trans this ?_
    rw [List.drop_zero, e4, e5, List.drop_zero, Int.toNat_natCast]
    simp [List.replicate, dotF, sumF]
  · rw [if_neg h, if_neg h]
theorem meanF_up {d : Int} {k : Nat} : ∀ (l : List (List Int)) (r : Nat), r + l.length ≤ 11 → (∀ row ∈ l, kSc (kElm row k) ≤ kSc (kElm row (k + 1))) → (meanF d k l r).1 ≤ (meanF d (k + 1) l r).1
  | [], r, _, _ => Int.le_refl _
  | row :: l, r, hl, h => by
    simp only [List.length_cons] at hl
    have ih := meanF_up (d := d) (k := k) l (r + 1) (by omega) fun x hx => h x (List.mem_cons_of_mem _ hx)
    have h0 := h row (List.mem_cons_self ..)
    have hw := kW_b (d := d) (r := r) (by omega)
    simp only [meanF]
    have := Int.mul_le_mul_of_nonneg_left h0 (show 0 ≤ kW d r by omega)
    omega
theorem kMono_col {t : Gi_CombatTable} (hg : kG t = true) (hm : kMono t = true) {k : Nat} (hk : k + 1 < t.Columns.length) : ∀ row ∈ t.Results, kSc (kElm row k) ≤ kSc (kElm row (k + 1)) := fun row hr => by
  obtain ⟨i, hi⟩ := List.getElem?_of_mem hr
  have ht := kG_KT hg
  have hlen := ht.row _ _ hi
  have hx : row[k + 1]? = some row[k + 1] := List.getElem?_eq_getElem (by omega)
  have := alli_iff.1 (alli_iff.1 hm i row hi) (k + 1) _ hx
  unfold kUp at this
  simp only [Bool.and_eq_true, Bool.or_eq_true, decide_eq_true_eq] at this
  rw [kElm_get hx]
  rcases this.1 with h | h
  · omega
  · simpa using h

theorem rowIdx {i j v : Int} {R : Int} (hR : R = 6 ∨ R = 11) (hi : 0 ≤ i ∧ i ≤ 100) (hj : 0 ≤ j ∧ j ≤ 100) (hv : 0 ≤ v ∧ v ≤ 65535) : ∃ r x, Ds_l1Least 7 (IntKind.wrap .i64 ((IntKind.wrap .i64 ((IntKind.wrap .i64 (Int.tdiv (IntKind.wrap .i64 (5 * i)) R)) + (IntKind.wrap .i64 (Int.tdiv (IntKind.wrap .i64 (j * 2)) 3)))) + (IntKind.wrap .i64 (Int.tdiv v 2)))) = some r ∧ 0 ≤ r ∧ ([6, 5, 4, 0, 7, 1, 2, 3] : List Int)[r.toNat]? = some x := by
  rw [w64 (n := 5 * i) (by omega), w64 (n := j * 2) (by omega), Int.tdiv_eq_ediv_of_nonneg (a := 5 * i) (by omega), Int.tdiv_eq_ediv_of_nonneg (a := j * 2) (by omega), Int.tdiv_eq_ediv_of_nonneg (a := v) (by omega)]
  have hq : 0 ≤ 5 * i / R ∧ 5 * i / R ≤ 500 := by rcases hR with rfl | rfl <;> omega
  generalize 5 * i / R = q at hq
  rw [w64 (n := q) (by omega), w64 (n := j * 2 / 3) (by omega), w64 (n := v / 2) (by omega), w64 (n := q + j * 2 / 3) (by omega), w64 (by omega)]
  unfold Ds_l1Least
  obtain ⟨m, hm, hm0, hm7⟩ : ∃ m : Int, (if 7 < q + j * 2 / 3 + v / 2 then some (7 : Int) else some (q + j * 2 / 3 + v / 2)) = some m ∧ 0 ≤ m ∧ m ≤ 7 := by
    by_cases c : 7 < q + j * 2 / 3 + v / 2
    · rw [if_pos c]; exact ⟨_, rfl, by omega, by omega⟩
    · rw [if_neg c]; exact ⟨_, rfl, by omega, by omega⟩
  rw [hm]
  have hlt : m.toNat < ([6, 5, 4, 0, 7, 1, 2, 3] : List Int).length := by simp; omega
  exact ⟨m, _, rfl, hm0, List.getElem?_eq_getElem hlt⟩

theorem tabRow4 {R : Int} {b5 b6 : Int} {cols : List Gi_Odds} {l10 : List (List Int)} (hR : R = 6 ∨ R = 11) {i : Int} (hi : 0 ≤ i ∧ i ≤ 100) (hc : cols.length ≤ 100) : ∀ (n j : Nat) (cur : Gs_l1Cur) (l8 : List Int) (k : Int), j + n = cols.length → l8.length = j → Cu cur k → k + 2 * n ≤ 1099511627776 →
    ∃ cur' row, row.length = cols.length ∧ Cu cur' (k + 2 * n) ∧ loop Bs_l1Cur_combatTable (.h4 R i (cols.length : Int) (j : Int) cur b5 b6 [6, 5, 4, 0, 7, 1, 2, 3] l8 cols l10) = loop Bs_l1Cur_combatTable (.h4 R i (cols.length : Int) (cols.length : Int) cur' b5 b6 [6, 5, 4, 0, 7, 1, 2, 3] row cols l10)
  | 0, j, cur, l8, k, h, h1, h2, hk => ⟨cur, l8, by omega, by simpa using h2, by rw [show j = cols.length by omega]⟩
  | n + 1, j, cur, l8, k, h, h1, h2, hk => by
    obtain ⟨v, c1, e1, hv, hc1⟩ := cuPick h2 (by omega) 2
    obtain ⟨r, x, e2, hr0, e3⟩ := rowIdx hR hi (j := (j : Int)) (by omega) (v := v) (by omega)
    obtain ⟨cur', row, f1, f2, f3⟩ := tabRow4 hR hi hc n (j + 1) c1 (l8 ++ [x]) (k + 2) (by omega) (by simp; omega) hc1 (by omega)
    refine ⟨cur', row, f1, by rw [show k + 2 * ((n + 1 : Nat) : Int) = k + 2 + 2 * (n : Int) by omega]; exact f2, ?_⟩
    rw [← f3, loop_eq]
    conv => lhs; simp only [Bs_l1Cur_combatTable]
    rw [if_pos (by omega), if_pos (by omega), e1, Option.bind_some]
    simp only
    rw [e2, Option.bind_some, if_pos hr0, e3, Option.bind_some, if_pos (by simp; omega), wsucc (by omega)]
    rfl
theorem tabRow2 {R : Int} {b5 b6 : Int} {cols : List Gi_Odds} (hR : R = 6 ∨ R = 11) {i : Int} (hi : 0 ≤ i ∧ i ≤ 100) (hc : cols.length ≤ 100) : ∀ (n j : Nat) (cur : Gs_l1Cur) (l8 : List Int) (k : Int), j + n = cols.length → l8.length = j → Cu cur k → k + 2 * n ≤ 1099511627776 →
    ∃ cur' row, row.length = cols.length ∧ Cu cur' (k + 2 * n) ∧ loop Bs_l1Cur_combatTable (.h2 R i (cols.length : Int) (j : Int) cur b5 b6 [6, 5, 4, 0, 7, 1, 2, 3] l8 cols) = loop Bs_l1Cur_combatTable (.h2 R i (cols.length : Int) (cols.length : Int) cur' b5 b6 [6, 5, 4, 0, 7, 1, 2, 3] row cols)
  | 0, j, cur, l8, k, h, h1, h2, hk => ⟨cur, l8, by omega, by simpa using h2, by rw [show j = cols.length by omega]⟩
  | n + 1, j, cur, l8, k, h, h1, h2, hk => by
    obtain ⟨v, c1, e1, hv, hc1⟩ := cuPick h2 (by omega) 2
    obtain ⟨r, x, e2, hr0, e3⟩ := rowIdx hR hi (j := (j : Int)) (by omega) (v := v) (by omega)
    obtain ⟨cur', row, f1, f2, f3⟩ := tabRow2 hR hi hc n (j + 1) c1 (l8 ++ [x]) (k + 2) (by omega) (by simp; omega) hc1 (by omega)
    refine ⟨cur', row, f1, by rw [show k + 2 * ((n + 1 : Nat) : Int) = k + 2 + 2 * (n : Int) by omega]; exact f2, ?_⟩
    rw [← f3, loop_eq]
    conv => lhs; simp only [Bs_l1Cur_combatTable]
    rw [if_pos (by omega), if_pos (by omega), e1, Option.bind_some]
    simp only
    rw [e2, Option.bind_some, if_pos hr0, e3, Option.bind_some, if_pos (by simp; omega), wsucc (by omega)]
    rfl
/-- What a drawn table is. -/
structure KD (t : Gi_CombatTable) : Prop where
  cols : 1 ≤ t.Columns.length ∧ t.Columns.length ≤ 100
  rows : 2 ≤ t.Results.length
  row : ∀ x ∈ t.Results, x.length = t.Columns.length
theorem tabRows {R : Int} {b3 b4 : Int} {cols : List Gi_Odds} (hR : R = 6 ∨ R = 11) (hc : 1 ≤ cols.length ∧ cols.length ≤ 100) : ∀ (n i : Nat) (cur : Gs_l1Cur) (l : List (List Int)) (k : Int), (i : Int) + n = R → 1 ≤ i → l.length = i → (∀ x ∈ l, x.length = cols.length) → Cu cur k → k + 200 * n + 8 ≤ 1099511627776 →
    ∃ t cur', loop Bs_l1Cur_combatTable (.h3 R (i : Int) cur b3 b4 [6, 5, 4, 0, 7, 1, 2, 3] cols l) = some (t, cur') ∧ KD t ∧ Cu cur' (k + 200 * n + 8)
  | 0, i, cur, l, k, h, hi1, h1, h2, h3, hk => by
    have hRi : 6 ≤ (i : Int) ∧ (i : Int) ≤ 11 := by omega
    obtain ⟨v, c1, e1, hc1⟩ := cuOne h3 (by omega) 3
    rw [loop_eq]
    simp only [Bs_l1Cur_combatTable]
    rw [if_neg (by omega), e1, Option.bind_some]
    by_cases c : v = true
    · rw [if_pos c]
      obtain ⟨a, c2, e2, ha, hc2⟩ := cuPick hc1 (by omega) R
      have hx : l[a.toNat]? = some l[a.toNat] := List.getElem?_eq_getElem (by have := ha.2.1 (by omega); omega)
      have hlen := h2 _ (List.mem_of_getElem? hx)
      obtain ⟨b, c3, e3, hb, hc3⟩ := cuPick hc2 (by omega) (cols.length : Int)
      have hy : l[a.toNat][b.toNat]? = some l[a.toNat][b.toNat] := List.getElem?_eq_getElem (by have := hb.2.1 (by omega); omega)
      obtain ⟨d, c4, e4, hdc, hc4⟩ := cuPick hc3 (by omega) 8
      rw [e2, Option.bind_some, if_pos ha.1, hx, Option.bind_some, e3, Option.bind_some, e4, Option.bind_some, if_pos hb.1, hy, Option.bind_some]
      refine ⟨_, _, rfl, ⟨hc, by simp; omega, fun x hx => ?_⟩, hc4.mono (by omega) (by omega)⟩
      rcases List.mem_or_eq_of_mem_set hx with hx | hx
      · exact h2 x hx
      · rw [hx]; simpa using hlen
    · rw [if_neg c]
      exact ⟨_, _, rfl, ⟨hc, by simp only; omega, h2⟩, hc1.mono (by omega) (by omega)⟩
  | n + 1, i, cur, l, k, h, hi1, h1, h2, h3, hk => by
    rw [loop_eq]
    simp only [Bs_l1Cur_combatTable]
    rw [if_pos (by omega)]
    simp only [goOn]
    obtain ⟨cur', row, f1, f2, f3⟩ := tabRow4 (R := R) (b5 := b3) (b6 := b4) (cols := cols) (l10 := l) hR (i := (i : Int)) (by omega) (by omega) cols.length 0 cur [] k (by omega) rfl h3 (by omega)
    rw [show ((0 : Nat) : Int) = 0 from rfl] at f3
    rw [f3, loop_eq]
    simp only [Bs_l1Cur_combatTable]
    rw [if_neg (by omega), if_pos (by simp; omega), wsucc (by omega)]
    simp only [goOn]
    obtain ⟨t, c2, g1, g2, g3⟩ := tabRows (b3 := b3) (b4 := b4) hR hc n (i + 1) cur' (l ++ [row]) (k + 200) (by omega) (by omega) (by simp; omega) (fun x hx => by
      rcases List.mem_append.1 hx with hx | hx
      · exact h2 x hx
      · rw [List.mem_singleton.1 hx]; exact f1) (f2.mono (by omega) (by omega)) (by omega)
    exact ⟨t, c2, g1, g2, by rw [show k + 200 * ((n + 1 : Nat) : Int) + 8 = k + 200 + 200 * (n : Int) + 8 by omega]; exact g3⟩
theorem drawTab {c : Gs_l1Cur} {k : Int} (h : Cu c k) (hk : k + 3000 ≤ 1099511627776) : ∃ t c', Ds_l1Cur_combatTable c = some (t, c') ∧ KD t ∧ Cu c' (k + 3000) := by
  obtain ⟨a, c1, e1, ha, hc1⟩ := cuPick h (by omega) 4
  obtain ⟨b, c2, e2, hb, hc2⟩ := cuPick hc1 (by omega) 5
  obtain ⟨d, c3, e3, hdc, hc3⟩ := cuPick hc2 (by omega) 2
  have ha4 := ha.2.1 (by omega)
  have hb5 := hb.2.1 (by omega)
  have hd2 := hdc.2.1 (by omega)
  unfold Ds_l1Cur_combatTable
  rw [e1, Option.bind_some, e2, Option.bind_some]
  simp only
  obtain ⟨m, hm, hm1, hm2⟩ : ∃ m, Ds_l1Least (IntKind.wrap .i64 (a + (IntKind.wrap .i64 (1 + b)))) 8 = some m ∧ a + 1 ≤ m ∧ m ≤ 8 := by
    unfold Ds_l1Least
    rw [w64 (n := 1 + b) (by omega), w64 (by omega)]
    split
    · exact ⟨_, rfl, by omega, by omega⟩
    · exact ⟨_, rfl, by omega, by omega⟩
  rw [hm, Option.bind_some, if_pos ha.1, if_pos (by omega), if_pos (by simp; omega)]
  generalize hcs : List.take (m.toNat - a.toNat) (List.drop a.toNat [(Gi_Odds.mk 1 3), (Gi_Odds.mk 1 2), (Gi_Odds.mk 1 1), (Gi_Odds.mk 3 2), (Gi_Odds.mk 2 1), (Gi_Odds.mk 3 1), (Gi_Odds.mk 5 1), (Gi_Odds.mk 7 1)]) = cols
  have hc : 1 ≤ cols.length ∧ cols.length ≤ 100 := by
    rw [← hcs, List.length_take, List.length_drop]
    simp only [List.length_cons, List.length_nil]
    omega
  rw [if_pos (by omega), e3, Option.bind_some]
  simp only
  have hR : ∃ R, Ds_kRows (IntKind.wrap .i64 (1 + d)) = some R ∧ (R = 6 ∨ R = 11) := by
    unfold Ds_kRows
    rw [w64 (n := 1 + d) (by omega), w64 (n := 5 * (1 + d)) (by omega), w64 (by omega)]
    exact ⟨_, rfl, by omega⟩
  obtain ⟨R, eR, hR⟩ := hR
  rw [eR, Option.bind_some, loop_eq]
  simp only [Bs_l1Cur_combatTable]
  rw [if_pos (by omega)]
  simp only [goOn]
  obtain ⟨cur', row, f1, f2, f3⟩ := tabRow2 (R := R) (b5 := 0) (b6 := IntKind.wrap .i64 (1 + d)) (cols := cols) hR (i := 0) (by omega) (by omega) cols.length 0 c3 [] (k + 2 + 2 + 2) (by omega) rfl hc3 (by omega)
  rw [show ((0 : Nat) : Int) = 0 from rfl] at f3
  rw [f3, loop_eq]
  simp only [Bs_l1Cur_combatTable]
  rw [if_neg (by omega), if_pos (by simp), show IntKind.wrap .i64 (0 + 1) = ((1 : Nat) : Int) from by decide]
  simp only [goOn]
  obtain ⟨n, hn⟩ : ∃ n : Nat, ((1 : Nat) : Int) + n = R := ⟨(R - 1).toNat, by omega⟩
  obtain ⟨t, c4, g1, g2, g3⟩ := tabRows (b3 := 0) (b4 := IntKind.wrap .i64 (1 + d)) hR hc n 1 cur' [row] (k + 300) hn (by omega) rfl (fun x hx => by rw [List.mem_singleton.1 hx]; exact f1) (f2.mono (by omega) (by omega)) (by omega)
  exact ⟨t, c4, g1, g2, g3.mono (by omega) hk⟩
theorem drawAnyTab {c : Gs_l1Cur} {k : Int} (h : Cu c k) (hk : k + 3010 ≤ 1099511627776) : ∃ t c', Ds_l1Cur_anyCombatTable c = some (t, c') ∧ Cu c' (k + 3010) := by
  obtain ⟨t, c1, e1, ht, hc1⟩ := drawTab h (by omega)
  obtain ⟨v, c2, e2, hv, hc2⟩ := cuPick hc1 (by omega) 24
  have hcl := ht.cols
  have hrl := ht.rows
  unfold Ds_l1Cur_anyCombatTable
  rw [e1, Option.bind_some, e2, Option.bind_some]
  simp only
  by_cases a0 : v = 0
  · obtain ⟨x, c3, e3, _, hc3⟩ := cuAmong hc2 (by omega) [0, 20, 21, 1] (by decide)
    obtain ⟨y, c4, e4, _, hc4⟩ := cuAmong hc3 (by omega) [0, 20, 21, 1] (by decide)
    have hx : t.Columns[0]? = some t.Columns[0] := List.getElem?_eq_getElem (by omega)
    rw [if_pos a0, e3, Option.bind_some, e4, Option.bind_some, show Int.toNat 0 = 0 from rfl, hx, Option.bind_some]
    exact ⟨_, _, rfl, hc4.mono (by omega) hk⟩
  · rw [if_neg a0]
    by_cases a1 : v = 1
    · obtain ⟨x, c3, e3, _, hc3⟩ := cuAmong hc2 (by omega) [0, 1, 2, 3] (by decide)
      rw [if_pos a1, e3, Option.bind_some]
      exact ⟨_, _, rfl, hc3.mono (by omega) hk⟩
    · rw [if_neg a1]
      by_cases a2 : v = 2
      · obtain ⟨x, c3, e3, _, hc3⟩ := cuAmong hc2 (by omega) [(-1), 7, 8] (by decide)
        have hx : t.Results[0]? = some t.Results[0] := List.getElem?_eq_getElem (by omega)
        have hl := ht.row _ (List.mem_of_getElem? hx)
        have hy : t.Results[0][0]? = some t.Results[0][0] := List.getElem?_eq_getElem (by omega)
        rw [if_pos a2, show Int.toNat 0 = 0 from rfl, hx, Option.bind_some, e3, Option.bind_some, hy, Option.bind_some]
        exact ⟨_, _, rfl, hc3.mono (by omega) hk⟩
      · rw [if_neg a2]
        by_cases a3 : v = 3
        · have hx : t.Results[1]? = some t.Results[1] := List.getElem?_eq_getElem (by omega)
          have hl := ht.row _ (List.mem_of_getElem? hx)
          rw [if_pos a3, show Int.toNat 1 = 1 from rfl, hx, Option.bind_some, if_pos (by simp; omega), Option.bind_some]
          exact ⟨_, _, rfl, hc2.mono (by omega) hk⟩
        · rw [if_neg a3]
          by_cases a4 : v = 4
          · rw [if_pos a4, if_pos (by simp; omega)]
            exact ⟨_, _, rfl, hc2.mono (by omega) hk⟩
          · rw [if_neg a4]
            exact ⟨_, _, rfl, hc2.mono (by omega) hk⟩
theorem scoresLoop {t : Gi_CombatTable} (hg : kG t = true) (hm : kMono t = true) : ∀ (n k : Nat), k + n = t.Columns.length → 1 ≤ k → loop Bw_FnScores (.h2 (k : Int) t.Dice t.Columns t.Results) = some true
  | 0, k, h, h1 => by
    rw [loop_eq]
    simp only [Bw_FnScores]
    rw [if_neg (by omega)]
    rfl
  | n + 1, k, h, h1 => by
    have hc := (kG_KT hg).cols
    have ht := kG_KT hg
    have hrows : t.Results.length ≤ 11 := by have h1 := ht.rows; have h2 := ht.dice; omega
    obtain ⟨j, rfl⟩ : ∃ j, k = j + 1 := ⟨k - 1, by omega⟩
    have m1 : kMeanR t (j : Int) = ((meanF t.Dice j t.Results 0).1, (meanF t.Dice j t.Results 0).2, true) := by
      unfold kMeanR
      rw [if_pos (kAsk_iff.2 ⟨hg, by omega, by omega⟩), Int.toNat_natCast]
    have m2 : kMeanR t ((j + 1 : Nat) : Int) = ((meanF t.Dice (j + 1) t.Results 0).1, (meanF t.Dice (j + 1) t.Results 0).2, true) := by
      unfold kMeanR
      rw [if_pos (kAsk_iff.2 ⟨hg, by omega, by omega⟩), Int.toNat_natCast]
    have hup := meanF_up (d := t.Dice) (k := j) t.Results 0 (by omega) (kMono_col hg hm (by omega))
    rw [loop_eq]
    simp only [Bw_FnScores]
    rw [if_pos (by omega), wpred (by omega) (by omega), show j + 1 - 1 = j by omega, mean_i, Option.bind_some]
    simp only [m1, if_true]
    rw [mean_i, Option.bind_some]
    simp only [m2, if_true]
    rw [if_neg (by omega), wsucc (by omega)]
    exact scoresLoop hg hm n (j + 1 + 1) (by omega) (by omega)
theorem scoresEnd (t : Gi_CombatTable) : loop Bw_FnScores (.h1 (kMonoR t).1 (kMonoR t).2 t.Dice t.Columns t.Results) = some true := by
  unfold kMonoR
  by_cases c : kG t = true
  · rw [if_pos c]
    have hc := (kG_KT c).cols
    cases hm : kMono t with
    | false => rw [loop_eq]; rfl
    | true =>
      rw [loop_eq]
      simp only [Bw_FnScores, goOn]
      exact scoresLoop c hm (t.Columns.length - 1) 1 (by omega) (Nat.le_refl _)
  · rw [if_neg c, loop_eq]
    rfl
theorem lawScores (code more : List Int) (hc : code.length < 9223372036854775808) (hm : more.length < 9223372036854775808) (h1 : ∀ x ∈ code, 0 ≤ x ∧ x < 256) (h2 : ∀ x ∈ more, 0 ≤ x ∧ x < 256) : Dw_FnScores code more = some true := by
  unfold Dw_FnScores
  by_cases hb : IntKind.wrap .i64 ((code.length : Int) + (more.length : Int)) > 1048576
  · rw [if_pos hb]
  · rw [if_neg hb]
    obtain ⟨t, _, e1, _⟩ := drawAnyTab (cu1 h1 hc) (by omega)
    have d1 : Ds_DrawIsMonotone code = some t := by
      unfold Ds_DrawIsMonotone Ds_DrawIsCombatTable
      rw [e1]; rfl
    obtain ⟨u, c1, e2, hc1⟩ := drawAnyTab (cu1 h2 hm) (by omega)
    have d2 : ∃ x y, Ds_DrawShiftColumn more = some (u, x, y) := by
      obtain ⟨a, c2, f1, _, hc2⟩ := cuPick hc1 (by omega) 6
      obtain ⟨b, c3, f2, _, hc3⟩ := cuPick hc2 (by omega) 8
      obtain ⟨d, c4, f3, _, hc4⟩ := cuAmong hc3 (by omega) [0, 1, (-1), 3, (-3), 10, (-10), 11] (by decide)
      unfold Ds_DrawShiftColumn
      rw [e2, Option.bind_some, f1, Option.bind_some, f2, Option.bind_some, f3]
      exact ⟨_, _, rfl⟩
    have d3 : ∃ x y, Ds_DrawResultAt more = some (u, x, y) := by
      obtain ⟨a, c2, f1, _, hc2⟩ := cuPick hc1 (by omega) 14
      obtain ⟨b, c3, f2, _, hc3⟩ := cuPick hc2 (by omega) 5
      unfold Ds_DrawResultAt
      rw [e2, Option.bind_some, f1, Option.bind_some, f2]
      exact ⟨_, _, rfl⟩
    have d4 : ∃ x, Ds_DrawMeanScore more = some (u, x) := by
      obtain ⟨a, c2, f1, _, hc2⟩ := cuPick hc1 (by omega) 6
      obtain ⟨b, c3, f2, _, hc3⟩ := cuPick hc2 (by omega) 8
      unfold Ds_DrawMeanScore Ds_DrawCountResults
      rw [e2, Option.bind_some, f1, Option.bind_some, f2]
      exact ⟨_, rfl⟩
    obtain ⟨x2, y2, d2⟩ := d2
    obtain ⟨x3, y3, d3⟩ := d3
    obtain ⟨x4, d4⟩ := d4
    obtain ⟨r1, s1, s2⟩ := shift_both u x2 y2
    obtain ⟨r2, s3, s4, s5⟩ := result_both u x3 y3
    have he := scoresEnd t
    rw [d1, Option.bind_some, mono_i, Option.bind_some, mono_s, Option.bind_some, d2, Option.bind_some]
    simp only
    rw [s1, Option.bind_some, s2, Option.bind_some, d3, Option.bind_some]
    simp only
    rw [s3, Option.bind_some, s4, d4, Option.bind_some]
    simp only [Option.bind_some]
    rw [mean_i, mean_s]
    simp only [Option.bind_some, BEq.rfl, Bool.not_true, Bool.false_eq_true, if_false, if_true]
    by_cases c : r2.2 = true
    · have hb2 := s5 c
      have hk := kSc_b hb2
      rw [if_pos c, scoreOf_i hb2, c]
      simp only [Option.bind_some, BEq.rfl, Bool.not_true, Bool.false_eq_true, if_false, if_true]
      rw [if_neg (by omega), if_neg (by omega)]
      exact he
    · rw [if_neg c]
      simp only [Bool.not_eq_true] at c
      rw [c]
      simp only [BEq.rfl, Bool.not_true, Bool.false_eq_true, if_false]
      exact he

end Go.Proofs.Ytlniejjcejackaa.Ab
