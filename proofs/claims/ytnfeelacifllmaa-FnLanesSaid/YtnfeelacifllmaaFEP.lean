/- Part of the proof of FnLanes: no condition of its own. -/
import Derived.Test.YtnfeelacifllmaaFED
import Derived.Test.YtnfeelacifllmaaPuA
set_option linter.unusedVariables false
set_option linter.unusedSimpArgs false
open Go
namespace Go.Proofs.Ytnfeelacifllmaa.Ab
structure Cu (c : Gs_l1Cur) (k : Int) : Prop where
  at0 : 0 ≤ c.at_
  atk : c.at_ ≤ k
  kk : k ≤ 1099511627776
  code : ∀ x ∈ c.code, 0 ≤ x ∧ x < 256
  len : c.code.length < 9223372036854775808

theorem Cu.mono {c : Gs_l1Cur} {k k' : Int} (h : Cu c k) (hk : k ≤ k') (hb : k' ≤ 1099511627776) : Cu c k' := ⟨h.at0, by have := h.atk; omega, hb, h.code, h.len⟩

theorem and255 (x : Int) : 0 ≤ IntKind.wrap .i64 (IntKind.wrap .u64 ((BitVec.toNat (BitVec.ofInt (IntKind.bits .u64) x &&& BitVec.ofInt (IntKind.bits .u64) 255) : Nat) : Int)) ∧ IntKind.wrap .i64 (IntKind.wrap .u64 ((BitVec.toNat (BitVec.ofInt (IntKind.bits .u64) x &&& BitVec.ofInt (IntKind.bits .u64) 255) : Nat) : Int)) < 256 := by
  have h : (BitVec.ofInt (IntKind.bits .u64) x &&& BitVec.ofInt (IntKind.bits .u64) 255).toNat ≤ 255 := by
    rw [BitVec.toNat_and]
    have e : (BitVec.ofInt (IntKind.bits .u64) 255).toNat = 255 := by decide
    rw [e]
    exact Nat.and_le_right
  generalize (BitVec.ofInt (IntKind.bits .u64) x &&& BitVec.ofInt (IntKind.bits .u64) 255).toNat = n at h
  have h2 : IntKind.wrap .u64 (n : Int) = (n : Int) := by
    simp only [IntKind.wrap, IntKind.bits, IntKind.signed]
    simp
    omega
  rw [h2, w64 (by omega)]
  omega

theorem cuNext {c : Gs_l1Cur} {k : Int} (h : Cu c k) (hk : k + 1 ≤ 1099511627776) : ∃ v c', Ds_l1Cur_next c = some (v, c') ∧ (0 ≤ v ∧ v < 256) ∧ Cu c' (k + 1) := by
  have h0 := h.at0
  have h1 := h.atk
  have mk : ∀ s, Cu ⟨c.code, c.at_ + 1, s⟩ (k + 1) := fun s => ⟨by simp only; omega, by simp only; omega, hk, h.code, h.len⟩
  unfold Ds_l1Cur_next
  rw [w64 (n := c.at_ + 1) (by omega)]
  by_cases ha : c.at_ < (c.code.length : Int)
  · have hlt : c.at_.toNat < c.code.length := by omega
    have hx := List.getElem?_eq_getElem hlt
    have hv := h.code _ (List.mem_of_getElem? hx)
    rw [if_pos ha, if_pos h0, hx]
    simp only [Option.bind_some]
    split
    · exact ⟨_, _, rfl, by rw [w64 (by omega)]; exact hv, mk _⟩
    · exact ⟨_, _, rfl, and255 _, mk _⟩
  · rw [if_neg ha]
    split
    · exact ⟨_, _, rfl, by omega, mk _⟩
    · exact ⟨_, _, rfl, and255 _, mk _⟩

theorem cuPick {c : Gs_l1Cur} {k : Int} (h : Cu c k) (hk : k + 2 ≤ 1099511627776) (n : Int) : ∃ v c', Ds_l1Cur_pick c n = some (v, c') ∧ (0 ≤ v ∧ (1 ≤ n → v < n) ∧ v ≤ 65535) ∧ Cu c' (k + 2) := by
  unfold Ds_l1Cur_pick
  by_cases h1 : n ≤ 1
  · rw [if_pos h1]
    exact ⟨_, _, rfl, by omega, h.mono (by omega) hk⟩
  · rw [if_neg h1]
    obtain ⟨v, c1, e1, hv, hc1⟩ := cuNext h (by omega)
    rw [e1]
    simp only [Option.bind_some]
    by_cases h2 : n > 200
    · rw [if_pos h2]
      obtain ⟨u, c2, e2, hu, hc2⟩ := cuNext hc1 (by omega)
      rw [e2]
      simp only [Option.bind_some]
      rw [if_pos (by omega), w64 (n := v * 256) (by omega), w64 (by omega)]
      have a1 := Int.tmod_nonneg n (show 0 ≤ v * 256 + u by omega)
      have a2 := Int.tmod_lt_of_pos (v * 256 + u) (show 0 < n by omega)
      have a3 : Int.tmod (v * 256 + u) n ≤ v * 256 + u := by
        have b1 := Int.mul_tdiv_add_tmod (v * 256 + u) n
        have b2 := Int.mul_nonneg (show 0 ≤ n by omega) (Int.tdiv_nonneg (show 0 ≤ v * 256 + u by omega) (show 0 ≤ n by omega))
        omega
      exact ⟨_, _, rfl, ⟨a1, fun _ => a2, by omega⟩, by have := hc2; rw [Int.add_assoc] at this; exact this⟩
    · rw [if_neg h2, if_pos (by omega)]
      have a1 := Int.tmod_nonneg n hv.1
      have a2 := Int.tmod_lt_of_pos v (show 0 < n by omega)
      exact ⟨_, _, rfl, ⟨a1, fun _ => a2, by omega⟩, hc1.mono (by omega) hk⟩

theorem cuOne {c : Gs_l1Cur} {k : Int} (h : Cu c k) (hk : k + 2 ≤ 1099511627776) (n : Int) : ∃ v c', Ds_l1Cur_one c n = some (v, c') ∧ Cu c' (k + 2) := by
  obtain ⟨v, c1, e1, _, hc1⟩ := cuPick h hk n
  unfold Ds_l1Cur_one
  rw [e1]
  exact ⟨_, _, rfl, hc1⟩

theorem cuAmong {c : Gs_l1Cur} {k : Int} (h : Cu c k) (hk : k + 2 ≤ 1099511627776) (l : List Int) (hl : 0 < l.length) : ∃ v c', Ds_l1Cur_among c l = some (v, c') ∧ v ∈ l ∧ Cu c' (k + 2) := by
  obtain ⟨v, c1, e1, hv, hc1⟩ := cuPick h hk l.length
  unfold Ds_l1Cur_among
  rw [e1]
  have hlt : v.toNat < l.length := by have := hv.2.1 (by omega); omega
  have hx := List.getElem?_eq_getElem hlt
  simp only [Option.bind_some]
  rw [if_pos hv.1, hx]
  exact ⟨_, _, rfl, List.mem_of_getElem? hx, hc1⟩

theorem cu1 {code : List Int} (h : ∀ x ∈ code, 0 ≤ x ∧ x < 256) (hl : code.length < 9223372036854775808) : Cu ⟨code, 0, 0⟩ 0 := ⟨Int.le_refl _, Int.le_refl _, by decide, h, hl⟩

theorem eSameInts (l : List Int) (hl : l.length ≤ 1048577) : Dw_sameInts l l = some true := by
  unfold Dw_sameInts
  rw [if_pos rfl]
  refine true_loop (S := fun i => Sw_sameInts.h1 l l (l.length : Int) (i : Int)) (n := l.length) (fun i hi => ?_) ?_
  · simp [Bw_sameInts, hi, wsucc (show i < 9223372036854775807 by omega)]
  · simp [Bw_sameInts]

def rsB (l : List Int) : Nat → Nat → Bool
  | 0, _ => true
  | n + 1, i => (match l[i - 1]?, l[i]? with
    | some x, some y => decide (x < y)
    | _, _ => true) && rsB l n (i + 1)
def rising (l : List Int) : Bool := rsB l (l.length - 1) 1
theorem incr_i {l : List Int} (hl : l.length ≤ 2000000) : ∀ (n i : Nat), 1 ≤ i → (i + n = l.length ∨ n = 0 ∧ l.length ≤ i ∧ i ≤ 1) → loop Bi_increasing (.h1 l (i : Int)) = some (rsB l n i)
  | 0, i, h1, h => by
    rw [loop_eq]
    simp only [Bi_increasing]
    rw [if_neg (by omega)]
    rfl
  | n + 1, i, h1, h => by
    have hx : l[i - 1]? = some l[i - 1] := List.getElem?_eq_getElem (by omega)
    have hy : l[i]? = some l[i] := List.getElem?_eq_getElem (by omega)
    have ih := incr_i hl n (i + 1) (by omega) (by omega)
    have e : IntKind.wrap .i64 ((i : Int) - 1) = ((i - 1 : Nat) : Int) := by rw [w64 (by omega)]; omega
    rw [loop_eq]
    simp only [Bi_increasing, rsB, e, Int.toNat_natCast, hx, hy, Option.bind_some]
    rw [if_pos (by omega), if_pos (by omega), if_pos (by omega), wsucc (by omega)]
    by_cases c : l[i - 1] < l[i]
    · rw [if_neg (by omega), decide_eq_true c, Bool.true_and]
      exact ih
    · rw [if_pos (by omega), decide_eq_false c, Bool.false_and]
      rfl
theorem increasing_i {l : List Int} (hl : l.length ≤ 2000000) : Di_increasing l = some (rising l) := incr_i hl (l.length - 1) 1 (Nat.le_refl _) (by omega)
def hasB (l : List Int) (e : Int) : Bool := l.any fun x => decide (x = e)
theorem has_i {l : List Int} {e : Int} (hl : l.length ≤ 2000000) : ∀ (n i : Nat), i + n = l.length → ∃ r, loop Bslices_Index_int (.h1 l e (l.length : Int) (i : Int)) = some r ∧ decide (r ≥ 0) = hasB (l.drop i) e
  | 0, i, h => by
    rw [loop_eq, List.drop_of_length_le (by omega)]
    simp only [Bslices_Index_int]
    rw [if_neg (by omega)]
    exact ⟨-1, rfl, rfl⟩
  | n + 1, i, h => by
    have hx : l[i]? = some l[i] := List.getElem?_eq_getElem (by omega)
    obtain ⟨r, e1, e2⟩ := has_i hl (e := e) n (i + 1) (by omega)
    rw [loop_eq, List.drop_eq_getElem_cons (by omega)]
    simp only [Bslices_Index_int, hasB, List.any_cons]
    rw [if_pos (by omega), if_pos (by omega), Int.toNat_natCast, hx, Option.bind_some, wsucc (by omega)]
    by_cases c : e = l[i]
    · rw [if_pos c, decide_eq_true c.symm, Bool.true_or]
      exact ⟨_, rfl, by simp⟩
    · rw [if_neg c, decide_eq_false (fun h => c h.symm), Bool.false_or]
      exact ⟨r, e1, e2⟩
theorem contains_i {l : List Int} {e : Int} (hl : l.length ≤ 2000000) : Dslices_Contains_int l e = some (hasB l e) := by
  obtain ⟨r, e1, e2⟩ := has_i hl (e := e) l.length 0 (by omega)
  unfold Dslices_Contains_int
  rw [show Dslices_Index_int l e = some r from e1, Option.bind_some, e2, List.drop_zero]
theorem has_s' {l : List Int} {e : Int} (hl : l.length ≤ 2000000) : ∀ (n i : Nat), i + n = l.length → loop Bs_l1Has (.h1 e l (l.length : Int) (i : Int)) = some (hasB (l.drop i) e)
  | 0, i, h => by
    rw [loop_eq, List.drop_of_length_le (by omega)]
    simp only [Bs_l1Has]
    rw [if_neg (by omega)]
    rfl
  | n + 1, i, h => by
    have hx : l[i]? = some l[i] := List.getElem?_eq_getElem (by omega)
    have ih := has_s' hl (e := e) n (i + 1) (by omega)
    rw [loop_eq, List.drop_eq_getElem_cons (by omega)]
    simp only [Bs_l1Has, hasB, List.any_cons]
    rw [if_pos (by omega), if_pos (by omega), Int.toNat_natCast, hx, Option.bind_some, wsucc (by omega)]
    by_cases c : l[i] = e
    · rw [if_pos c, decide_eq_true c, Bool.true_or]
      rfl
    · rw [if_neg c, decide_eq_false c, Bool.false_or]
      exact ih
theorem has_s {l : List Int} {e : Int} (hl : l.length ≤ 2000000) : Ds_l1Has l e = some (hasB l e) := by
  have := has_s' hl (e := e) l.length 0 (by omega)
  rw [List.drop_zero] at this
  exact this
def kIn (x lo hi : Int) : Bool := decide (lo ≤ x) && decide (x ≤ hi)
theorem kIn_iff {x lo hi : Int} : kIn x lo hi = true ↔ lo ≤ x ∧ x ≤ hi := by simp [kIn]
theorem kin_i (x lo hi : Int) : Di_inRange x lo hi = some (kIn x lo hi) := by
  unfold Di_inRange kIn
  by_cases c : lo ≤ x <;> simp [c]
theorem kin_s (x lo hi : Int) : Ds_l1In x lo hi = some (kIn x lo hi) := by
  unfold Ds_l1In kIn
  by_cases c : lo ≤ x
  · rw [if_pos c]; simp [c]
  · rw [if_neg c]; simp [c]
theorem ifB (b : Bool) : (if b = true then some true else some false) = some b := by cases b <;> rfl
theorem ifNB (b : Bool) : (if b = true then some false else some true) = some (!b) := by cases b <;> rfl

theorem all_goL {σ α ρ : Type} {L : σ → Option ρ} {S : Nat → σ} {l : List α} {q : Nat → α → Bool} {f : ρ} {r : Option ρ}
    (hs : ∀ i x, l[i]? = some x → i < l.length → (∀ j y, j < i → l[j]? = some y → q j y = true) → L (S i) = if q i x = true then L (S (i + 1)) else some f)
    (he : (∀ j y, l[j]? = some y → q j y = true) → L (S l.length) = r) : L (S 0) = if alli q l = true then r else some f := by
  have key : ∀ (k i : Nat), i + k = l.length → (∀ j x, j < i → l[j]? = some x → q j x = true) → L (S i) = if alli q l = true then r else some f := by
    intro k
    induction k with
    | zero =>
      intro i h hb
      have : i = l.length := by omega
      subst this
      have hall : ∀ j y, l[j]? = some y → q j y = true := fun j x hj => hb j x (List.getElem?_eq_some_iff.1 hj).1 hj
      rw [he hall, if_pos (alli_iff.2 hall)]
    | succ k ih =>
      intro i h hb
      have hlt : i < l.length := by omega
      have hx := List.getElem?_eq_getElem hlt
      rw [hs i l[i] hx hlt hb]
      by_cases hp : q i l[i] = true
      · rw [if_pos hp]
        refine ih (i + 1) (by omega) fun j x hj hx' => ?_
        by_cases hji : j = i
        · subst hji
          rw [hx] at hx'
          cases hx'
          exact hp
        · exact hb j x (by omega) hx'
      · rw [if_neg hp, if_neg fun h => hp (alli_iff.1 h i _ hx)]
  exact key l.length 0 (by omega) fun j x h => by omega

theorem l1All_s {l : List Int} (hl : l.length ≤ 2000000) (lo hi : Int) : Ds_l1All l lo hi = some (alli (fun _ x => kIn x lo hi) l) := by
  rw [← ifB]
  exact all_goL (L := loop Bs_l1All) (S := fun i => .h1 lo hi l (l.length : Int) (i : Int)) (fun i x hx hlt _ => by
    rw [loop_eq]
    simp only [Bs_l1All]
    rw [if_pos (by omega), if_pos (by omega), Int.toNat_natCast, hx, Option.bind_some, kin_s, Option.bind_some, wsucc (by omega)]
    by_cases c : kIn x lo hi = true
    · rw [if_pos c, if_pos c]; rfl
    · rw [if_neg c, if_neg c]; rfl) fun _ => by
    rw [loop_eq]
    simp only [Bs_l1All]
    rw [if_neg (by omega)]
    rfl
theorem wpred {i : Nat} (h : i < 9223372036854775807) (h0 : 0 < i) : IntKind.wrap .i64 ((i : Int) - 1) = ((i - 1 : Nat) : Int) := by rw [w64 (by omega)]; omega
def Ok {α : Type} (o : Option α) (Q : α → Prop) : Prop := ∃ a, o = some a ∧ Q a
theorem Ok.ret {α : Type} {a : α} {Q : α → Prop} (h : Q a) : Ok (some a) Q := ⟨a, rfl, h⟩
theorem Ok.mono {α : Type} {o : Option α} {P Q : α → Prop} (h : Ok o P) (k : ∀ a, P a → Q a) : Ok o Q := by
  obtain ⟨a, e, h⟩ := h
  exact ⟨a, e, k a h⟩
theorem Ok.bind {α β : Type} {o : Option α} {f : α → Option β} {P : α → Prop} {Q : β → Prop} (h : Ok o P) (k : ∀ a, P a → Ok (f a) Q) : Ok (Option.bind o f) Q := by
  obtain ⟨a, rfl, h⟩ := h
  exact k a h
theorem Ok.ite {α : Type} {c : Prop} [Decidable c] {a b : Option α} {Q : α → Prop} (h1 : c → Ok a Q) (h2 : ¬ c → Ok b Q) : Ok (if c then a else b) Q := by
  by_cases h : c
  · rw [if_pos h]; exact h1 h
  · rw [if_neg h]; exact h2 h
theorem Ok.chk {α : Type} {c : Prop} [Decidable c] {a b : Option α} {Q : α → Prop} (h : c) (h1 : Ok a Q) : Ok (if c then a else b) Q := by
  rw [if_pos h]; exact h1
theorem Ok.els {α : Type} {c : Prop} [Decidable c] {a b : Option α} {Q : α → Prop} (h : ¬ c) (h1 : Ok b Q) : Ok (if c then a else b) Q := by
  rw [if_neg h]; exact h1
theorem Ok.get {α β : Type} {l : List α} {i : Nat} {f : α → Option β} {Q : β → Prop} (h : i < l.length) (k : ∀ x, l[i]? = some x → x ∈ l → Ok (f x) Q) : Ok (Option.bind l[i]? f) Q := by
  have e := List.getElem?_eq_getElem h
  rw [e]
  exact k _ e (List.mem_of_getElem? e)
theorem Ok.eq {α β : Type} {o : Option α} {a : α} {f : α → Option β} {Q : β → Prop} (e : o = some a) (k : Ok (f a) Q) : Ok (Option.bind o f) Q := by
  rw [e]; exact k
theorem Ok.loop {σ ρ : Type} {B : σ → Option (σ ⊕ ρ)} {Q : ρ → Prop} (I : σ → Prop) (m : σ → Nat) (hs : ∀ s, I s → Ok (B s) fun o => match o with | .inl s' => I s' ∧ m s' < m s | .inr r => Q r) : ∀ {s}, I s → Ok (loop B s) Q := by
  have key : ∀ n s, m s < n → I s → Ok (Ab.loop B s) Q := by
    intro n
    induction n with
    | zero => intro s h; omega
    | succ n ih =>
      intro s hn hI
      obtain ⟨o, e, h⟩ := hs s hI
      rw [loop_eq, e]
      cases o with
      | inl s' => exact ih s' (by omega) h.1
      | inr r => exact ⟨r, rfl, h⟩
  intro s h
  exact key _ s (Nat.lt_succ_self _) h

theorem ltc {i n : Nat} (h : i < n) : ((i : Int) < (n : Int)) = True := by simp [h]
theorem nltc (n : Nat) : ((n : Int) < (n : Int)) = False := by simp
theorem nnc (i : Nat) : ((0 : Int) ≤ (i : Int)) = True := by simp

theorem isIndex_i {x n : Int} (h : -1000000000 ≤ n ∧ n ≤ 1000000000) : Di_isIndex x n = some (kIn x 0 (n - 1)) := by
  unfold Di_isIndex
  rw [w64 (by omega), kin_i]
  rfl
theorem okPick {c : Gs_l1Cur} {k : Int} (h : Cu c k) (hk : k + 2 ≤ 1099511627776) (n : Int) : Ok (Ds_l1Cur_pick c n) fun r => (0 ≤ r.1 ∧ (1 ≤ n → r.1 < n) ∧ r.1 ≤ 65535) ∧ Cu r.2 (k + 2) := by
  obtain ⟨v, c', e, h1, h2⟩ := cuPick h hk n
  exact ⟨_, e, h1, h2⟩
theorem okOne {c : Gs_l1Cur} {k : Int} (h : Cu c k) (hk : k + 2 ≤ 1099511627776) (n : Int) : Ok (Ds_l1Cur_one c n) fun r => Cu r.2 (k + 2) := by
  obtain ⟨v, c', e, h2⟩ := cuOne h hk n
  exact ⟨_, e, h2⟩
theorem okAmong {c : Gs_l1Cur} {k : Int} (h : Cu c k) (hk : k + 2 ≤ 1099511627776) (l : List Int) (hl : 0 < l.length) : Ok (Ds_l1Cur_among c l) fun r => r.1 ∈ l ∧ Cu r.2 (k + 2) := by
  obtain ⟨v, c', e, h1, h2⟩ := cuAmong h hk l hl
  exact ⟨_, e, h1, h2⟩
theorem rsB_iff {l : List Int} : ∀ (n i : Nat), 1 ≤ i → (rsB l n i = true ↔ ∀ j x y, i ≤ j → j < i + n → l[j - 1]? = some x → l[j]? = some y → x < y)
  | 0, i, _ => by
    simp only [rsB, true_iff]
    intro j x y h1 h2
    omega
  | n + 1, i, h => by
    rw [rsB, Bool.and_eq_true, rsB_iff n (i + 1) (by omega)]
    constructor
    · rintro ⟨h1, h2⟩ j x y hj1 hj2 hx hy
      by_cases e : j = i
      · subst e
        rw [hx, hy] at h1
        simpa using h1
      · exact h2 j x y (by omega) (by omega) hx hy
    · intro k
      refine ⟨?_, fun j x y hj1 hj2 => k j x y (by omega) (by omega)⟩
      cases hx : l[i - 1]? with
      | none => rfl
      | some x =>
        cases hy : l[i]? with
        | none => rfl
        | some y => simpa using k i x y (Nat.le_refl _) (by omega) hx hy
theorem rising_iff {l : List Int} : rising l = true ↔ ∀ j x y, 1 ≤ j → l[j - 1]? = some x → l[j]? = some y → x < y := by
  unfold rising
  rw [rsB_iff _ _ (Nat.le_refl _)]
  constructor
  · intro k j x y h1 hx hy
    have := (List.getElem?_eq_some_iff.1 hy).1
    exact k j x y h1 (by omega) hx hy
  · intro k j x y h1 _ hx hy
    exact k j x y h1 hx hy
theorem rise_g {l : List Int} (hl : l.length ≤ 2000000) (lo hi : Int) : Ds_l1Rising l lo hi = some (rising l && alli (fun _ x => kIn x lo hi) l) := by
  have key := all_goL (L := loop Bs_l1Rising) (S := fun i => .h1 l lo hi l (l.length : Int) (i : Int)) (l := l) (q := fun i x => kIn x lo hi && (decide (i = 0) || match l[i - 1]? with | some p => decide (p < x) | none => false)) (f := false) (r := some true) (fun i x hx hi' _ => by
      rw [loop_eq]
      simp only [Bs_l1Rising, ltc hi', nnc, if_true, Int.toNat_natCast, hx, Option.bind_some, kin_s, wsucc (show i < 9223372036854775807 by omega)]
      have b1 := Bool.eq_false_or_eq_true (kIn x lo hi)
      rcases b1 with b1 | b1
      · rcases Nat.eq_zero_or_pos i with z | z
        · subst z
          simp [b1, goOn]
        · have hp : l[i - 1]? = some l[i - 1] := List.getElem?_eq_getElem (by omega)
          rw [wpred (by omega) z, Int.toNat_natCast, hp, if_pos (show (i : Int) > 0 by omega), if_pos (show (0 : Int) ≤ ((i - 1 : Nat) : Int) by omega)]
          by_cases c : l[i - 1] ≥ x
          · have : ¬ l[i - 1] < x := by omega
            simp [b1, c, this, goOn, show i ≠ 0 by omega]
          · have : l[i - 1] < x := by omega
            simp [b1, c, this, goOn]
      · simp [b1, goOn]) fun _ => by
      rw [loop_eq]
      simp only [Bs_l1Rising, nltc, if_false, goOn]
  unfold Ds_l1Rising
  refine key.trans ?_
  rw [ifB, Option.some.injEq, Bool.eq_iff_iff, alli_iff, Bool.and_eq_true, rising_iff, alli_iff]
  constructor
  · intro k
    refine ⟨fun j x y h1 hx hy => ?_, fun i x hx => ?_⟩
    · have := k j y hy
      simp only [Bool.and_eq_true, Bool.or_eq_true, decide_eq_true_eq, hx] at this
      rcases this.2 with e | e
      · omega
      · exact e
    · have := k i x hx
      simp only [Bool.and_eq_true] at this
      exact this.1
  · rintro ⟨k1, k2⟩ i x hx
    rw [Bool.and_eq_true]
    refine ⟨k2 i x hx, ?_⟩
    rcases Nat.eq_zero_or_pos i with z | z
    · simp [z]
    · have hlt := (List.getElem?_eq_some_iff.1 hx).1
      have hp : l[i - 1]? = some l[i - 1] := List.getElem?_eq_getElem (by omega)
      rw [hp]
      simp [k1 i _ x z hp hx]
theorem Ok.isTrue {o : Option Bool} (h : Ok o fun r => r = true) : o = some true := by
  obtain ⟨a, e, rfl⟩ := h
  exact e
theorem Ok.is {α : Type} {o : Option α} {a : α} (h : Ok o fun r => r = a) : o = some a := by
  obtain ⟨a, e, rfl⟩ := h
  exact e
theorem hasB_iff {l : List Int} {e : Int} : hasB l e = true ↔ e ∈ l := by
  unfold hasB
  rw [List.any_eq_true]
  constructor
  · rintro ⟨x, hx, h⟩; rw [← of_decide_eq_true h]; exact hx
  · intro h; exact ⟨e, h, decide_eq_true rfl⟩
theorem Ok.and' {α : Type} {o : Option α} {P Q : α → Prop} (h : Ok o P) (g : Ok o Q) : Ok o fun a => P a ∧ Q a := by
  obtain ⟨a, e, p⟩ := h
  obtain ⟨a', e', q⟩ := g
  rw [e] at e'
  cases e'
  exact ⟨a, e, p, q⟩
def lsm {ι : Type} (g : ι → Int) : List ι → Int
  | [] => 0
  | i :: l => g i + lsm g l
theorem lsm_app {ι : Type} (g : ι → Int) : ∀ a b : List ι, lsm g (a ++ b) = lsm g a + lsm g b
  | [], b => by simp [lsm]
  | i :: a, b => by simp only [List.cons_append, lsm, lsm_app g a b]; omega
theorem lsm_congr {ι : Type} {g h : ι → Int} : ∀ {l : List ι}, (∀ i ∈ l, g i = h i) → lsm g l = lsm h l
  | [], _ => rfl
  | i :: l, H => by
    simp only [lsm]
    rw [H i (List.mem_cons_self ..), lsm_congr fun j hj => H j (List.mem_cons_of_mem _ hj)]
theorem lsm_le {ι : Type} {g h : ι → Int} : ∀ {l : List ι}, (∀ i ∈ l, g i ≤ h i) → lsm g l ≤ lsm h l
  | [], _ => by simp [lsm]
  | i :: l, H => by
    simp only [lsm]
    have := H i (List.mem_cons_self ..)
    have := lsm_le (g := g) (h := h) (l := l) fun j hj => H j (List.mem_cons_of_mem _ hj)
    omega
theorem lsm_add {ι : Type} (g h : ι → Int) : ∀ l : List ι, lsm (fun i => g i + h i) l = lsm g l + lsm h l
  | [] => by simp [lsm]
  | i :: l => by simp only [lsm, lsm_add g h l]; omega
theorem lsm_sub {ι : Type} (g h : ι → Int) : ∀ l : List ι, lsm (fun i => g i - h i) l = lsm g l - lsm h l
  | [] => by simp [lsm]
  | i :: l => by simp only [lsm, lsm_sub g h l]; omega
theorem lsm_zero {ι : Type} {g : ι → Int} {l : List ι} (H : ∀ i ∈ l, g i = 0) : lsm g l = 0 := by
  rw [lsm_congr (h := fun _ => 0) H]
  clear H
  induction l with
  | nil => rfl
  | cons i l ih => simp [lsm, ih]
theorem lsm_nn {ι : Type} {g : ι → Int} {l : List ι} (H : ∀ i ∈ l, 0 ≤ g i) : 0 ≤ lsm g l := by
  have := lsm_le (g := fun _ => 0) (h := g) H
  rw [lsm_zero fun _ _ => rfl] at this
  exact this
theorem lsm_nn_mem {ι : Type} {g : ι → Int} : ∀ {l : List ι}, (∀ i ∈ l, 0 ≤ g i) → ∀ i ∈ l, g i ≤ lsm g l
  | j :: l, H, i, hi => by
    simp only [lsm]
    have h0 := H j (List.mem_cons_self ..)
    have h1 := lsm_nn (g := g) (l := l) fun k hk => H k (List.mem_cons_of_mem _ hk)
    rcases List.mem_cons.1 hi with e | hi
    · rw [e]; omega
    · have := lsm_nn_mem (g := g) (l := l) (fun k hk => H k (List.mem_cons_of_mem _ hk)) i hi
      omega
theorem lsm_swap {ι κ : Type} (g : ι → κ → Int) (b : List κ) : ∀ a : List ι, lsm (fun i => lsm (g i) b) a = lsm (fun j => lsm (fun i => g i j) a) b
  | [] => by simp only [lsm]; rw [lsm_zero]; intros; rfl
  | i :: a => by
    simp only [lsm]
    rw [lsm_swap g b a, ← lsm_add]
theorem lsm_one {ι : Type} [DecidableEq ι] {g : ι → Int} {k : ι} : ∀ {l : List ι}, l.Nodup → (∀ i ∈ l, i ≠ k → g i = 0) → lsm g l = if k ∈ l then g k else 0
  | [], _, _ => by simp [lsm]
  | i :: l, hn, H => by
    rw [List.nodup_cons] at hn
    simp only [lsm]
    by_cases e : i = k
    · subst e
      rw [lsm_zero fun j hj => H j (List.mem_cons_of_mem _ hj) fun e => hn.1 (e ▸ hj), if_pos (List.mem_cons_self ..)]
      omega
    · rw [H i (List.mem_cons_self ..) e, lsm_one hn.2 fun j hj => H j (List.mem_cons_of_mem _ hj)]
      by_cases hk : k ∈ l
      · rw [if_pos hk, if_pos (List.mem_cons_of_mem _ hk)]; omega
      · rw [if_neg hk, if_neg (by simp [hk]; exact fun h => e h.symm)]; omega
theorem lsm_map {ι κ : Type} (g : κ → Int) (f : ι → κ) : ∀ l : List ι, lsm g (l.map f) = lsm (fun i => g (f i)) l
  | [] => rfl
  | i :: l => by simp only [List.map_cons, lsm, lsm_map g f l]
structure Nt (ι : Type) where
  I : List ι
  fr : ι → Nat
  tt : ι → Nat
  mo : ι → Int
  n : Nat
def exf {ι : Type} (N : Nt ι) (f : ι → Int) (v : Nat) : Int := lsm (fun i => (if N.tt i = v then f i else 0) - (if N.fr i = v then f i else 0)) N.I
def netf {ι : Type} (N : Nt ι) (f : ι → Int) (S : Nat → Bool) : Int := lsm (fun i => (if S (N.tt i) = true then f i else 0) - (if S (N.fr i) = true then f i else 0)) N.I
def capf {ι : Type} (N : Nt ι) (S : Nat → Bool) : Int := lsm (fun i => if S (N.fr i) = true ∧ S (N.tt i) = false then N.mo i else 0) N.I
structure Nt.Ok {ι : Type} (N : Nt ι) : Prop where
  ndp : N.I.Nodup
  fr : ∀ i ∈ N.I, N.fr i < N.n
  tt : ∀ i ∈ N.I, N.tt i < N.n
  ne : ∀ i ∈ N.I, N.fr i ≠ N.tt i
theorem cut_sum {ι : Type} {N : Nt ι} (h : N.Ok) (f : ι → Int) (S : Nat → Bool) : lsm (fun v => if S v = true then exf N f v else 0) (List.range N.n) = netf N f S := by
  have e : lsm (fun v => if S v = true then exf N f v else 0) (List.range N.n) = lsm (fun v => lsm (fun i => if S v = true then (if N.tt i = v then f i else 0) - (if N.fr i = v then f i else 0) else 0) N.I) (List.range N.n) := lsm_congr fun v _ => by
    by_cases c : S v = true
    · rw [if_pos c]; unfold exf; exact lsm_congr fun i _ => by rw [if_pos c]
    · rw [if_neg c, lsm_zero fun i _ => if_neg c]
  rw [e, lsm_swap]
  refine lsm_congr fun i hi => ?_
  have e1 : ∀ (k : Nat), k < N.n → lsm (fun v => if S v = true then (if k = v then f i else 0) else 0) (List.range N.n) = if S k = true then f i else 0 := fun k hk => by
    rw [lsm_one (k := k) List.nodup_range fun v _ hv => by
      by_cases c : S v = true
      · rw [if_pos c, if_neg (Ne.symm hv)]
      · rw [if_neg c]]
    rw [if_pos (List.mem_range.2 hk), if_pos rfl]
  rw [← e1 _ (h.tt i hi), ← e1 _ (h.fr i hi), ← lsm_sub]
  refine lsm_congr fun v _ => ?_
  by_cases c : S v = true <;> simp [c]
structure IsFl {ι : Type} (N : Nt ι) (s t : Nat) (F : Int) (f : ι → Int) : Prop where
  b : ∀ i ∈ N.I, 0 ≤ f i ∧ f i ≤ N.mo i
  ex : ∀ v, v < N.n → exf N f v = (if t = v then F else 0) - (if s = v then F else 0)
theorem IsFl.net {ι : Type} {N : Nt ι} (h : N.Ok) {s t : Nat} {F : Int} {f : ι → Int} (H : IsFl N s t F f) (hs : s < N.n) (ht : t < N.n) (S : Nat → Bool) :
    netf N f S = (if S t = true then F else 0) - (if S s = true then F else 0) := by
  rw [← cut_sum h]
  have e : lsm (fun v => if S v = true then exf N f v else 0) (List.range N.n) = lsm (fun v => (if t = v then (if S v = true then F else 0) else 0) - (if s = v then (if S v = true then F else 0) else 0)) (List.range N.n) := lsm_congr fun v hv => by
    rw [H.ex v (List.mem_range.1 hv)]
    by_cases c : S v = true <;> by_cases c1 : t = v <;> by_cases c2 : s = v <;> simp [c, c1, c2]
  rw [e, lsm_sub]
  congr 1
  · rw [lsm_one (k := t) List.nodup_range fun v _ hv => if_neg (Ne.symm hv), if_pos (List.mem_range.2 ht), if_pos rfl]
  · rw [lsm_one (k := s) List.nodup_range fun v _ hv => if_neg (Ne.symm hv), if_pos (List.mem_range.2 hs), if_pos rfl]
theorem IsFl.le_cap {ι : Type} {N : Nt ι} (h : N.Ok) {s t : Nat} {F : Int} {f : ι → Int} (H : IsFl N s t F f) (hs : s < N.n) (ht : t < N.n) {S : Nat → Bool} (h1 : S s = true) (h2 : S t = false) : F ≤ capf N S := by
  have e := H.net h hs ht S
  rw [h1, h2] at e
  simp only [Bool.false_eq_true, if_false, if_true] at e
  have : lsm (fun i => (if S (N.fr i) = true then f i else 0) - (if S (N.tt i) = true then f i else 0)) N.I ≤ capf N S := lsm_le fun i hi => by
    have := H.b i hi
    cases hf : S (N.fr i) <;> cases ht : S (N.tt i) <;> simp <;> omega
  have e2 : lsm (fun i => (if S (N.fr i) = true then f i else 0) - (if S (N.tt i) = true then f i else 0)) N.I = - netf N f S := by
    unfold netf
    rw [lsm_sub, lsm_sub]
    omega
  omega
structure Shut {ι : Type} (N : Nt ι) (f : ι → Int) (fz : ι → Bool) (S : Nat → Bool) : Prop where
  up : ∀ i ∈ N.I, fz i = false → S (N.fr i) = true → S (N.tt i) = false → f i = N.mo i
  dn : ∀ i ∈ N.I, fz i = false → S (N.tt i) = true → S (N.fr i) = false → f i = 0
theorem IsFl.eq_cap {ι : Type} {N : Nt ι} (h : N.Ok) {s t : Nat} {F : Int} {f : ι → Int} (H : IsFl N s t F f) (hs : s < N.n) (ht : t < N.n) {S : Nat → Bool} (h1 : S s = true) (h2 : S t = false) (hS : Shut N f (fun _ => false) S) : F = capf N S := by
  have e := H.net h hs ht S
  rw [h1, h2] at e
  simp only [Bool.false_eq_true, if_false, if_true] at e
  have e1 : lsm (fun i => (if S (N.fr i) = true then f i else 0) - (if S (N.tt i) = true then f i else 0)) N.I = capf N S := lsm_congr fun i hi => by
    have a1 := hS.up i hi rfl
    have a2 := hS.dn i hi rfl
    cases hf : S (N.fr i) <;> cases ht : S (N.tt i) <;> simp [hf, ht] at a1 a2 ⊢ <;> omega
  have e2 : lsm (fun i => (if S (N.fr i) = true then f i else 0) - (if S (N.tt i) = true then f i else 0)) N.I = - netf N f S := by
    unfold netf
    rw [lsm_sub, lsm_sub]
    omega
  omega
theorem IsFl.shut {ι : Type} {N : Nt ι} (h : N.Ok) {s t : Nat} {F : Int} {f : ι → Int} (H : IsFl N s t F f) (hs : s < N.n) (ht : t < N.n) {S : Nat → Bool} (h1 : S s = true) (h2 : S t = false) (he : F = capf N S) : Shut N f (fun _ => false) S := by
  have e := H.net h hs ht S
  rw [h1, h2] at e
  simp only [Bool.false_eq_true, if_false, if_true] at e
  have e2 : lsm (fun i => (if S (N.fr i) = true then f i else 0) - (if S (N.tt i) = true then f i else 0)) N.I = - netf N f S := by
    unfold netf
    rw [lsm_sub, lsm_sub]
    omega
  have e3 : lsm (fun i => (if S (N.fr i) = true ∧ S (N.tt i) = false then N.mo i else 0) - ((if S (N.fr i) = true then f i else 0) - (if S (N.tt i) = true then f i else 0))) N.I = 0 := by
    rw [lsm_sub]
    unfold capf at he
    omega
  have hnn : ∀ i ∈ N.I, 0 ≤ (if S (N.fr i) = true ∧ S (N.tt i) = false then N.mo i else 0) - ((if S (N.fr i) = true then f i else 0) - (if S (N.tt i) = true then f i else 0)) := fun i hi => by
    have := H.b i hi
    cases hf : S (N.fr i) <;> cases ht : S (N.tt i) <;> simp <;> omega
  have hz := fun i hi => lsm_nn_mem hnn i hi
  rw [e3] at hz
  refine ⟨fun i hi _ ha hb => ?_, fun i hi _ ha hb => ?_⟩
  · have a1 := hz i hi
    have := H.b i hi
    simp [ha, hb] at a1
    omega
  · have a1 := hz i hi
    have := H.b i hi
    simp [ha, hb] at a1
    omega
theorem least_arc {ι : Type} [DecidableEq ι] {N : Nt ι} (h : N.Ok) {s t : Nat} {F : Int} {f g : ι → Int} (H : IsFl N s t F f) (K : IsFl N s t F g) (hs : s < N.n) (ht : t < N.n) {fz : ι → Bool} {S : Nat → Bool} (hS : Shut N f fz S) {k : ι} (hk : k ∈ N.I)
    (hkf : S (N.fr k) = true) (hkt : S (N.tt k) = false) (hfz : ∀ i ∈ N.I, fz i = true → i ≠ k → f i = g i) : f k ≤ g k := by
  have e1 := H.net h hs ht S
  have e2 := K.net h hs ht S
  have e3 : lsm (fun i => ((if S (N.tt i) = true then g i else 0) - (if S (N.fr i) = true then g i else 0)) - ((if S (N.tt i) = true then f i else 0) - (if S (N.fr i) = true then f i else 0))) N.I = 0 := by
    rw [lsm_sub]
    unfold netf at e1 e2
    omega
  by_cases hc : f k ≤ g k
  · exact hc
  have hnn : ∀ i ∈ N.I, 0 ≤ ((if S (N.tt i) = true then g i else 0) - (if S (N.fr i) = true then g i else 0)) - ((if S (N.tt i) = true then f i else 0) - (if S (N.fr i) = true then f i else 0)) := fun i hi => by
    by_cases ek : i = k
    · subst ek
      simp [hkf, hkt]
      omega
    · have hf := H.b i hi
      have hg := K.b i hi
      cases hz : fz i with
      | true => rw [hfz i hi hz ek]; omega
      | false =>
        have a1 := hS.up i hi hz
        have a2 := hS.dn i hi hz
        cases hf' : S (N.fr i) <;> cases ht' : S (N.tt i) <;> simp [hf', ht'] at a1 a2 ⊢ <;> omega
  have := lsm_nn_mem hnn k hk
  rw [e3] at this
  simp [hkf, hkt] at this
  omega
def updF {ι : Type} [DecidableEq ι] (f : ι → Int) (k : ι) (y : Int) (i : ι) : Int := if i = k then y else f i
theorem exf_updF {ι : Type} [DecidableEq ι] {N : Nt ι} (h : N.Ok) (f : ι → Int) {k : ι} (hk : k ∈ N.I) (y : Int) (v : Nat) :
    exf N (updF f k y) v = exf N f v + (if N.tt k = v then y - f k else 0) - (if N.fr k = v then y - f k else 0) := by
  have e : exf N (updF f k y) v - exf N f v = lsm (fun i => ((if N.tt i = v then updF f k y i else 0) - (if N.fr i = v then updF f k y i else 0)) - ((if N.tt i = v then f i else 0) - (if N.fr i = v then f i else 0))) N.I := by
    unfold exf
    exact (lsm_sub _ _ _).symm
  rw [lsm_one (k := k) h.ndp fun i _ hi => by unfold updF; rw [if_neg hi]; omega, if_pos hk] at e
  unfold updF at e ⊢
  rw [if_pos rfl] at e
  by_cases c1 : N.tt k = v <;> by_cases c2 : N.fr k = v <;> simp [c1, c2] at e ⊢ <;> omega

structure Rch (ι : Type) where
  seen : Nat → Bool
  arc : Nat → ι
  back : Nat → Bool
  rk : Nat → Nat
def Rch.pv {ι : Type} (R : Rch ι) (N : Nt ι) (v : Nat) : Nat := if R.back v = true then N.tt (R.arc v) else N.fr (R.arc v)
def Rch.res {ι : Type} (R : Rch ι) (N : Nt ι) (f : ι → Int) (v : Nat) : Int := if R.back v = true then f (R.arc v) else N.mo (R.arc v) - f (R.arc v)
structure Tree {ι : Type} (N : Nt ι) (f : ι → Int) (fz : ι → Bool) (s : Nat) (R : Rch ι) : Prop where
  s0 : R.seen s = true
  lt : ∀ v, R.seen v = true → v < N.n
  arc : ∀ v, R.seen v = true → v ≠ s → R.arc v ∈ N.I ∧ fz (R.arc v) = false
  own : ∀ v, R.seen v = true → v ≠ s → (if R.back v = true then N.fr (R.arc v) else N.tt (R.arc v)) = v
  pv : ∀ v, R.seen v = true → v ≠ s → R.seen (R.pv N v) = true ∧ R.rk (R.pv N v) < R.rk v
  res : ∀ v, R.seen v = true → v ≠ s → 0 < R.res N f v
structure Srch {ι : Type} (N : Nt ι) (f : ι → Int) (fz : ι → Bool) (s : Nat) (R : Rch ι) : Prop extends Tree N f fz s R where
  up : ∀ i ∈ N.I, fz i = false → R.seen (N.fr i) = true → f i < N.mo i → R.seen (N.tt i) = true
  dn : ∀ i ∈ N.I, fz i = false → R.seen (N.tt i) = true → 0 < f i → R.seen (N.fr i) = true
theorem Srch.shut {ι : Type} {N : Nt ι} {f : ι → Int} {fz : ι → Bool} {s : Nat} {R : Rch ι} (h : Srch N f fz s R) (hb : ∀ i ∈ N.I, 0 ≤ f i ∧ f i ≤ N.mo i) : Shut N f fz R.seen where
  up i hi hz h1 h2 := by
    have := hb i hi
    by_cases c : f i < N.mo i
    · rw [h.up i hi hz h1 c] at h2; cases h2
    · omega
  dn i hi hz h1 h2 := by
    have := hb i hi
    by_cases c : 0 < f i
    · rw [h.dn i hi hz h1 c] at h2; cases h2
    · omega
theorem Srch.least {ι : Type} {N : Nt ι} {f : ι → Int} {s : Nat} {R : Rch ι} (h : Srch N f (fun _ => false) s R) {S : Nat → Bool} (hS : Shut N f (fun _ => false) S) (h0 : S s = true) : ∀ v, R.seen v = true → S v = true := by
  have key : ∀ (k v : Nat), R.rk v < k → R.seen v = true → S v = true := by
    intro k
    induction k with
    | zero => intro v hv; omega
    | succ k ih =>
      intro v hv hs
      by_cases e : v = s
      · rw [e]; exact h0
      · obtain ⟨p1, p2⟩ := h.pv v hs e
        have hp := ih _ (by omega) p1
        obtain ⟨a1, a2⟩ := h.arc v hs e
        have ho := h.own v hs e
        have hr := h.res v hs e
        cases hv : S v with
        | true => rfl
        | false =>
          unfold Rch.pv at hp
          unfold Rch.res at hr
          by_cases hb : R.back v = true
          · rw [if_pos hb] at hp ho hr
            have := hS.dn _ a1 a2 hp (by rw [ho]; exact hv)
            omega
          · rw [if_neg hb] at hp ho hr
            have := hS.up _ a1 a2 hp (by rw [ho]; exact hv)
            omega
  exact fun v hv => key (R.rk v + 1) v (by omega) hv
def minF {ι : Type} (N : Nt ι) (R : Rch ι) (f : ι → Int) (s : Nat) : Nat → Int → Nat → Int
  | 0, r, _ => r
  | k + 1, r, v => if v = s then r else minF N R f s k (if R.res N f v < r then R.res N f v else r) (R.pv N v)
theorem minF_le {ι : Type} {N : Nt ι} {R : Rch ι} {f : ι → Int} {s : Nat} : ∀ (k : Nat) (r : Int) (v : Nat), minF N R f s k r v ≤ r
  | 0, r, v => by simp [minF]
  | k + 1, r, v => by
    unfold minF
    split
    · omega
    · have := minF_le (N := N) (R := R) (f := f) (s := s) k (if R.res N f v < r then R.res N f v else r) (R.pv N v)
      have h2 : (if R.res N f v < r then R.res N f v else r) ≤ r := by split <;> omega
      omega
theorem minF_res {ι : Type} {N : Nt ι} {R : Rch ι} {f : ι → Int} {s : Nat} {k : Nat} {r : Int} {v : Nat} (hv : v ≠ s) : minF N R f s (k + 1) r v ≤ R.res N f v := by
  unfold minF
  rw [if_neg hv]
  have := minF_le (N := N) (R := R) (f := f) (s := s) k (if R.res N f v < r then R.res N f v else r) (R.pv N v)
  have h2 : (if R.res N f v < r then R.res N f v else r) ≤ R.res N f v := by split <;> omega
  omega
theorem minF_pos {ι : Type} {N : Nt ι} {fz : ι → Bool} {R : Rch ι} {f : ι → Int} {s : Nat} (h : Tree N f fz s R) : ∀ (k : Nat) (r : Int) (v : Nat), R.seen v = true → 0 < r → 0 < minF N R f s k r v
  | 0, r, v, _, hr => by simpa [minF] using hr
  | k + 1, r, v, hs, hr => by
    unfold minF
    split
    · exact hr
    · rename_i hv
      refine minF_pos h k _ _ (h.pv v hs hv).1 ?_
      have := h.res v hs hv
      split <;> omega
def augF {ι : Type} [DecidableEq ι] (N : Nt ι) (R : Rch ι) (s : Nat) (room : Int) : Nat → (ι → Int) → Nat → ι → Int
  | 0, f, _ => f
  | k + 1, f, v => if v = s then f else augF N R s room k (updF f (R.arc v) (if R.back v = true then f (R.arc v) - room else f (R.arc v) + room)) (R.pv N v)
theorem Tree.apart {ι : Type} {N : Nt ι} {fz : ι → Bool} {R : Rch ι} {f : ι → Int} {s : Nat} (h : Tree N f fz s R) {v w : Nat} (hv : R.seen v = true) (hvs : v ≠ s) (hw : R.seen w = true) (hws : w ≠ s) (hr : R.rk w < R.rk v) : R.arc w ≠ R.arc v := by
  intro e
  have ov := h.own v hv hvs
  have ow := h.own w hw hws
  have pw := (h.pv w hw hws).2
  unfold Rch.pv at pw
  rw [e] at ow pw
  cases bv : R.back v <;> cases bw : R.back w <;> simp only [bv, bw, Bool.false_eq_true, if_false, if_true] at ov ow pw
  · rw [ov] at ow; rw [ow] at hr; omega
  · rw [ov] at pw; omega
  · rw [ov] at pw; omega
  · rw [ov] at ow; rw [ow] at hr; omega
structure AugOk {ι : Type} (N : Nt ι) (fz : ι → Bool) (f f' : ι → Int) : Prop where
  b : ∀ i ∈ N.I, 0 ≤ f' i ∧ f' i ≤ N.mo i
  fz : ∀ i, fz i = true → f' i = f i
theorem aug_ok {ι : Type} [DecidableEq ι] {N : Nt ι} (hN : N.Ok) {fz : ι → Bool} {R : Rch ι} {f0 : ι → Int} {s : Nat} (h : Tree N f0 fz s R) {room : Int} (hr : 0 ≤ room) : ∀ (k : Nat) (f : ι → Int) (v : Nat) (r : Int), R.seen v = true → R.rk v < k →
    (∀ i ∈ N.I, 0 ≤ f i ∧ f i ≤ N.mo i) → (∀ w, R.seen w = true → w ≠ s → R.rk w ≤ R.rk v → f (R.arc w) = f0 (R.arc w)) → room ≤ minF N R f0 s k r v →
    AugOk N fz f (augF N R s room k f v) ∧ ∀ x, exf N (augF N R s room k f v) x = exf N f x + (if v = x then room else 0) - (if s = x then room else 0)
  | 0, f, v, r, _, hk, _, _, _ => by omega
  | k + 1, f, v, r, hs, hk, hb, hq, hm => by
    unfold augF
    by_cases e : v = s
    · rw [if_pos e, e]
      exact ⟨⟨hb, fun _ _ => rfl⟩, fun x => by omega⟩
    · rw [if_neg e]
      obtain ⟨a1, a2⟩ := h.arc v hs e
      obtain ⟨p1, p2⟩ := h.pv v hs e
      have ho := h.own v hs e
      have hres := Int.le_trans hm (minF_res (k := k) (r := r) e)
      have hfv := hq v hs e (Nat.le_refl _)
      have hbv := hb _ a1
      unfold minF at hm
      rw [if_neg e] at hm
      generalize hy : (if R.back v = true then f (R.arc v) - room else f (R.arc v) + room) = y
      have hyb : 0 ≤ y ∧ y ≤ N.mo (R.arc v) := by
        unfold Rch.res at hres
        rw [← hfv] at hres
        split at hy <;> rename_i hbk
        · rw [if_pos hbk] at hres; omega
        · rw [if_neg hbk] at hres; omega
      have ih := aug_ok hN h hr k (updF f (R.arc v) y) (R.pv N v) _ p1 (by omega) (fun i hi => by
        unfold updF
        split
        · rename_i ei; rw [ei]; exact hyb
        · exact hb i hi) (fun w hw hws hwr => by
        have := h.apart hs e hw hws (by omega)
        unfold updF
        rw [if_neg this]
        exact hq w hw hws (by omega)) hm
      obtain ⟨i1, i2⟩ := ih
      refine ⟨⟨i1.b, fun i hi => ?_⟩, fun x => ?_⟩
      · rw [i1.fz i hi]
        unfold updF
        rw [if_neg fun ei => by rw [ei, a2] at hi; cases hi]
      · rw [i2 x, exf_updF hN f a1]
        unfold Rch.pv
        by_cases hbk : R.back v = true
        · rw [if_pos hbk] at hy ho ⊢
          rw [ho, show y - f (R.arc v) = -room by omega]
          by_cases c1 : N.tt (R.arc v) = x <;> by_cases c2 : v = x <;> simp only [c1, c2, if_true, if_false] <;> omega
        · rw [if_neg hbk] at hy ho ⊢
          rw [ho, show y - f (R.arc v) = room by omega]
          by_cases c1 : N.fr (R.arc v) = x <;> by_cases c2 : v = x <;> simp only [c1, c2, if_true, if_false] <;> omega

def Rch.rank {ι : Type} (R : Rch ι) (Q : List Nat) : Rch ι := { R with rk := fun v => Q.idxOf v }
structure BI {ι : Type} (N : Nt ι) (f : ι → Int) (fz : ι → Bool) (s : Nat) (R : Rch ι) (Q : List Nat) : Prop where
  ndp : Q.Nodup
  s0 : s ∈ Q
  mem : ∀ v, R.seen v = true ↔ v ∈ Q
  lt : ∀ v ∈ Q, v < N.n
  arc : ∀ v ∈ Q, v ≠ s → R.arc v ∈ N.I ∧ fz (R.arc v) = false
  own : ∀ v ∈ Q, v ≠ s → (if R.back v = true then N.fr (R.arc v) else N.tt (R.arc v)) = v
  pv : ∀ v ∈ Q, v ≠ s → R.pv N v ∈ Q ∧ Q.idxOf (R.pv N v) < Q.idxOf v
  res : ∀ v ∈ Q, v ≠ s → 0 < R.res N f v
theorem BI.tre {ι : Type} {N : Nt ι} {f : ι → Int} {fz : ι → Bool} {s : Nat} {R : Rch ι} {Q : List Nat} (h : BI N f fz s R Q) : Tree N f fz s (R.rank Q) where
  s0 := (h.mem s).2 h.s0
  lt v hv := h.lt v ((h.mem v).1 hv)
  arc v hv := h.arc v ((h.mem v).1 hv)
  own v hv := h.own v ((h.mem v).1 hv)
  pv v hv hs := by
    obtain ⟨p1, p2⟩ := h.pv v ((h.mem v).1 hv) hs
    exact ⟨(h.mem _).2 p1, p2⟩
  res v hv := h.res v ((h.mem v).1 hv)
theorem BI.start {ι : Type} {N : Nt ι} {f : ι → Int} {fz : ι → Bool} {s : Nat} {R : Rch ι} (hs : s < N.n) (h : ∀ v, R.seen v = true ↔ v = s) : BI N f fz s R [s] where
  ndp := by simp
  s0 := by simp
  mem v := by rw [h v]; simp
  lt v hv := by simp at hv; rw [hv]; exact hs
  arc v hv e := by simp at hv; exact (e hv).elim
  own v hv e := by simp at hv; exact (e hv).elim
  pv v hv e := by simp at hv; exact (e hv).elim
  res v hv e := by simp at hv; exact (e hv).elim
theorem BI.add {ι : Type} {N : Nt ι} {f : ι → Int} {fz : ι → Bool} {s : Nat} {R R' : Rch ι} {Q : List Nat} (h : BI N f fz s R Q) {v w : Nat} {i : ι} {b : Bool} (hv : v ∈ Q) (hi : i ∈ N.I) (hz : fz i = false) (hw : R.seen w = false) (hwn : w < N.n)
    (hb : if b = true then N.tt i = v ∧ N.fr i = w ∧ 0 < f i else N.fr i = v ∧ N.tt i = w ∧ f i < N.mo i) (hR : R'.seen w = true ∧ R'.arc w = i ∧ R'.back w = b) (ho : ∀ u, u ≠ w → R'.seen u = R.seen u ∧ (R.seen u = true → R'.arc u = R.arc u ∧ R'.back u = R.back u)) :
    BI N f fz s R' (Q ++ [w]) := by
  obtain ⟨r1, r2, r3⟩ := hR
  have hwQ : w ∉ Q := fun e => by rw [(h.mem w).2 e] at hw; cases hw
  have ix : ∀ u ∈ Q, (Q ++ [w]).idxOf u = Q.idxOf u := fun u hu => by rw [List.idxOf_append, if_pos hu]
  have ixw : (Q ++ [w]).idxOf w = Q.length := by rw [List.idxOf_append, if_neg hwQ]; simp
  have old : ∀ u ∈ Q, R'.arc u = R.arc u ∧ R'.back u = R.back u := fun u hu => (ho u fun e => hwQ (e ▸ hu)).2 ((h.mem u).2 hu)
  refine ⟨?_, List.mem_append_left _ h.s0, fun u => ?_, fun u hu => ?_, fun u hu hs => ?_, fun u hu hs => ?_, fun u hu hs => ?_, fun u hu hs => ?_⟩
  · rw [List.nodup_append]
    exact ⟨h.ndp, by simp, fun a ha c hc => by simp at hc; rw [hc]; exact fun e => hwQ (e ▸ ha)⟩
  · by_cases e : u = w
    · rw [e, r1]; simp
    · rw [(ho u e).1, h.mem u]; simp [e]
  · rcases List.mem_append.1 hu with hu | hu
    · exact h.lt u hu
    · simp at hu; rw [hu]; exact hwn
  · rcases List.mem_append.1 hu with hu | hu
    · rw [(old u hu).1]; exact h.arc u hu hs
    · simp at hu; rw [hu, r2]; exact ⟨hi, hz⟩
  · rcases List.mem_append.1 hu with hu | hu
    · rw [(old u hu).1, (old u hu).2]; exact h.own u hu hs
    · simp at hu
      rw [hu, r2, r3]
      cases b <;> simp at hb ⊢ <;> exact hb.2.1
  · rcases List.mem_append.1 hu with hu | hu
    · unfold Rch.pv
      rw [(old u hu).1, (old u hu).2]
      obtain ⟨p1, p2⟩ := h.pv u hu hs
      unfold Rch.pv at p1 p2
      exact ⟨List.mem_append_left _ p1, by rw [ix _ p1, ix _ hu]; exact p2⟩
    · simp at hu
      have e : R'.pv N u = v := by
        unfold Rch.pv
        rw [hu, r2, r3]
        cases b <;> simp at hb ⊢ <;> exact hb.1
      rw [e, hu, ixw, ix v hv]
      exact ⟨List.mem_append_left _ hv, List.idxOf_lt_length_of_mem hv⟩
  · rcases List.mem_append.1 hu with hu | hu
    · unfold Rch.res
      rw [(old u hu).1, (old u hu).2]
      exact h.res u hu hs
    · simp at hu
      unfold Rch.res
      rw [hu, r2, r3]
      cases b <;> simp at hb ⊢ <;> omega
structure Dn {ι : Type} (N : Nt ι) (f : ι → Int) (fz : ι → Bool) (R : Rch ι) (v : Nat) (i : ι) : Prop where
  up : fz i = false → N.fr i = v → f i < N.mo i → R.seen (N.tt i) = true
  dn : fz i = false → N.tt i = v → 0 < f i → R.seen (N.fr i) = true
theorem Dn.mono {ι : Type} {N : Nt ι} {f : ι → Int} {fz : ι → Bool} {R R' : Rch ι} {v : Nat} {i : ι} (h : Dn N f fz R v i) (hR : ∀ u, R.seen u = true → R'.seen u = true) : Dn N f fz R' v i :=
  ⟨fun a b c => hR _ (h.up a b c), fun a b c => hR _ (h.dn a b c)⟩
theorem BI.srch {ι : Type} {N : Nt ι} {f : ι → Int} {fz : ι → Bool} {s : Nat} {R : Rch ι} {Q : List Nat} (h : BI N f fz s R Q) (hdn : ∀ v ∈ Q, ∀ i ∈ N.I, Dn N f fz R v i) : Srch N f fz s (R.rank Q) :=
  { h.tre with
    up := fun i hi hz hs hf => (hdn _ ((h.mem _).1 hs) i hi).up hz rfl hf
    dn := fun i hi hz hs hf => (hdn _ ((h.mem _).1 hs) i hi).dn hz rfl hf }
theorem bq_len : ∀ (n : Nat) {l : List Nat}, l.Nodup → (∀ x ∈ l, x < n) → l.length ≤ n
  | 0, l, _, h => by
    cases l with
    | nil => simp
    | cons x l => have := h x (List.mem_cons_self ..); omega
  | n + 1, l, hn, h => by
    have := bq_len n (l := l.erase n) (hn.erase _) fun x hx => by
      have := (hn.mem_erase_iff).1 hx
      have := h x this.2
      omega
    rw [List.length_erase] at this
    split at this <;> omega

def ntI (L : List Gi_arc) (n : Nat) : Nt Nat where
  I := List.range L.length
  fr i := match L[i]? with | some a => a.from_.toNat | none => 0
  tt i := match L[i]? with | some a => a.to_.toNat | none => 0
  mo i := match L[i]? with | some a => a.most | none => 0
  n := n
def flI (L : List Gi_arc) (i : Nat) : Int := match L[i]? with | some a => a.flow | none => 0
def fzI (L : List Gi_arc) (i : Nat) : Bool := match L[i]? with | some a => a.frozen | none => false
structure WfI (L : List Gi_arc) (n : Nat) : Prop where
  len : L.length ≤ 1000
  pl : n ≤ 1000
  a : ∀ x ∈ L, 0 ≤ x.from_ ∧ x.from_ < (n : Int) ∧ 0 ≤ x.to_ ∧ x.to_ < (n : Int) ∧ x.from_ ≠ x.to_
theorem WfI.ok {L : List Gi_arc} {n : Nat} (h : WfI L n) : (ntI L n).Ok where
  ndp := List.nodup_range
  fr i hi := by
    have hi : i < L.length := List.mem_range.1 hi
    have := h.a _ (List.getElem_mem hi)
    simp only [ntI, List.getElem?_eq_getElem hi]
    omega
  tt i hi := by
    have hi : i < L.length := List.mem_range.1 hi
    have := h.a _ (List.getElem_mem hi)
    simp only [ntI, List.getElem?_eq_getElem hi]
    omega
  ne i hi := by
    have hi : i < L.length := List.mem_range.1 hi
    have := h.a _ (List.getElem_mem hi)
    simp only [ntI, List.getElem?_eq_getElem hi]
    omega
def rvI (V : List Gi_visit) : Rch Nat where
  seen v := match V[v]? with | some x => x.seen | none => false
  arc v := match V[v]? with | some x => x.arc.toNat | none => 0
  back v := match V[v]? with | some x => x.back | none => false
  rk _ := 0
theorem rvI_set {V : List Gi_visit} {w : Nat} (hw : w < V.length) (i : Nat) (b : Bool) :
    ((rvI (V.set w (Gi_visit.mk (i : Int) b true))).seen w = true ∧ (rvI (V.set w (Gi_visit.mk (i : Int) b true))).arc w = i ∧ (rvI (V.set w (Gi_visit.mk (i : Int) b true))).back w = b) ∧
    ∀ u, u ≠ w → (rvI (V.set w (Gi_visit.mk (i : Int) b true))).seen u = (rvI V).seen u ∧ ((rvI V).seen u = true → (rvI (V.set w (Gi_visit.mk (i : Int) b true))).arc u = (rvI V).arc u ∧ (rvI (V.set w (Gi_visit.mk (i : Int) b true))).back u = (rvI V).back u) := by
  refine ⟨?_, fun u hu => ?_⟩
  · simp [rvI, hw]
  · simp only [rvI, List.getElem?_set_ne (Ne.symm hu)]
    exact ⟨trivial, fun _ => ⟨trivial, trivial⟩⟩
structure SiI (L : List Gi_arc) (n s : Nat) (V : List Gi_visit) (Q : List Nat) : Prop where
  bi : BI (ntI L n) (flI L) (fzI L) s (rvI V) Q
  len : V.length = n
  arc : ∀ v ∈ Q, v ≠ s → ∀ x, V[v]? = some x → 0 ≤ x.arc
theorem SiI.add {L : List Gi_arc} {n s : Nat} {V : List Gi_visit} {Q : List Nat} (h : SiI L n s V Q) {v w i : Nat} {b : Bool} {a : Gi_arc} (hv : v ∈ Q) (hi : L[i]? = some a) (hz : a.frozen = false) (hw : w < n) (hs : ∀ x, V[w]? = some x → x.seen = false)
    (hb : if b = true then a.to_.toNat = v ∧ a.from_.toNat = w ∧ 0 < a.flow else a.from_.toNat = v ∧ a.to_.toNat = w ∧ a.flow < a.most) : SiI L n s (V.set w (Gi_visit.mk (i : Int) b true)) (Q ++ [w]) := by
  have hwl : w < V.length := by rw [h.len]; exact hw
  obtain ⟨r1, r2⟩ := rvI_set hwl i b
  refine ⟨h.bi.add hv (i := i) (b := b) (List.mem_range.2 (List.getElem?_eq_some_iff.1 hi).1) (by simp only [fzI, hi]; exact hz) ?_ hw ?_ r1 r2, by rw [List.length_set]; exact h.len, fun u hu hus x hx => ?_⟩
  · simp only [rvI, List.getElem?_eq_getElem hwl]
    exact hs _ (List.getElem?_eq_getElem hwl)
  · simp only [ntI, flI, hi]
    exact hb
  · by_cases e : u = w
    · rw [e, List.getElem?_set_self hwl] at hx
      cases hx
      simp
    · rw [List.getElem?_set_ne (Ne.symm e)] at hx
      rcases List.mem_append.1 hu with hu | hu
      · exact h.arc u hu hus x hx
      · simp at hu
        exact (e hu).elim
theorem obind {α β : Type} {o : Option α} {x : α} {f : α → Option β} (h : o = some x) : Option.bind o f = f x := by rw [h]; rfl
theorem sI_step {L : List Gi_arc} {n s : Nat} {p : Int} (hL : WfI L n) {V : List Gi_visit} {Q : List Nat} (h : SiI L n s V Q) {k v i : Nat} (hk : Q[k]? = some v) (hi : i < L.length) :
    ∃ V' Q', Bi_network_search (.h2 (Gi_network.mk p L) (k : Int) L ((L.length : Nat) : Int) (i : Int) V (Q.map Int.ofNat)) = some (.inl (.h2 (Gi_network.mk p L) (k : Int) L ((L.length : Nat) : Int) ((i + 1 : Nat) : Int) V' (Q'.map Int.ofNat))) ∧
      SiI L n s V' Q' ∧ Q <+: Q' ∧ (∀ u, (rvI V).seen u = true → (rvI V').seen u = true) ∧ Dn (ntI L n) (flI L) (fzI L) (rvI V') v i := by
  have ha := List.getElem?_eq_getElem hi
  generalize L[i] = a at ha
  have wf := hL.a a (List.mem_of_getElem? ha)
  have hlen := hL.len
  have hn := hL.pl
  have hkl := (List.getElem?_eq_some_iff.1 hk).1
  have hQl := bq_len n h.bi.ndp h.bi.lt
  have hvQ : v ∈ Q := List.mem_of_getElem? hk
  have hkm : (Q.map Int.ofNat)[k]? = some (v : Int) := by rw [List.getElem?_map, hk]; rfl
  have hfr : (ntI L n).fr i = a.from_.toNat := by simp only [ntI, ha]
  have htt : (ntI L n).tt i = a.to_.toNat := by simp only [ntI, ha]
  have hmo : (ntI L n).mo i = a.most := by simp only [ntI, ha]
  have hfl : flI L i = a.flow := by simp only [flI, ha]
  have hfz : fzI L i = a.frozen := by simp only [fzI, ha]
  have hto : a.to_.toNat < V.length := by rw [h.len]; omega
  have hfo : a.from_.toNat < V.length := by rw [h.len]; omega
  have gt := List.getElem?_eq_getElem hto
  have gf := List.getElem?_eq_getElem hfo
  generalize V[a.to_.toNat] = xt at gt
  generalize V[a.from_.toNat] = xf at gf
  have st : (rvI V).seen a.to_.toNat = xt.seen := by simp only [rvI, gt]
  have sf : (rvI V).seen a.from_.toNat = xf.seen := by simp only [rvI, gf]
  have q1 : (i : Int) < ((L.length : Nat) : Int) := by omega
  have q2 : (0 : Int) ≤ (i : Int) := by omega
  have q3 : (0 : Int) ≤ (k : Int) := by omega
  have q4 : (0 : Int) ≤ a.to_ := by omega
  have q5 : (0 : Int) ≤ a.from_ := by omega
  have b1 : L[Int.toNat (i : Int)]? = some a := ha
  have b2 : (Q.map Int.ofNat)[Int.toNat (k : Int)]? = some (v : Int) := hkm
  have w1 : IntKind.wrap .i64 ((i : Int) + 1) = ((i + 1 : Nat) : Int) := wsucc (by omega)
  cases hz : a.frozen with
  | true =>
    refine ⟨V, Q, ?_, h, List.prefix_refl _, fun u hu => hu, ⟨fun e => ?_, fun e => ?_⟩⟩
    · rw [Bi_network_search.eq_2, if_pos q1, if_pos q2, obind b1, if_pos hz, w1]
    · rw [hfz, hz] at e; cases e
    · rw [hfz, hz] at e; cases e
  | false =>
    have hzn : ¬ a.frozen = true := by rw [hz]; simp
    have grow : ∀ (w : Nat) (b : Bool), w < V.length → (∀ u, (rvI V).seen u = true → (rvI (V.set w (Gi_visit.mk (i : Int) b true))).seen u = true) := fun w b hw u hu => by
      by_cases e : u = w
      · rw [e]; exact (rvI_set hw i b).1.1
      · rw [((rvI_set hw i b).2 u e).1]; exact hu
    by_cases c1 : a.from_ = (v : Int)
    · have c2 : ¬ a.to_ = (v : Int) := fun e => wf.2.2.2.2 (c1.trans e.symm)
      have nodn : ∀ (R : Rch Nat),  (N : (ntI L n).tt i = v) → R.seen ((ntI L n).fr i) = true := fun R N => by rw [htt] at N; omega
      cases hs : xt.seen with
      | true =>
        refine ⟨V, Q, ?_, h, List.prefix_refl _, fun u hu => hu, ⟨fun _ _ _ => by rw [htt, st, hs], fun _ N _ => nodn _ N⟩⟩
        rw [Bi_network_search.eq_2, if_pos q1, if_pos q2, obind b1, if_neg hzn, if_pos q3, obind b2, if_pos c1, if_pos q4, obind gt, if_pos hs, if_pos q3, obind b2, if_neg c2, w1]
      | false =>
        by_cases c3 : a.flow < a.most
        · refine ⟨V.set a.to_.toNat (Gi_visit.mk (i : Int) false true), Q ++ [a.to_.toNat], ?_, h.add hvQ ha hz (by omega) (fun x hx => by rw [gt] at hx; cases hx; exact hs) (by simp; omega), List.prefix_append _ _, grow _ _ hto, ⟨fun _ _ _ => by rw [htt]; exact (rvI_set hto i false).1.1, fun _ N _ => nodn _ N⟩⟩
          have e : List.map Int.ofNat (Q ++ [a.to_.toNat]) = List.map Int.ofNat Q ++ [a.to_] := by rw [List.map_append]; congr 1; simp; omega
          have hk2 : (List.map Int.ofNat Q ++ [a.to_])[Int.toNat (k : Int)]? = some (v : Int) := by rw [Int.toNat_natCast]; rw [List.getElem?_append_left (by simpa using hkl)]; exact hkm
          have hln : (List.map Int.ofNat Q ++ [a.to_]).length * 8 ≤ 70368744177664 := by simp; omega
          rw [e]
          rw [Bi_network_search.eq_2, if_pos q1, if_pos q2, obind b1, if_neg hzn, if_pos q3, obind b2, if_pos c1, if_pos q4, obind gt, if_neg (by rw [hs]; simp), if_pos c3, if_pos q4, obind gt, if_pos hln, if_pos q3, obind hk2, if_neg c2, w1]
        · refine ⟨V, Q, ?_, h, List.prefix_refl _, fun u hu => hu, ⟨fun _ _ c => by rw [hfl, hmo] at c; exact (c3 c).elim, fun _ N _ => nodn _ N⟩⟩
          rw [Bi_network_search.eq_2, if_pos q1, if_pos q2, obind b1, if_neg hzn, if_pos q3, obind b2, if_pos c1, if_pos q4, obind gt, if_neg (by rw [hs]; simp), if_neg c3, if_pos q3, obind b2, if_neg c2, w1]
    · have noup : ∀ (R : Rch Nat),  (N : (ntI L n).fr i = v) → R.seen ((ntI L n).tt i) = true := fun R N => by rw [hfr] at N; omega
      by_cases c2 : a.to_ = (v : Int)
      · cases hs : xf.seen with
        | true =>
          refine ⟨V, Q, ?_, h, List.prefix_refl _, fun u hu => hu, ⟨fun _ N _ => noup _ N, fun _ _ _ => by rw [hfr, sf, hs]⟩⟩
          rw [Bi_network_search.eq_2, if_pos q1, if_pos q2, obind b1, if_neg hzn, if_pos q3, obind b2, if_neg c1, if_pos q3, obind b2, if_pos c2, if_pos q5, obind gf, if_pos hs, w1]
        | false =>
          by_cases c3 : a.flow > 0
          · refine ⟨V.set a.from_.toNat (Gi_visit.mk (i : Int) true true), Q ++ [a.from_.toNat], ?_, h.add hvQ ha hz (by omega) (fun x hx => by rw [gf] at hx; cases hx; exact hs) (by simp; omega), List.prefix_append _ _, grow _ _ hfo, ⟨fun _ N _ => noup _ N, fun _ _ _ => by rw [hfr]; exact (rvI_set hfo i true).1.1⟩⟩
            have e : List.map Int.ofNat (Q ++ [a.from_.toNat]) = List.map Int.ofNat Q ++ [a.from_] := by rw [List.map_append]; congr 1; simp; omega
            have hln : (List.map Int.ofNat Q ++ [a.from_]).length * 8 ≤ 70368744177664 := by simp; omega
            rw [e]
            rw [Bi_network_search.eq_2, if_pos q1, if_pos q2, obind b1, if_neg hzn, if_pos q3, obind b2, if_neg c1, if_pos q3, obind b2, if_pos c2, if_pos q5, obind gf, if_neg (by rw [hs]; simp), if_pos c3, if_pos q5, obind gf, if_pos hln, w1]
          · refine ⟨V, Q, ?_, h, List.prefix_refl _, fun u hu => hu, ⟨fun _ N _ => noup _ N, fun _ _ c => by rw [hfl] at c; exact (c3 c).elim⟩⟩
            rw [Bi_network_search.eq_2, if_pos q1, if_pos q2, obind b1, if_neg hzn, if_pos q3, obind b2, if_neg c1, if_pos q3, obind b2, if_pos c2, if_pos q5, obind gf, if_neg (by rw [hs]; simp), if_neg c3, w1]
      · refine ⟨V, Q, ?_, h, List.prefix_refl _, fun u hu => hu, ⟨fun _ N _ => noup _ N, fun _ N _ => by rw [htt] at N; omega⟩⟩
        rw [Bi_network_search.eq_2, if_pos q1, if_pos q2, obind b1, if_neg hzn, if_pos q3, obind b2, if_neg c1, if_pos q3, obind b2, if_neg c2, w1]

theorem sI_inner {L : List Gi_arc} {n s : Nat} {p : Int} (hL : WfI L n) {k v : Nat} : ∀ (m i : Nat) {V : List Gi_visit} {Q : List Nat}, i + m = L.length → SiI L n s V Q → Q[k]? = some v → (∀ j, j < i → Dn (ntI L n) (flI L) (fzI L) (rvI V) v j) →
    ∃ V' Q', loop Bi_network_search (.h2 (Gi_network.mk p L) (k : Int) L ((L.length : Nat) : Int) (i : Int) V (Q.map Int.ofNat)) = loop Bi_network_search (.h1 (Gi_network.mk p L) ((k + 1 : Nat) : Int) V' (Q'.map Int.ofNat)) ∧
      SiI L n s V' Q' ∧ Q <+: Q' ∧ (∀ u, (rvI V).seen u = true → (rvI V').seen u = true) ∧ ∀ j, j < L.length → Dn (ntI L n) (flI L) (fzI L) (rvI V') v j
  | 0, i, V, Q, hi, h, hk, hdy => by
    refine ⟨V, Q, ?_, h, List.prefix_refl _, fun u hu => hu, fun j hj => hdy j (by omega)⟩
    have hkl := (List.getElem?_eq_some_iff.1 hk).1
    have hQl := bq_len n h.bi.ndp h.bi.lt
    have := hL.pl
    rw [loop_eq, Bi_network_search.eq_2, if_neg (by omega), wsucc (by omega)]
    rfl
  | m + 1, i, V, Q, hi, h, hk, hdy => by
    obtain ⟨V1, Q1, e1, h1, p1, m1, d1⟩ := sI_step (p := p) hL h hk (show i < L.length by omega)
    have hk1 : Q1[k]? = some v := by
      obtain ⟨t, rfl⟩ := p1
      rw [List.getElem?_append_left (List.getElem?_eq_some_iff.1 hk).1]
      exact hk
    obtain ⟨V2, Q2, e2, h2, p2, m2, d2⟩ := sI_inner hL (p := p) m (i + 1) (by omega) h1 hk1 fun j hj => by
      by_cases e : j = i
      · rw [e]; exact d1
      · exact (hdy j (by omega)).mono m1
    refine ⟨V2, Q2, ?_, h2, p1.trans p2, fun u hu => m2 u (m1 u hu), d2⟩
    rw [loop_eq, e1]
    exact e2
theorem sI_outer {L : List Gi_arc} {n s : Nat} {p : Int} (hL : WfI L n) : ∀ (m k : Nat) {V : List Gi_visit} {Q : List Nat}, n ≤ k + m → k ≤ Q.length → SiI L n s V Q → (∀ v ∈ Q.take k, ∀ j, j < L.length → Dn (ntI L n) (flI L) (fzI L) (rvI V) v j) →
    ∃ V' Q', loop Bi_network_search (.h1 (Gi_network.mk p L) (k : Int) V (Q.map Int.ofNat)) = some V' ∧ SiI L n s V' Q' ∧ ∀ v ∈ Q', ∀ j, j < L.length → Dn (ntI L n) (flI L) (fzI L) (rvI V') v j := by
  have fin : ∀ (k : Nat) {V : List Gi_visit} {Q : List Nat}, k = Q.length → SiI L n s V Q → (∀ v ∈ Q.take k, ∀ j, j < L.length → Dn (ntI L n) (flI L) (fzI L) (rvI V) v j) →
      ∃ V' Q', loop Bi_network_search (.h1 (Gi_network.mk p L) (k : Int) V (Q.map Int.ofNat)) = some V' ∧ SiI L n s V' Q' ∧ ∀ v ∈ Q', ∀ j, j < L.length → Dn (ntI L n) (flI L) (fzI L) (rvI V') v j := fun k V Q hk h hdy => by
    refine ⟨V, Q, ?_, h, by rw [hk, List.take_length] at hdy; exact hdy⟩
    rw [loop_eq, Bi_network_search.eq_1, if_neg (by rw [List.length_map]; omega)]
    rfl
  intro m
  induction m with
  | zero =>
    intro k V Q hm hk h hdy
    have hQl := bq_len n h.bi.ndp h.bi.lt
    exact fin k (by omega) h hdy
  | succ m ih =>
    intro k V Q hm hk h hdy
    by_cases e : k = Q.length
    · exact fin k e h hdy
    · have hkv := List.getElem?_eq_getElem (show k < Q.length by omega)
      obtain ⟨V1, Q1, e1, h1, p1, m1, d1⟩ := sI_inner (p := p) hL L.length 0 (by omega) h hkv fun j hj => by omega
      have hlen : Q.length ≤ Q1.length := p1.length_le
      obtain ⟨V2, Q2, e2, h2, d2⟩ := ih (k + 1) (by omega) (by omega) h1 fun v hv j hj => by
        obtain ⟨t, rfl⟩ := p1
        rw [List.take_append_of_le_length (by omega), List.take_add_one, hkv] at hv
        rcases List.mem_append.1 hv with hv | hv
        · exact (hdy v hv j hj).mono m1
        · simp at hv
          rw [hv]
          exact d1 j hj
      refine ⟨V2, Q2, ?_, h2, d2⟩
      rw [loop_eq, Bi_network_search.eq_1, if_pos (by rw [List.length_map]; omega)]
      exact e1.trans e2
structure FoundI (L : List Gi_arc) (n s : Nat) (V : List Gi_visit) (Q : List Nat) : Prop where
  len : V.length = n
  sr : Srch (ntI L n) (flI L) (fzI L) s ((rvI V).rank Q)
  arc : ∀ (v : Nat) x, V[v]? = some x → x.seen = true → v ≠ s → 0 ≤ x.arc
theorem search_i {L : List Gi_arc} {n s : Nat} (hL : WfI L n) (hs : s < n) : ∃ V Q, Di_network_search (Gi_network.mk (n : Int) L) (s : Int) = some V ∧ FoundI L n s V Q := by
  have hn := hL.pl
  have hrep : (List.replicate n (Gi_visit.mk 0 false false))[s]? = some (Gi_visit.mk 0 false false) := by rw [List.getElem?_replicate, if_pos hs]
  have h0 : SiI L n s ((List.replicate n (Gi_visit.mk 0 false false)).set s (Gi_visit.mk (-1) false true)) [s] := by
    refine ⟨.start hs fun v => ?_, by simp, fun v hv e => by simp at hv; exact (e hv).elim⟩
    simp only [rvI]
    by_cases e : v = s
    · subst e
      simp [hs]
    · rw [List.getElem?_set_ne (Ne.symm e), List.getElem?_replicate]
      by_cases hv : v < n
      · rw [if_pos hv]; simp [e]
      · rw [if_neg hv]; simp [e]
  obtain ⟨V, Q, e, h, d⟩ := sI_outer (p := (n : Int)) hL n 0 (by omega) (by simp) h0 fun v hv => by simp at hv
  refine ⟨V, Q, ?_, h.len, h.bi.srch fun v hv i hi => d v hv i (List.mem_range.1 hi), fun v x hx hsn hvs => ?_⟩
  · unfold Di_network_search
    rw [if_pos (by simp), if_pos (by simp; omega), if_pos (by simp)]
    simp only [Int.toNat_natCast]
    rw [obind hrep]
    exact e
  · refine h.arc v ((h.bi.mem v).1 ?_) hvs x hx
    simp only [rvI, hx]
    exact hsn

def ntS (L : List Gs_qArc) (n : Nat) : Nt Nat where
  I := List.range L.length
  fr i := match L[i]? with | some a => a.from_.toNat | none => 0
  tt i := match L[i]? with | some a => a.to_.toNat | none => 0
  mo i := match L[i]? with | some a => a.most | none => 0
  n := n
def flS (L : List Gs_qArc) (i : Nat) : Int := match L[i]? with | some a => a.flow | none => 0
def fzN (i : Nat) : Bool := false
structure WfS (L : List Gs_qArc) (n : Nat) : Prop where
  len : L.length ≤ 1000
  pl : n ≤ 1000
  a : ∀ x ∈ L, 0 ≤ x.from_ ∧ x.from_ < (n : Int) ∧ 0 ≤ x.to_ ∧ x.to_ < (n : Int) ∧ x.from_ ≠ x.to_
theorem WfS.ok {L : List Gs_qArc} {n : Nat} (h : WfS L n) : (ntS L n).Ok where
  ndp := List.nodup_range
  fr i hi := by
    have hi : i < L.length := List.mem_range.1 hi
    have := h.a _ (List.getElem_mem hi)
    simp only [ntS, List.getElem?_eq_getElem hi]
    omega
  tt i hi := by
    have hi : i < L.length := List.mem_range.1 hi
    have := h.a _ (List.getElem_mem hi)
    simp only [ntS, List.getElem?_eq_getElem hi]
    omega
  ne i hi := by
    have hi : i < L.length := List.mem_range.1 hi
    have := h.a _ (List.getElem_mem hi)
    simp only [ntS, List.getElem?_eq_getElem hi]
    omega
def rvS (L : List Gs_qArc) (V : List Int) : Rch Nat where
  seen v := match V[v]? with | some x => decide (x ≠ -1) | none => false
  arc v := match V[v]? with | some x => x.toNat | none => 0
  back v := match V[v]? with | some x => (match L[x.toNat]? with | some a => decide (a.to_ ≠ (v : Int)) | none => false) | none => false
  rk _ := 0
theorem rvS_set {L : List Gs_qArc} {V : List Int} {w : Nat} (hw : w < V.length) {i : Nat} {a : Gs_qArc} (ha : L[i]? = some a) :
    ((rvS L (V.set w (i : Int))).seen w = true ∧ (rvS L (V.set w (i : Int))).arc w = i ∧ (rvS L (V.set w (i : Int))).back w = decide (a.to_ ≠ (w : Int))) ∧
    ∀ u, u ≠ w → (rvS L (V.set w (i : Int))).seen u = (rvS L V).seen u ∧ ((rvS L V).seen u = true → (rvS L (V.set w (i : Int))).arc u = (rvS L V).arc u ∧ (rvS L (V.set w (i : Int))).back u = (rvS L V).back u) := by
  refine ⟨?_, fun u hu => ?_⟩
  · simp only [rvS, List.getElem?_set_self hw, Int.toNat_natCast, ha]
    exact ⟨by simp, trivial, trivial⟩
  · simp only [rvS, List.getElem?_set_ne (Ne.symm hu)]
    exact ⟨trivial, fun _ => ⟨trivial, trivial⟩⟩
structure SiS (L : List Gs_qArc) (n s : Nat) (V : List Int) (Q : List Nat) : Prop where
  bi : BI (ntS L n) (flS L) fzN s (rvS L V) Q
  len : V.length = n
  arc : ∀ v ∈ Q, v ≠ s → ∀ x, V[v]? = some x → 0 ≤ x
  s2 : V[s]? = some (-2)
theorem SiS.add {L : List Gs_qArc} {n s : Nat} {V : List Int} {Q : List Nat} (hL : WfS L n) (h : SiS L n s V Q) {v w i : Nat} {a : Gs_qArc} (hv : v ∈ Q) (hi : L[i]? = some a) (hw : w < n) (hs : V[w]? = some (-1))
    (hb : a.to_.toNat = v ∧ a.from_.toNat = w ∧ 0 < a.flow ∨ a.from_.toNat = v ∧ a.to_.toNat = w ∧ a.flow < a.most) : SiS L n s (V.set w (i : Int)) (Q ++ [w]) := by
  have hwl : w < V.length := by rw [h.len]; exact hw
  have wf := hL.a a (List.mem_of_getElem? hi)
  obtain ⟨r1, r2⟩ := rvS_set (L := L) hwl hi
  have hws : w ≠ s := fun e => by rw [e, h.s2] at hs; simp at hs
  refine ⟨h.bi.add hv (i := i) (b := decide (a.to_ ≠ (w : Int))) (List.mem_range.2 (List.getElem?_eq_some_iff.1 hi).1) rfl ?_ hw ?_ r1 r2, by rw [List.length_set]; exact h.len, fun u hu hus x hx => ?_, ?_⟩
  · simp [rvS, hs]
  · simp only [ntS, flS, hi, decide_eq_true_eq]
    rcases hb with hb | hb
    · rw [if_pos (by omega)]; exact hb
    · rw [if_neg (by omega)]; exact hb
  · by_cases e : u = w
    · rw [e, List.getElem?_set_self hwl] at hx
      cases hx
      omega
    · rw [List.getElem?_set_ne (Ne.symm e)] at hx
      rcases List.mem_append.1 hu with hu | hu
      · exact h.arc u hu hus x hx
      · simp at hu
        exact (e hu).elim
  · rw [List.getElem?_set_ne hws]
    exact h.s2
theorem sS_step {L : List Gs_qArc} {n s : Nat} {p k2 : Int} (hL : WfS L n) {V : List Int} {Q : List Nat} (h : SiS L n s V Q) {k v i : Nat} (hk : Q[k]? = some v) (hi : i < L.length) :
    ∃ V' Q', Bs_qNet_reach (.h3 (Gs_qNet.mk L p) k2 (v : Int) L ((L.length : Nat) : Int) (i : Int) V (Q.map Int.ofNat)) = some (.inl (.h3 (Gs_qNet.mk L p) k2 (v : Int) L ((L.length : Nat) : Int) ((i + 1 : Nat) : Int) V' (Q'.map Int.ofNat))) ∧
      SiS L n s V' Q' ∧ Q <+: Q' ∧ (∀ u, (rvS L V).seen u = true → (rvS L V').seen u = true) ∧ Dn (ntS L n) (flS L) fzN (rvS L V') v i := by
  have ha := List.getElem?_eq_getElem hi
  generalize L[i] = a at ha
  have wf := hL.a a (List.mem_of_getElem? ha)
  have hlen := hL.len
  have hn := hL.pl
  have hkl := (List.getElem?_eq_some_iff.1 hk).1
  have hQl := bq_len n h.bi.ndp h.bi.lt
  have hvQ : v ∈ Q := List.mem_of_getElem? hk
  have hfr : (ntS L n).fr i = a.from_.toNat := by simp only [ntS, ha]
  have htt : (ntS L n).tt i = a.to_.toNat := by simp only [ntS, ha]
  have hmo : (ntS L n).mo i = a.most := by simp only [ntS, ha]
  have hfl : flS L i = a.flow := by simp only [flS, ha]
  have hto : a.to_.toNat < V.length := by rw [h.len]; omega
  have hfo : a.from_.toNat < V.length := by rw [h.len]; omega
  have gt := List.getElem?_eq_getElem hto
  have gf := List.getElem?_eq_getElem hfo
  generalize V[a.to_.toNat] = xt at gt
  generalize V[a.from_.toNat] = xf at gf
  have st : (rvS L V).seen a.to_.toNat = decide (xt ≠ -1) := by simp only [rvS, gt]
  have sf : (rvS L V).seen a.from_.toNat = decide (xf ≠ -1) := by simp only [rvS, gf]
  have q1 : (i : Int) < ((L.length : Nat) : Int) := by omega
  have q2 : (0 : Int) ≤ (i : Int) := by omega
  have q4 : (0 : Int) ≤ a.to_ := by omega
  have q5 : (0 : Int) ≤ a.from_ := by omega
  have b1 : L[Int.toNat (i : Int)]? = some a := ha
  have w1 : IntKind.wrap .i64 ((i : Int) + 1) = ((i + 1 : Nat) : Int) := wsucc (by omega)
  have grow : ∀ (w : Nat), w < V.length → (∀ u, (rvS L V).seen u = true → (rvS L (V.set w (i : Int))).seen u = true) := fun w hw u hu => by
    by_cases e : u = w
    · rw [e]; exact (rvS_set hw ha).1.1
    · rw [((rvS_set hw ha).2 u e).1]; exact hu
  by_cases c1 : a.from_ = (v : Int)
  · have c2 : ¬ a.to_ = (v : Int) := fun e => wf.2.2.2.2 (c1.trans e.symm)
    have nodn : ∀ (R : Rch Nat), (ntS L n).tt i = v → R.seen ((ntS L n).fr i) = true := fun R N => by rw [htt] at N; omega
    by_cases c3 : a.flow < a.most
    · by_cases hs : xt = -1
      · refine ⟨V.set a.to_.toNat (i : Int), Q ++ [a.to_.toNat], ?_, h.add hL hvQ ha (by omega) (by rw [gt, hs]) (.inr ⟨by omega, rfl, c3⟩), List.prefix_append _ _, grow _ hto, ⟨fun _ _ _ => by rw [htt]; exact (rvS_set hto ha).1.1, fun _ N _ => nodn _ N⟩⟩
        have e : List.map Int.ofNat (Q ++ [a.to_.toNat]) = List.map Int.ofNat Q ++ [a.to_] := by rw [List.map_append]; congr 1; simp; omega
        have hln : (List.map Int.ofNat Q ++ [a.to_]).length * 8 ≤ 70368744177664 := by simp; omega
        rw [e, Bs_qNet_reach.eq_3, if_pos q1, if_pos q2, obind b1, if_pos c1, if_pos c3, if_pos q4, obind gt, if_pos hs, if_pos q4, obind gt, if_pos hln, if_neg c2, w1]
      · refine ⟨V, Q, ?_, h, List.prefix_refl _, fun u hu => hu, ⟨fun _ _ _ => by rw [htt, st]; simpa using hs, fun _ N _ => nodn _ N⟩⟩
        rw [Bs_qNet_reach.eq_3, if_pos q1, if_pos q2, obind b1, if_pos c1, if_pos c3, if_pos q4, obind gt, if_neg hs, if_neg c2, w1]
    · refine ⟨V, Q, ?_, h, List.prefix_refl _, fun u hu => hu, ⟨fun _ _ c => by rw [hfl, hmo] at c; exact (c3 c).elim, fun _ N _ => nodn _ N⟩⟩
      rw [Bs_qNet_reach.eq_3, if_pos q1, if_pos q2, obind b1, if_pos c1, if_neg c3, if_neg c2, w1]
  · have noup : ∀ (R : Rch Nat), (ntS L n).fr i = v → R.seen ((ntS L n).tt i) = true := fun R N => by rw [hfr] at N; omega
    by_cases c2 : a.to_ = (v : Int)
    · by_cases c3 : a.flow > 0
      · by_cases hs : xf = -1
        · refine ⟨V.set a.from_.toNat (i : Int), Q ++ [a.from_.toNat], ?_, h.add hL hvQ ha (by omega) (by rw [gf, hs]) (.inl ⟨by omega, rfl, c3⟩), List.prefix_append _ _, grow _ hfo, ⟨fun _ N _ => noup _ N, fun _ _ _ => by rw [hfr]; exact (rvS_set hfo ha).1.1⟩⟩
          have e : List.map Int.ofNat (Q ++ [a.from_.toNat]) = List.map Int.ofNat Q ++ [a.from_] := by rw [List.map_append]; congr 1; simp; omega
          have hln : (List.map Int.ofNat Q ++ [a.from_]).length * 8 ≤ 70368744177664 := by simp; omega
          rw [e, Bs_qNet_reach.eq_3, if_pos q1, if_pos q2, obind b1, if_neg c1, if_pos c2, if_pos c3, if_pos q5, obind gf, if_pos hs, if_pos q5, obind gf, if_pos hln, w1]
        · refine ⟨V, Q, ?_, h, List.prefix_refl _, fun u hu => hu, ⟨fun _ N _ => noup _ N, fun _ _ _ => by rw [hfr, sf]; simpa using hs⟩⟩
          rw [Bs_qNet_reach.eq_3, if_pos q1, if_pos q2, obind b1, if_neg c1, if_pos c2, if_pos c3, if_pos q5, obind gf, if_neg hs, w1]
      · refine ⟨V, Q, ?_, h, List.prefix_refl _, fun u hu => hu, ⟨fun _ N _ => noup _ N, fun _ _ c => by rw [hfl] at c; exact (c3 c).elim⟩⟩
        rw [Bs_qNet_reach.eq_3, if_pos q1, if_pos q2, obind b1, if_neg c1, if_pos c2, if_neg c3, w1]
    · refine ⟨V, Q, ?_, h, List.prefix_refl _, fun u hu => hu, ⟨fun _ N _ => noup _ N, fun _ N _ => by rw [htt] at N; omega⟩⟩
      rw [Bs_qNet_reach.eq_3, if_pos q1, if_pos q2, obind b1, if_neg c1, if_neg c2, w1]
theorem sS_inner {L : List Gs_qArc} {n s : Nat} {p : Int} (hL : WfS L n) {k v : Nat} : ∀ (m i : Nat) {V : List Int} {Q : List Nat}, i + m = L.length → SiS L n s V Q → Q[k]? = some v → (∀ j, j < i → Dn (ntS L n) (flS L) fzN (rvS L V) v j) →
    ∃ V' Q', loop Bs_qNet_reach (.h3 (Gs_qNet.mk L p) (k : Int) (v : Int) L ((L.length : Nat) : Int) (i : Int) V (Q.map Int.ofNat)) = loop Bs_qNet_reach (.h2 (Gs_qNet.mk L p) ((k + 1 : Nat) : Int) V' (Q'.map Int.ofNat)) ∧
      SiS L n s V' Q' ∧ Q <+: Q' ∧ (∀ u, (rvS L V).seen u = true → (rvS L V').seen u = true) ∧ ∀ j, j < L.length → Dn (ntS L n) (flS L) fzN (rvS L V') v j
  | 0, i, V, Q, hi, h, hk, hdy => by
    refine ⟨V, Q, ?_, h, List.prefix_refl _, fun u hu => hu, fun j hj => hdy j (by omega)⟩
    have hkl := (List.getElem?_eq_some_iff.1 hk).1
    have hQl := bq_len n h.bi.ndp h.bi.lt
    have := hL.pl
    rw [loop_eq, Bs_qNet_reach.eq_3, if_neg (by omega), wsucc (by omega)]
    rfl
  | m + 1, i, V, Q, hi, h, hk, hdy => by
    obtain ⟨V1, Q1, e1, h1, p1, m1, d1⟩ := sS_step (p := p) (k2 := (k : Int)) hL h hk (show i < L.length by omega)
    have hk1 : Q1[k]? = some v := by
      obtain ⟨t, rfl⟩ := p1
      rw [List.getElem?_append_left (List.getElem?_eq_some_iff.1 hk).1]
      exact hk
    obtain ⟨V2, Q2, e2, h2, p2, m2, d2⟩ := sS_inner hL (p := p) m (i + 1) (by omega) h1 hk1 fun j hj => by
      by_cases e : j = i
      · rw [e]; exact d1
      · exact (hdy j (by omega)).mono m1
    refine ⟨V2, Q2, ?_, h2, p1.trans p2, fun u hu => m2 u (m1 u hu), d2⟩
    rw [loop_eq, e1]
    exact e2
theorem sS_outer {L : List Gs_qArc} {n s : Nat} {p : Int} (hL : WfS L n) : ∀ (m k : Nat) {V : List Int} {Q : List Nat}, n ≤ k + m → k ≤ Q.length → SiS L n s V Q → (∀ v ∈ Q.take k, ∀ j, j < L.length → Dn (ntS L n) (flS L) fzN (rvS L V) v j) →
    ∃ V' Q', loop Bs_qNet_reach (.h2 (Gs_qNet.mk L p) (k : Int) V (Q.map Int.ofNat)) = some V' ∧ SiS L n s V' Q' ∧ ∀ v ∈ Q', ∀ j, j < L.length → Dn (ntS L n) (flS L) fzN (rvS L V') v j := by
  have fin : ∀ (k : Nat) {V : List Int} {Q : List Nat}, k = Q.length → SiS L n s V Q → (∀ v ∈ Q.take k, ∀ j, j < L.length → Dn (ntS L n) (flS L) fzN (rvS L V) v j) →
      ∃ V' Q', loop Bs_qNet_reach (.h2 (Gs_qNet.mk L p) (k : Int) V (Q.map Int.ofNat)) = some V' ∧ SiS L n s V' Q' ∧ ∀ v ∈ Q', ∀ j, j < L.length → Dn (ntS L n) (flS L) fzN (rvS L V') v j := fun k V Q hk h hdy => by
    refine ⟨V, Q, ?_, h, by rw [hk, List.take_length] at hdy; exact hdy⟩
    rw [loop_eq, Bs_qNet_reach.eq_2, if_neg (by rw [List.length_map]; omega)]
    rfl
  intro m
  induction m with
  | zero =>
    intro k V Q hm hk h hdy
    have hQl := bq_len n h.bi.ndp h.bi.lt
    exact fin k (by omega) h hdy
  | succ m ih =>
    intro k V Q hm hk h hdy
    by_cases e : k = Q.length
    · exact fin k e h hdy
    · have hkv := List.getElem?_eq_getElem (show k < Q.length by omega)
      have hkm : (Q.map Int.ofNat)[Int.toNat (k : Int)]? = some ((Q[k]'(by omega) : Nat) : Int) := by rw [Int.toNat_natCast, List.getElem?_map, hkv]; rfl
      obtain ⟨V1, Q1, e1, h1, p1, m1, d1⟩ := sS_inner (p := p) hL L.length 0 (by omega) h hkv fun j hj => by omega
      have hlen : Q.length ≤ Q1.length := p1.length_le
      obtain ⟨V2, Q2, e2, h2, d2⟩ := ih (k + 1) (by omega) (by omega) h1 fun v hv j hj => by
        obtain ⟨t, rfl⟩ := p1
        rw [List.take_append_of_le_length (by omega), List.take_add_one, hkv] at hv
        rcases List.mem_append.1 hv with hv | hv
        · exact (hdy v hv j hj).mono m1
        · simp at hv
          rw [hv]
          exact d1 j hj
      refine ⟨V2, Q2, ?_, h2, d2⟩
      rw [loop_eq, Bs_qNet_reach.eq_2, if_pos (by rw [List.length_map]; omega), if_pos (by omega), obind hkm]
      exact e1.trans e2
structure FoundS (L : List Gs_qArc) (n s : Nat) (V : List Int) (Q : List Nat) : Prop where
  len : V.length = n
  sr : Srch (ntS L n) (flS L) fzN s ((rvS L V).rank Q)
  arc : ∀ (v : Nat) x, V[v]? = some x → x ≠ -1 → v ≠ s → 0 ≤ x
  s2 : V[s]? = some (-2)
theorem sS_fill {n s : Nat} {q : Gs_qNet} {p : Int} (hn : n ≤ 1000) (hs : s < n) : ∀ (m k : Nat), k + m = n →
    loop Bs_qNet_reach (.h1 q (s : Int) (n : Int) (k : Int) (List.replicate k (-1) ++ List.replicate m 0)) = loop Bs_qNet_reach (.h2 q 0 ((List.replicate n (-1)).set s (-2)) [(s : Int)])
  | 0, k, hk => by
    have e : (List.replicate k (-1 : Int) ++ List.replicate 0 0)[Int.toNat (s : Int)]? = some (-1) := by rw [Int.toNat_natCast, List.replicate_zero, List.append_nil, List.getElem?_replicate, if_pos (by omega)]
    rw [loop_eq, Bs_qNet_reach.eq_1, if_neg (by omega), if_pos (by omega), obind e]
    have : k = n := by omega
    subst this
    simp [goOn]
  | m + 1, k, hk => by
    have e : (List.replicate k (-1 : Int) ++ List.replicate (m + 1) 0)[Int.toNat (k : Int)]? = some 0 := by simp
    have e2 : (List.replicate k (-1 : Int) ++ List.replicate (m + 1) 0).set (Int.toNat (k : Int)) (-1) = List.replicate (k + 1) (-1) ++ List.replicate m 0 := by
      rw [Int.toNat_natCast, List.set_append_right _ _ (by simp), List.length_replicate, Nat.sub_self, List.replicate_succ, List.set_cons_zero, List.replicate_succ', List.append_assoc]
      rfl
    rw [loop_eq, Bs_qNet_reach.eq_1, if_pos (by omega), if_pos (by omega), obind e, e2, wsucc (by omega)]
    exact sS_fill (p := p) hn hs m (k + 1) (by omega)
theorem search_s {L : List Gs_qArc} {n s : Nat} (hL : WfS L n) (hs : s < n) : ∃ V Q, Ds_qNet_reach (Gs_qNet.mk L (n : Int)) (s : Int) = some V ∧ FoundS L n s V Q := by
  have hn := hL.pl
  have h0 : SiS L n s ((List.replicate n (-1)).set s (-2)) [s] := by
    refine ⟨.start hs fun v => ?_, by simp, fun v hv e => by simp at hv; exact (e hv).elim, by simp [hs]⟩
    simp only [rvS]
    by_cases e : v = s
    · subst e
      simp [hs]
    · rw [List.getElem?_set_ne (Ne.symm e), List.getElem?_replicate]
      by_cases hv : v < n
      · rw [if_pos hv]; simp [e]
      · rw [if_neg hv]; simp [e]
  obtain ⟨V, Q, e, h, d⟩ := sS_outer (p := (n : Int)) hL n 0 (by omega) (by simp) h0 fun v hv => by simp at hv
  refine ⟨V, Q, ?_, h.len, h.bi.srch fun v hv i hi => d v hv i (List.mem_range.1 hi), fun v x hx hsn hvs => ?_, h.s2⟩
  · unfold Ds_qNet_reach
    rw [if_pos (by simp), if_pos (by simp; omega)]
    simp only [Int.toNat_natCast, List.length_replicate]
    exact (sS_fill (p := 0) hn hs n 0 (by omega)).trans e
  · refine h.arc v ((h.bi.mem v).1 ?_) hvs x hx
    simp only [rvS, hx]
    simpa using hsn

def setF (L : List Gi_arc) (f : Nat → Int) : List Gi_arc := L.mapIdx fun i a => Gi_arc.mk a.from_ a.to_ a.most (f i) a.frozen
theorem setF_at (L : List Gi_arc) (f : Nat → Int) (i : Nat) : (setF L f)[i]? = (L[i]?).map fun a => Gi_arc.mk a.from_ a.to_ a.most (f i) a.frozen := by
  unfold setF
  rw [List.getElem?_mapIdx]
theorem setF_len (L : List Gi_arc) (f : Nat → Int) : (setF L f).length = L.length := by simp [setF]
theorem setF_nt (L : List Gi_arc) (f : Nat → Int) (n : Nat) : ntI (setF L f) n = ntI L n := by
  unfold ntI
  rw [setF_len]
  congr 1 <;> funext i <;> rw [setF_at] <;> cases L[i]? <;> rfl
theorem setF_fz (L : List Gi_arc) (f : Nat → Int) : fzI (setF L f) = fzI L := by
  funext i
  unfold fzI
  rw [setF_at]
  cases L[i]? <;> rfl
theorem setF_fl {L : List Gi_arc} {f : Nat → Int} (h : ∀ i, L.length ≤ i → f i = 0) : flI (setF L f) = f := by
  funext i
  unfold flI
  rw [setF_at]
  by_cases hi : i < L.length
  · rw [List.getElem?_eq_getElem hi]; rfl
  · rw [List.getElem?_eq_none (by omega), h i (by omega)]; rfl
theorem setF_set {L : List Gi_arc} {f : Nat → Int} {k : Nat} {a : Gi_arc} (h : L[k]? = some a) (y : Int) : (setF L f).set k (Gi_arc.mk a.from_ a.to_ a.most y a.frozen) = setF L (updF f k y) := by
  refine List.ext_getElem? fun i => ?_
  rw [setF_at, List.getElem?_set, setF_len, setF_at]
  have hk := (List.getElem?_eq_some_iff.1 h).1
  by_cases e : k = i
  · subst e
    rw [if_pos rfl, if_pos hk, h]
    simp [updF]
  · rw [if_neg e]
    cases L[i]? with
    | none => rfl
    | some b => simp [updF, Ne.symm e]
theorem WfI.set {L : List Gi_arc} {n : Nat} (h : WfI L n) (f : Nat → Int) : WfI (setF L f) n where
  len := by rw [setF_len]; exact h.len
  pl := h.pl
  a x hx := by
    obtain ⟨i, hi⟩ := List.getElem?_of_mem hx
    rw [setF_at, Option.map_eq_some_iff] at hi
    obtain ⟨a, ha, rfl⟩ := hi
    exact h.a a (List.mem_of_getElem? ha)
structure FbI (L : List Gi_arc) (f : Nat → Int) : Prop where
  b : ∀ (i : Nat) a, L[i]? = some a → 0 ≤ f i ∧ f i ≤ a.most
  m : ∀ (i : Nat) a, L[i]? = some a → a.most ≤ 1000000000
  z : ∀ i, L.length ≤ i → f i = 0
theorem FbI.nt {L : List Gi_arc} {n : Nat} {f : Nat → Int} (h : FbI L f) : ∀ i ∈ (ntI L n).I, 0 ≤ f i ∧ f i ≤ (ntI L n).mo i := fun i hi => by
  have hi := List.getElem?_eq_getElem (List.mem_range.1 hi)
  have := h.b i _ hi
  simp only [ntI, hi]
  exact this
theorem FbI.of {L : List Gi_arc} {n : Nat} {f f' : Nat → Int} (h : FbI L f) (hb : ∀ i ∈ (ntI L n).I, 0 ≤ f' i ∧ f' i ≤ (ntI L n).mo i) (hz : ∀ i, L.length ≤ i → f' i = 0) : FbI L f' where
  b i a hi := by
    have := hb i (List.mem_range.2 (List.getElem?_eq_some_iff.1 hi).1)
    simp only [ntI, hi] at this
    exact this
  m := h.m
  z := hz
theorem seen_i {L : List Gi_arc} {n s : Nat} {f : Nat → Int} {V : List Gi_visit} {Q : List Nat} (hL : WfI L n) (hF : FoundI (setF L f) n s V Q) (hT : Tree (ntI L n) f (fzI L) s ((rvI V).rank Q)) {v : Nat} (hv : ((rvI V).rank Q).seen v = true) (hs : v ≠ s) :
    ∃ x a, V[v]? = some x ∧ 0 ≤ x.arc ∧ ((rvI V).rank Q).arc v = x.arc.toNat ∧ ((rvI V).rank Q).back v = x.back ∧ L[x.arc.toNat]? = some a ∧ 0 ≤ a.from_ ∧ 0 ≤ a.to_ ∧ (ntI L n).fr x.arc.toNat = a.from_.toNat ∧ (ntI L n).tt x.arc.toNat = a.to_.toNat ∧ (ntI L n).mo x.arc.toNat = a.most := by
  have hv0 := hv
  simp only [Rch.rank, rvI] at hv
  split at hv
  · rename_i x hx
    have h1 := hT.arc v hv0 hs
    have e1 : ((rvI V).rank Q).arc v = x.arc.toNat := by simp only [Rch.rank, rvI, hx]
    have e2 : ((rvI V).rank Q).back v = x.back := by simp only [Rch.rank, rvI, hx]
    rw [e1] at h1
    have ha := List.getElem?_eq_getElem (show x.arc.toNat < L.length from List.mem_range.1 h1.1)
    have wf := hL.a _ (List.getElem_mem (show x.arc.toNat < L.length from List.mem_range.1 h1.1))
    exact ⟨x, _, hx, hF.arc v x hx hv hs, e1, e2, ha, wf.1, wf.2.2.1, by simp only [ntI, ha], by simp only [ntI, ha], by simp only [ntI, ha]⟩
  · cases hv
theorem push_min {L : List Gi_arc} {n s t : Nat} {p lim mv : Int} {f : Nat → Int} {V : List Gi_visit} {Q : List Nat} (hL : WfI L n) (hf : FbI L f) (hF : FoundI (setF L f) n s V Q) (hT : Tree (ntI L n) f (fzI L) s ((rvI V).rank Q)) : ∀ (k : Nat) (v : Nat) (r : Int), ((rvI V).rank Q).seen v = true → ((rvI V).rank Q).rk v < k →
    loop Bi_network_push (.h2 (s : Int) (t : Int) lim mv r (v : Int) p (setF L f) V) = loop Bi_network_push (.h3 (s : Int) (t : Int) lim mv (minF (ntI L n) ((rvI V).rank Q) f s k r v) (t : Int) p (setF L f) V)
  | 0, v, r, _, h => by omega
  | k + 1, v, r, hv, hk => by
    by_cases e : v = s
    · subst e
      rw [loop_eq, Bi_network_push.eq_2, if_pos rfl]
      unfold minF
      rw [if_pos rfl]
      rfl
    · obtain ⟨x, a, hx, h0, e1, e2, ha, g1, g2, n1, n2, n3⟩ := seen_i hL hF hT hv e
      have hp := hT.pv v hv e
      have hb := hf.b _ _ ha
      have hm := hf.m _ _ ha
      have hsf : (setF L f)[Int.toNat x.arc]? = some (Gi_arc.mk a.from_ a.to_ a.most (f x.arc.toNat) a.frozen) := by rw [setF_at, ha]; rfl
      have hx' : V[Int.toNat (v : Int)]? = some x := hx
      have ne : ¬ ((v : Int) = (s : Int)) := by omega
      rw [loop_eq, Bi_network_push.eq_2, if_neg ne, if_pos (by omega), obind hx', if_pos h0, obind hsf, if_pos (by omega), obind hx']
      unfold minF
      rw [if_neg e]
      have ih := fun (w : Nat) (r' : Int) (hw : w = ((rvI V).rank Q).pv (ntI L n) v) => push_min (s := s) (t := t) (p := p) (lim := lim) (mv := mv) hL hf hF hT k w r' (by rw [hw]; exact hp.1) (by rw [hw]; have := hp.2; omega)
      unfold Rch.res
      rw [e1, e2]
      cases hbk : x.back with
      | true =>
        have hpv : a.to_.toNat = ((rvI V).rank Q).pv (ntI L n) v := by unfold Rch.pv; rw [e1, e2, hbk, if_pos rfl, n2]
        rw [if_pos rfl, if_pos rfl, ← hpv, ← ih _ _ hpv, show ((a.to_.toNat : Nat) : Int) = a.to_ by omega]
        rfl
      | false =>
        have hpv : a.from_.toNat = ((rvI V).rank Q).pv (ntI L n) v := by unfold Rch.pv; rw [e1, e2, hbk, if_neg (by simp), n1]
        have hff : ¬ (false = true) := by simp
        simp only [if_neg hff]
        rw [n3, ← hpv, ← ih _ _ hpv, show ((a.from_.toNat : Nat) : Int) = a.from_ by omega, w64 (n := a.most - f x.arc.toNat) (by omega)]
        rfl
theorem push_aug {L : List Gi_arc} {n s t : Nat} {p lim mv : Int} {f0 : Nat → Int} {V : List Gi_visit} {Q : List Nat} (hL : WfI L n) (hF : FoundI (setF L f0) n s V Q) (hT : Tree (ntI L n) f0 (fzI L) s ((rvI V).rank Q)) {room : Int} (hr : 0 ≤ room ∧ room ≤ 1000000000) (hm : ∀ (i : Nat) a, L[i]? = some a → a.most ≤ 1000000000) : ∀ (k : Nat) (v : Nat) (f : Nat → Int) (r : Int), ((rvI V).rank Q).seen v = true → ((rvI V).rank Q).rk v < k →
    (∀ (i : Nat) a, L[i]? = some a → 0 ≤ f i ∧ f i ≤ 1000000000) → (∀ i, L.length ≤ i → f i = 0) → (∀ w, ((rvI V).rank Q).seen w = true → w ≠ s → ((rvI V).rank Q).rk w ≤ ((rvI V).rank Q).rk v → f (((rvI V).rank Q).arc w) = f0 (((rvI V).rank Q).arc w)) → room ≤ minF (ntI L n) ((rvI V).rank Q) f0 s k r v →
    loop Bi_network_push (.h3 (s : Int) (t : Int) lim mv room (v : Int) p (setF L f) V) = loop Bi_network_push (.h1 (s : Int) (t : Int) lim (IntKind.wrap .i64 (mv + room)) p (setF L (augF (ntI L n) ((rvI V).rank Q) s room k f v)))
  | 0, v, f, r, _, h, _, _, _, _ => by omega
  | k + 1, v, f, r, hv, hk, hb, hz, heq, hmn => by
    by_cases e : v = s
    · subst e
      rw [loop_eq, Bi_network_push.eq_3, if_pos rfl]
      unfold augF
      rw [if_pos rfl]
      rfl
    · obtain ⟨x, a, hx, h0, e1, e2, ha, g1, g2, n1, n2, n3⟩ := seen_i hL hF hT hv e
      have hp := hT.pv v hv e
      have hbv := hb _ _ ha
      have hmv := hm _ _ ha
      have hv0 := heq v hv e (Nat.le_refl _)
      have hrv := Int.le_trans hmn (minF_res (k := k) (r := r) e)
      unfold minF at hmn
      rw [if_neg e] at hmn
      have hsf : (setF L f)[Int.toNat x.arc]? = some (Gi_arc.mk a.from_ a.to_ a.most (f x.arc.toNat) a.frozen) := by rw [setF_at, ha]; rfl
      have hx' : V[Int.toNat (v : Int)]? = some x := hx
      have ne : ¬ ((v : Int) = (s : Int)) := by omega
      rw [loop_eq, Bi_network_push.eq_3, if_neg ne, if_pos (by omega), obind hx', if_pos h0, obind hsf, if_pos (by omega), obind hx']
      unfold augF
      rw [if_neg e]
      unfold Rch.res at hrv
      rw [e1] at hv0 hrv
      rw [e2] at hrv
      rw [e1, e2]
      have hlt : x.arc.toNat < L.length := (List.getElem?_eq_some_iff.1 ha).1
      have rest : ∀ (y : Int) (w : Nat), w = ((rvI V).rank Q).pv (ntI L n) v → 0 ≤ y ∧ y ≤ 1000000000 →
          loop Bi_network_push (.h3 (s : Int) (t : Int) lim mv room (w : Int) p (setF L (updF f x.arc.toNat y)) V) = loop Bi_network_push (.h1 (s : Int) (t : Int) lim (IntKind.wrap .i64 (mv + room)) p (setF L (augF (ntI L n) ((rvI V).rank Q) s room k (updF f x.arc.toNat y) w))) := fun y w hw hy => by
        refine push_aug (s := s) (t := t) (p := p) (lim := lim) (mv := mv) hL hF hT hr hm k w _ _ (by rw [hw]; exact hp.1) (by rw [hw]; have := hp.2; omega) (fun i b hi => ?_) (fun i hi => ?_) (fun u hu hus hur => ?_) (by rw [hw]; exact hmn)
        · unfold updF
          split
          · exact hy
          · exact hb i b hi
        · unfold updF
          rw [if_neg (by omega)]
          exact hz i hi
        · rw [hw] at hur
          have := hT.apart hv e hu hus (by have := hp.2; omega)
          rw [e1] at this
          unfold updF
          rw [if_neg this]
          exact heq u hu hus (by have := hp.2; omega)
      cases hbk : x.back with
      | true =>
        have hpv : a.to_.toNat = ((rvI V).rank Q).pv (ntI L n) v := by unfold Rch.pv; rw [e1, e2, hbk, if_pos rfl, n2]
        rw [hbk, if_pos rfl] at hrv
        have hw : IntKind.wrap .i64 (f x.arc.toNat - room) = f x.arc.toNat - room := w64 (by omega)
        have hset : List.set (setF L f) (Int.toNat x.arc) (Gi_arc.mk a.from_ a.to_ a.most (IntKind.wrap .i64 (f x.arc.toNat - room)) a.frozen) = setF L (updF f x.arc.toNat (f x.arc.toNat - room)) := by rw [hw]; exact setF_set ha _
        have hget : (setF L (updF f x.arc.toNat (f x.arc.toNat - room)))[Int.toNat x.arc]? = some (Gi_arc.mk a.from_ a.to_ a.most (f x.arc.toNat - room) a.frozen) := by rw [setF_at, ha]; simp [updF]
        rw [if_pos rfl, if_pos rfl, hset, obind hget, ← hpv, ← rest _ _ hpv (by omega), show ((a.to_.toNat : Nat) : Int) = a.to_ by omega]
        rfl
      | false =>
        have hpv : a.from_.toNat = ((rvI V).rank Q).pv (ntI L n) v := by unfold Rch.pv; rw [e1, e2, hbk, if_neg (by simp), n1]
        rw [hbk, if_neg (by simp), n3] at hrv
        have hw : IntKind.wrap .i64 (f x.arc.toNat + room) = f x.arc.toNat + room := w64 (by omega)
        have hset : List.set (setF L f) (Int.toNat x.arc) (Gi_arc.mk a.from_ a.to_ a.most (IntKind.wrap .i64 (f x.arc.toNat + room)) a.frozen) = setF L (updF f x.arc.toNat (f x.arc.toNat + room)) := by rw [hw]; exact setF_set ha _
        have hget : (setF L (updF f x.arc.toNat (f x.arc.toNat + room)))[Int.toNat x.arc]? = some (Gi_arc.mk a.from_ a.to_ a.most (f x.arc.toNat + room) a.frozen) := by rw [setF_at, ha]; simp [updF]
        have hff : ¬ (false = true) := by simp
        simp only [if_neg hff]
        rw [hset, obind hget, ← hpv, ← rest _ _ hpv (by omega), show ((a.from_.toNat : Nat) : Int) = a.from_ by omega]
        rfl

structure Pushed {ι : Type} (N : Nt ι) (fz : ι → Bool) (s t : Nat) (lim : Int) (f f' : ι → Int) (m : Int) : Prop where
  m0 : 0 ≤ m
  m1 : m ≤ lim
  keep : ∀ i, fz i = true → f' i = f i
  ex : ∀ x, exf N f' x = exf N f x + (if t = x then m else 0) - (if s = x then m else 0)
  sh : m = lim ∨ ∃ S, Shut N f' fz S ∧ S s = true ∧ S t = false
theorem augF_z {ι : Type} [DecidableEq ι] {N : Nt ι} {fz : ι → Bool} {R : Rch ι} {f0 : ι → Int} {s : Nat} (h : Tree N f0 fz s R) {room : Int} {i : ι} (hi : i ∉ N.I) : ∀ (k : Nat) (f : ι → Int) (v : Nat), R.seen v = true → augF N R s room k f v i = f i
  | 0, f, v, _ => rfl
  | k + 1, f, v, hv => by
    unfold augF
    split
    · rfl
    · rename_i e
      rw [augF_z h hi k _ _ (h.pv v hv e).1]
      unfold updF
      rw [if_neg fun e2 => hi (by rw [e2]; exact (h.arc v hv e).1)]
theorem push_loop {L : List Gi_arc} {n s t : Nat} {lim : Int} (hL : WfI L n) (hs : s < n) (ht : t < n) (hst : s ≠ t) (hlim : lim ≤ 1000000000) : ∀ (q : Nat) (mv : Int) (f : Nat → Int), 0 ≤ mv → mv ≤ lim → (lim - mv).toNat ≤ q → FbI L f →
    ∃ f' m, loop Bi_network_push (.h1 (s : Int) (t : Int) lim mv (n : Int) (setF L f)) = some (mv + m, Gi_network.mk (n : Int) (setF L f')) ∧ FbI L f' ∧ Pushed (ntI L n) (fzI L) s t (lim - mv) f f' m := by
  intro q
  induction q with
  | zero =>
    intro mv f h0 h1 hq hf
    refine ⟨f, 0, ?_, hf, by omega, by omega, fun _ _ => rfl, fun x => by split <;> split <;> omega, .inl (by omega)⟩
    rw [loop_eq, Bi_network_push.eq_1, if_neg (by omega), Int.add_zero]
    rfl
  | succ q ih =>
    intro mv f h0 h1 hq hf
    by_cases hc : mv < lim
    · obtain ⟨V, Q, hV, hF⟩ := search_i (hL.set f) hs
      have hsr := hF.sr
      rw [setF_nt, setF_fz, setF_fl hf.z] at hsr
      have htV : t < V.length := by rw [hF.len]; exact ht
      have hVt := List.getElem?_eq_getElem htV
      generalize V[t] = x at hVt
      have hVt' : V[Int.toNat (t : Int)]? = some x := hVt
      have hsn : ((rvI V).rank Q).seen t = x.seen := by simp only [Rch.rank, rvI, hVt]
      have ht0 : (0 : Int) ≤ (t : Int) := by omega
      cases hx : x.seen with
      | true =>
        rw [hx] at hsn
        have hroom : IntKind.wrap .i64 (lim - mv) = lim - mv := w64 (by omega)
        have hT := hsr.toTree
        have hpos := minF_pos hT (((rvI V).rank Q).rk t + 1) (lim - mv) t hsn (by omega)
        have hle := minF_le (N := ntI L n) (R := (rvI V).rank Q) (f := f) (s := s) (((rvI V).rank Q).rk t + 1) (lim - mv) t
        have e1 := push_min (t := t) (p := (n : Int)) (lim := lim) (mv := mv) hL hf hF hT (((rvI V).rank Q).rk t + 1) t (lim - mv) hsn (by omega)
        have hb1 : ∀ (i : Nat) a, L[i]? = some a → 0 ≤ f i ∧ f i ≤ 1000000000 := fun i a ha => ⟨(hf.b i a ha).1, Int.le_trans (hf.b i a ha).2 (hf.m i a ha)⟩
        generalize hm : minF (ntI L n) ((rvI V).rank Q) f s (((rvI V).rank Q).rk t + 1) (lim - mv) t = m at hpos hle e1
        have e2 := push_aug (t := t) (p := (n : Int)) (lim := lim) (mv := mv) hL hF hT (room := m) ⟨by omega, by omega⟩ hf.m (((rvI V).rank Q).rk t + 1) t f (lim - mv) hsn (by omega) hb1 hf.z (fun _ _ _ _ => rfl) (by omega)
        obtain ⟨a1, a2⟩ := aug_ok hL.ok hT (room := m) (by omega) (((rvI V).rank Q).rk t + 1) f t (lim - mv) hsn (by omega) hf.nt (fun _ _ _ _ => rfl) (by omega)
        have hz1 : ∀ i, L.length ≤ i → augF (ntI L n) ((rvI V).rank Q) s m (((rvI V).rank Q).rk t + 1) f t i = 0 := fun i hi => by
          rw [augF_z hT (fun h => by have := List.mem_range.1 h; omega) _ _ _ hsn]
          exact hf.z i hi
        generalize augF (ntI L n) ((rvI V).rank Q) s m (((rvI V).rank Q).rk t + 1) f t = f1 at e2 a1 a2 hz1
        have hf1 : FbI L f1 := hf.of a1.b hz1
        obtain ⟨f2, m2, e3, hf2, p2⟩ := ih (mv + m) f1 (by omega) (by omega) (by omega) hf1
        refine ⟨f2, m + m2, ?_, hf2, by have := p2.m0; omega, by have := p2.m1; omega, fun i hi => by rw [p2.keep i hi, a1.fz i hi], fun x => ?_, ?_⟩
        · rw [loop_eq, Bi_network_push.eq_1, if_pos hc, obind hV, if_pos ht0, obind hVt', if_pos hx, hroom]
          refine e1.trans (e2.trans ?_)
          rw [w64 (by omega), e3, Int.add_assoc]
        · rw [p2.ex x, a2 x]
          split <;> split <;> omega
        · rcases p2.sh with h | h
          · exact .inl (by omega)
          · exact .inr h
      | false =>
        rw [hx] at hsn
        refine ⟨f, 0, ?_, hf, by omega, by omega, fun _ _ => rfl, fun x => by split <;> split <;> omega, .inr ⟨_, hsr.shut hf.nt, hsr.s0, hsn⟩⟩
        rw [loop_eq, Bi_network_push.eq_1, if_pos hc, obind hV, if_pos ht0, obind hVt', if_neg (by rw [hx]; simp), Int.add_zero]
        rfl
    · refine ⟨f, 0, ?_, hf, by omega, by omega, fun _ _ => rfl, fun x => by split <;> split <;> omega, .inl (by omega)⟩
      rw [loop_eq, Bi_network_push.eq_1, if_neg hc, Int.add_zero]
      rfl
theorem push_i {L : List Gi_arc} {n s t : Nat} {lim : Int} (hL : WfI L n) (hs : s < n) (ht : t < n) (hst : s ≠ t) (hl0 : 0 ≤ lim) (hlim : lim ≤ 1000000000) {f : Nat → Int} (hf : FbI L f) :
    ∃ f' m, Di_network_push (Gi_network.mk (n : Int) (setF L f)) (s : Int) (t : Int) lim = some (m, Gi_network.mk (n : Int) (setF L f')) ∧ FbI L f' ∧ Pushed (ntI L n) (fzI L) s t lim f f' m := by
  obtain ⟨f', m, e, h1, h2⟩ := push_loop hL hs ht hst hlim lim.toNat 0 f (by omega) hl0 (by omega) hf
  rw [Int.zero_add] at e
  rw [Int.sub_zero] at h2
  exact ⟨f', m, e, h1, h2⟩

def setG (L : List Gs_qArc) (f : Nat → Int) : List Gs_qArc := L.mapIdx fun i a => Gs_qArc.mk a.from_ a.to_ a.most (f i)
theorem setG_at (L : List Gs_qArc) (f : Nat → Int) (i : Nat) : (setG L f)[i]? = (L[i]?).map fun a => Gs_qArc.mk a.from_ a.to_ a.most (f i) := by
  unfold setG
  rw [List.getElem?_mapIdx]
theorem setG_len (L : List Gs_qArc) (f : Nat → Int) : (setG L f).length = L.length := by simp [setG]
theorem setG_nt (L : List Gs_qArc) (f : Nat → Int) (n : Nat) : ntS (setG L f) n = ntS L n := by
  unfold ntS
  rw [setG_len]
  congr 1 <;> funext i <;> rw [setG_at] <;> cases L[i]? <;> rfl
theorem setG_rv (L : List Gs_qArc) (f : Nat → Int) (V : List Int) : rvS (setG L f) V = rvS L V := by
  unfold rvS
  congr 1
  funext v
  cases V[v]? with
  | none => rfl
  | some x =>
    simp only
    rw [setG_at]
    cases L[x.toNat]? <;> rfl
theorem setG_fl {L : List Gs_qArc} {f : Nat → Int} (h : ∀ i, L.length ≤ i → f i = 0) : flS (setG L f) = f := by
  funext i
  unfold flS
  rw [setG_at]
  by_cases hi : i < L.length
  · rw [List.getElem?_eq_getElem hi]; rfl
  · rw [List.getElem?_eq_none (by omega), h i (by omega)]; rfl
theorem setG_set {L : List Gs_qArc} {f : Nat → Int} {k : Nat} {a : Gs_qArc} (h : L[k]? = some a) (y : Int) : (setG L f).set k (Gs_qArc.mk a.from_ a.to_ a.most y) = setG L (updF f k y) := by
  refine List.ext_getElem? fun i => ?_
  rw [setG_at, List.getElem?_set, setG_len, setG_at]
  have hk := (List.getElem?_eq_some_iff.1 h).1
  by_cases e : k = i
  · subst e
    rw [if_pos rfl, if_pos hk, h]
    simp [updF]
  · rw [if_neg e]
    cases L[i]? with
    | none => rfl
    | some b => simp [updF, Ne.symm e]
theorem WfS.set {L : List Gs_qArc} {n : Nat} (h : WfS L n) (f : Nat → Int) : WfS (setG L f) n where
  len := by rw [setG_len]; exact h.len
  pl := h.pl
  a x hx := by
    obtain ⟨i, hi⟩ := List.getElem?_of_mem hx
    rw [setG_at, Option.map_eq_some_iff] at hi
    obtain ⟨a, ha, rfl⟩ := hi
    exact h.a a (List.mem_of_getElem? ha)
structure FbS (L : List Gs_qArc) (f : Nat → Int) : Prop where
  b : ∀ (i : Nat) a, L[i]? = some a → 0 ≤ f i ∧ f i ≤ a.most
  m : ∀ (i : Nat) a, L[i]? = some a → a.most ≤ 1000000000
  z : ∀ i, L.length ≤ i → f i = 0
theorem FbS.nt {L : List Gs_qArc} {n : Nat} {f : Nat → Int} (h : FbS L f) : ∀ i ∈ (ntS L n).I, 0 ≤ f i ∧ f i ≤ (ntS L n).mo i := fun i hi => by
  have hi := List.getElem?_eq_getElem (List.mem_range.1 hi)
  have := h.b i _ hi
  simp only [ntS, hi]
  exact this
theorem FbS.of {L : List Gs_qArc} {n : Nat} {f f' : Nat → Int} (h : FbS L f) (hb : ∀ i ∈ (ntS L n).I, 0 ≤ f' i ∧ f' i ≤ (ntS L n).mo i) (hz : ∀ i, L.length ≤ i → f' i = 0) : FbS L f' where
  b i a hi := by
    have := hb i (List.mem_range.2 (List.getElem?_eq_some_iff.1 hi).1)
    simp only [ntS, hi] at this
    exact this
  m := h.m
  z := hz
theorem seen_s {L : List Gs_qArc} {n s : Nat} {f : Nat → Int} {V : List Int} {Q : List Nat} (hL : WfS L n) (hF : FoundS (setG L f) n s V Q) (hT : Tree (ntS L n) f fzN s ((rvS L V).rank Q)) {v : Nat} (hv : ((rvS L V).rank Q).seen v = true) (hs : v ≠ s) :
    ∃ x a, V[v]? = some x ∧ 0 ≤ x ∧ ((rvS L V).rank Q).arc v = x.toNat ∧ (((rvS L V).rank Q).back v = true ↔ a.to_ ≠ (v : Int)) ∧ L[x.toNat]? = some a ∧ 0 ≤ a.from_ ∧ a.from_ < (n : Int) ∧ 0 ≤ a.to_ ∧ a.to_ < (n : Int) ∧ (ntS L n).fr x.toNat = a.from_.toNat ∧ (ntS L n).tt x.toNat = a.to_.toNat ∧ (ntS L n).mo x.toNat = a.most ∧
      ((if a.to_ = (v : Int) then a.from_.toNat else a.to_.toNat) = ((rvS L V).rank Q).pv (ntS L n) v ∧ a.from_ + a.to_ - (v : Int) = ((((rvS L V).rank Q).pv (ntS L n) v : Nat) : Int)) := by
  have hv0 := hv
  have how := hT.own v hv0 hs
  simp only [Rch.rank, rvS] at hv
  split at hv
  · rename_i x hx
    have h1 := hT.arc v hv0 hs
    have e1 : ((rvS L V).rank Q).arc v = x.toNat := by simp only [Rch.rank, rvS, hx]
    rw [e1] at h1
    have hl : x.toNat < L.length := List.mem_range.1 h1.1
    have ha := List.getElem?_eq_getElem hl
    have wf := hL.a _ (List.getElem_mem hl)
    generalize L[x.toNat] = a at ha wf
    have e2 : (((rvS L V).rank Q).back v = true ↔ a.to_ ≠ (v : Int)) := by simp only [Rch.rank, rvS, hx, ha, decide_eq_true_eq]
    have n1 : (ntS L n).fr x.toNat = a.from_.toNat := by simp only [ntS, ha]
    have n2 : (ntS L n).tt x.toNat = a.to_.toNat := by simp only [ntS, ha]
    refine ⟨x, a, hx, hF.arc v x hx (by simpa using hv) hs, e1, e2, ha, wf.1, wf.2.1, wf.2.2.1, wf.2.2.2.1, n1, n2, by simp only [ntS, ha], ?_⟩
    unfold Rch.pv
    rw [e1, n1, n2] at how ⊢
    by_cases c : a.to_ = (v : Int)
    · have : ¬ ((rvS L V).rank Q).back v = true := fun h => e2.1 h c
      rw [if_pos c, if_neg this]
      omega
    · have := e2.2 c
      rw [if_pos this] at how
      rw [if_neg c, if_pos this]
      omega
  · cases hv
theorem other_s {L : List Gs_qArc} {p : Int} {x : Int} {a : Gs_qArc} {v w : Nat} (h0 : 0 ≤ x) (ha : L[x.toNat]? = some a) (hf : 0 ≤ a.from_ ∧ a.from_ < 2000) (ht : 0 ≤ a.to_ ∧ a.to_ < 2000) (hv : v < 2000) (hw : a.from_ + a.to_ - (v : Int) = (w : Int)) : Ds_qNet_other (Gs_qNet.mk L p) x (v : Int) = some (w : Int) := by
  have ha' : (Gs_qNet.mk L p).arcs[Int.toNat x]? = some a := ha
  unfold Ds_qNet_other
  rw [if_pos h0, obind ha', if_pos h0, obind ha', w64 (n := a.from_ + a.to_) (by omega), w64 (by omega), hw]
theorem roomQ {L : List Gs_qArc} {p : Int} {x : Int} {a : Gs_qArc} {v : Nat} (h0 : 0 ≤ x) (ha : L[x.toNat]? = some a) (hb : 0 ≤ a.flow ∧ a.flow ≤ a.most ∧ a.most ≤ 1000000000) : Ds_qNet_room (Gs_qNet.mk L p) x (v : Int) = some (if a.to_ = (v : Int) then a.most - a.flow else a.flow) := by
  have ha' : (Gs_qNet.mk L p).arcs[Int.toNat x]? = some a := ha
  unfold Ds_qNet_room
  rw [if_pos h0, obind ha']
  split
  · rw [obind ha', obind ha', w64 (by omega)]
  · rw [obind ha']
theorem fill_min {L : List Gs_qArc} {n s t : Nat} {p lim mv : Int} {f : Nat → Int} {V : List Int} {Q : List Nat} (hL : WfS L n) (hf : FbS L f) (hF : FoundS (setG L f) n s V Q) (hT : Tree (ntS L n) f fzN s ((rvS L V).rank Q)) : ∀ (k : Nat) (v : Nat) (r : Int), ((rvS L V).rank Q).seen v = true → ((rvS L V).rank Q).rk v < k →
    loop Bs_qNet_fill (.h2 (s : Int) (t : Int) lim mv r (v : Int) p (setG L f) V) = loop Bs_qNet_fill (.h3 (s : Int) (t : Int) lim mv (minF (ntS L n) ((rvS L V).rank Q) f s k r v) (t : Int) p (setG L f) V)
  | 0, v, r, _, h => by omega
  | k + 1, v, r, hv, hk => by
    by_cases e : v = s
    · subst e
      rw [loop_eq, Bs_qNet_fill.eq_2, if_pos rfl]
      unfold minF
      rw [if_pos rfl]
      rfl
    · obtain ⟨x, a, hx, h0, e1, e2, ha, g1, g2, g3, g4, n1, n2, n3, hpv, hpo⟩ := seen_s hL hF hT hv e
      have hn := hL.pl
      have hp := hT.pv v hv e
      have hvn := hT.lt v hv
      have hvn : v < n := hvn
      have hb := hf.b _ _ ha
      have hm := hf.m _ _ ha
      have hsf : (setG L f)[x.toNat]? = some (Gs_qArc.mk a.from_ a.to_ a.most (f x.toNat)) := by rw [setG_at, ha]; rfl
      have hx' : V[Int.toNat (v : Int)]? = some x := hx
      have ne : ¬ ((v : Int) = (s : Int)) := by omega
      have hroom := roomQ (p := p) (v := v) h0 hsf ⟨hb.1, hb.2, hm⟩
      have hoth := other_s (p := p) h0 hsf ⟨g1, by show a.from_ < 2000; omega⟩ ⟨g3, by show a.to_ < 2000; omega⟩ (by omega) hpo
      simp only at hroom
      have hle : Ds_l1Least r (if a.to_ = (v : Int) then a.most - f x.toNat else f x.toNat) = some (if ((rvS L V).rank Q).res (ntS L n) f v < r then ((rvS L V).rank Q).res (ntS L n) f v else r) := by
        have hres : ((rvS L V).rank Q).res (ntS L n) f v = (if a.to_ = (v : Int) then a.most - f x.toNat else f x.toNat) := by
          unfold Rch.res
          rw [e1, n3]
          by_cases c : a.to_ = (v : Int)
          · rw [if_pos c, if_neg fun h => e2.1 h c]
          · rw [if_neg c, if_pos (e2.2 c)]
        rw [hres]
        unfold Ds_l1Least
        split <;> split <;> first | rfl | (congr 1; omega)
      rw [loop_eq, Bs_qNet_fill.eq_2, if_neg ne, if_pos (by omega), obind hx', obind hroom, obind hle, if_pos (by omega), obind hx', obind hoth]
      unfold minF
      rw [if_neg e]
      exact fill_min hL hf hF hT k _ _ hp.1 (by have := hp.2; omega)
theorem fill_aug {L : List Gs_qArc} {n s t : Nat} {p lim mv : Int} {f0 : Nat → Int} {V : List Int} {Q : List Nat} (hL : WfS L n) (hF : FoundS (setG L f0) n s V Q) (hT : Tree (ntS L n) f0 fzN s ((rvS L V).rank Q)) {room : Int} (hr : 0 ≤ room ∧ room ≤ 1000000000) (hm : ∀ (i : Nat) a, L[i]? = some a → a.most ≤ 1000000000) : ∀ (k : Nat) (v : Nat) (f : Nat → Int) (r : Int), ((rvS L V).rank Q).seen v = true → ((rvS L V).rank Q).rk v < k →
    (∀ (i : Nat) a, L[i]? = some a → 0 ≤ f i ∧ f i ≤ 1000000000) → (∀ i, L.length ≤ i → f i = 0) → (∀ w, ((rvS L V).rank Q).seen w = true → w ≠ s → ((rvS L V).rank Q).rk w ≤ ((rvS L V).rank Q).rk v → f (((rvS L V).rank Q).arc w) = f0 (((rvS L V).rank Q).arc w)) → room ≤ minF (ntS L n) ((rvS L V).rank Q) f0 s k r v →
    loop Bs_qNet_fill (.h3 (s : Int) (t : Int) lim mv room (v : Int) p (setG L f) V) = loop Bs_qNet_fill (.h1 (s : Int) (t : Int) lim (IntKind.wrap .i64 (mv + room)) p (setG L (augF (ntS L n) ((rvS L V).rank Q) s room k f v)))
  | 0, v, f, r, _, h, _, _, _, _ => by omega
  | k + 1, v, f, r, hv, hk, hb, hz, heq, hmn => by
    by_cases e : v = s
    · subst e
      rw [loop_eq, Bs_qNet_fill.eq_3, if_pos rfl]
      unfold augF
      rw [if_pos rfl]
      rfl
    · obtain ⟨x, a, hx, h0, e1, e2, ha, g1, g2, g3, g4, n1, n2, n3, hpv, hpo⟩ := seen_s hL hF hT hv e
      have hn := hL.pl
      have hp := hT.pv v hv e
      have hvn : v < n := hT.lt v hv
      have hbv := hb _ _ ha
      have hmv := hm _ _ ha
      have hv0 := heq v hv e (Nat.le_refl _)
      have hrv := Int.le_trans hmn (minF_res (k := k) (r := r) e)
      unfold minF at hmn
      rw [if_neg e] at hmn
      have hsf : (setG L f)[x.toNat]? = some (Gs_qArc.mk a.from_ a.to_ a.most (f x.toNat)) := by rw [setG_at, ha]; rfl
      have hx' : V[Int.toNat (v : Int)]? = some x := hx
      have ne : ¬ ((v : Int) = (s : Int)) := by omega
      have hoth := other_s (p := p) h0 hsf ⟨g1, by show a.from_ < 2000; omega⟩ ⟨g3, by show a.to_ < 2000; omega⟩ (by omega) hpo
      rw [loop_eq, Bs_qNet_fill.eq_3, if_neg ne, if_pos (by omega), obind hx', if_pos h0, obind hsf, if_pos (by omega), obind hx', obind hoth]
      unfold augF
      rw [if_neg e]
      unfold Rch.res at hrv
      rw [e1] at hv0 hrv
      rw [e1]
      have hlt : x.toNat < L.length := (List.getElem?_eq_some_iff.1 ha).1
      have rest : ∀ (y : Int), 0 ≤ y ∧ y ≤ 1000000000 →
          loop Bs_qNet_fill (.h3 (s : Int) (t : Int) lim mv room ((((rvS L V).rank Q).pv (ntS L n) v : Nat) : Int) p (setG L (updF f x.toNat y)) V) = loop Bs_qNet_fill (.h1 (s : Int) (t : Int) lim (IntKind.wrap .i64 (mv + room)) p (setG L (augF (ntS L n) ((rvS L V).rank Q) s room k (updF f x.toNat y) (((rvS L V).rank Q).pv (ntS L n) v)))) := fun y hy => by
        refine fill_aug (s := s) (t := t) (p := p) (lim := lim) (mv := mv) hL hF hT hr hm k _ _ _ hp.1 (by have := hp.2; omega) (fun i b hi => ?_) (fun i hi => ?_) (fun u hu hus hur => ?_) hmn
        · unfold updF
          split
          · exact hy
          · exact hb i b hi
        · unfold updF
          rw [if_neg (by omega)]
          exact hz i hi
        · have := hT.apart hv e hu hus (by have := hp.2; omega)
          rw [e1] at this
          unfold updF
          rw [if_neg this]
          exact heq u hu hus (by have := hp.2; omega)
      by_cases c : a.to_ = (v : Int)
      · have hbk : ¬ ((rvS L V).rank Q).back v = true := fun h => e2.1 h c
        rw [if_neg hbk, n3] at hrv
        have hset : List.set (setG L f) (Int.toNat x) (Gs_qArc.mk a.from_ a.to_ a.most (IntKind.wrap .i64 (f x.toNat + room))) = setG L (updF f x.toNat (f x.toNat + room)) := by rw [w64 (n := f x.toNat + room) (by omega)]; exact setG_set ha _
        rw [if_pos c, if_neg hbk, hset, ← rest _ (by omega)]
        rfl
      · have hbk := e2.2 c
        rw [if_pos hbk] at hrv
        have hset : List.set (setG L f) (Int.toNat x) (Gs_qArc.mk a.from_ a.to_ a.most (IntKind.wrap .i64 (f x.toNat - room))) = setG L (updF f x.toNat (f x.toNat - room)) := by rw [w64 (n := f x.toNat - room) (by omega)]; exact setG_set ha _
        rw [if_neg c, if_pos hbk, hset, ← rest _ (by omega)]
        rfl
theorem fill_loop_s {L : List Gs_qArc} {n s t : Nat} {lim : Int} (hL : WfS L n) (hs : s < n) (ht : t < n) (hst : s ≠ t) (hlim : lim ≤ 1000000000) : ∀ (q : Nat) (mv : Int) (f : Nat → Int), 0 ≤ mv → mv ≤ lim → (lim - mv).toNat ≤ q → FbS L f →
    ∃ f' m, loop Bs_qNet_fill (.h1 (s : Int) (t : Int) lim mv (n : Int) (setG L f)) = some (mv + m, Gs_qNet.mk (setG L f') (n : Int)) ∧ FbS L f' ∧ Pushed (ntS L n) fzN s t (lim - mv) f f' m := by
  intro q
  induction q with
  | zero =>
    intro mv f h0 h1 hq hf
    refine ⟨f, 0, ?_, hf, by omega, by omega, fun _ _ => rfl, fun x => by split <;> split <;> omega, .inl (by omega)⟩
    rw [loop_eq, Bs_qNet_fill.eq_1, if_neg (by omega), Int.add_zero]
    rfl
  | succ q ih =>
    intro mv f h0 h1 hq hf
    by_cases hc : mv < lim
    · obtain ⟨V, Q, hV, hF⟩ := search_s (hL.set f) hs
      have hsr := hF.sr
      rw [setG_nt, setG_rv, setG_fl hf.z] at hsr
      have htV : t < V.length := by rw [hF.len]; exact ht
      have hVt := List.getElem?_eq_getElem htV
      generalize V[t] = x at hVt
      have hVt' : V[Int.toNat (t : Int)]? = some x := hVt
      have hsn : ((rvS L V).rank Q).seen t = decide (x ≠ -1) := by simp only [Rch.rank, rvS, hVt]
      have ht0 : (0 : Int) ≤ (t : Int) := by omega
      by_cases hx : x = -1
      · have hsn : ((rvS L V).rank Q).seen t = false := by rw [hsn, hx]; rfl
        refine ⟨f, 0, ?_, hf, by omega, by omega, fun _ _ => rfl, fun x => by split <;> split <;> omega, .inr ⟨_, hsr.shut hf.nt, hsr.s0, hsn⟩⟩
        rw [loop_eq, Bs_qNet_fill.eq_1, if_pos hc, obind hV, if_pos ht0, obind hVt', if_pos (by omega), Int.add_zero]
        rfl
      · have hx0 := hF.arc t x hVt hx (Ne.symm hst)
        have hsn : ((rvS L V).rank Q).seen t = true := by rw [hsn]; simpa using hx
        have hroom : IntKind.wrap .i64 (lim - mv) = lim - mv := w64 (by omega)
        have hT := hsr.toTree
        have hpos := minF_pos hT (((rvS L V).rank Q).rk t + 1) (lim - mv) t hsn (by omega)
        have hle := minF_le (N := ntS L n) (R := (rvS L V).rank Q) (f := f) (s := s) (((rvS L V).rank Q).rk t + 1) (lim - mv) t
        have e1 := fill_min (t := t) (p := (n : Int)) (lim := lim) (mv := mv) hL hf hF hT (((rvS L V).rank Q).rk t + 1) t (lim - mv) hsn (by omega)
        have hb1 : ∀ (i : Nat) a, L[i]? = some a → 0 ≤ f i ∧ f i ≤ 1000000000 := fun i a ha => ⟨(hf.b i a ha).1, Int.le_trans (hf.b i a ha).2 (hf.m i a ha)⟩
        generalize hm : minF (ntS L n) ((rvS L V).rank Q) f s (((rvS L V).rank Q).rk t + 1) (lim - mv) t = m at hpos hle e1
        have e2 := fill_aug (t := t) (p := (n : Int)) (lim := lim) (mv := mv) hL hF hT (room := m) ⟨by omega, by omega⟩ hf.m (((rvS L V).rank Q).rk t + 1) t f (lim - mv) hsn (by omega) hb1 hf.z (fun _ _ _ _ => rfl) (by omega)
        obtain ⟨a1, a2⟩ := aug_ok hL.ok hT (room := m) (by omega) (((rvS L V).rank Q).rk t + 1) f t (lim - mv) hsn (by omega) hf.nt (fun _ _ _ _ => rfl) (by omega)
        have hz1 : ∀ i, L.length ≤ i → augF (ntS L n) ((rvS L V).rank Q) s m (((rvS L V).rank Q).rk t + 1) f t i = 0 := fun i hi => by
          rw [augF_z hT (fun h => by have := List.mem_range.1 h; omega) _ _ _ hsn]
          exact hf.z i hi
        generalize augF (ntS L n) ((rvS L V).rank Q) s m (((rvS L V).rank Q).rk t + 1) f t = f1 at e2 a1 a2 hz1
        have hf1 : FbS L f1 := hf.of a1.b hz1
        obtain ⟨f2, m2, e3, hf2, p2⟩ := ih (mv + m) f1 (by omega) (by omega) (by omega) hf1
        refine ⟨f2, m + m2, ?_, hf2, by have := p2.m0; omega, by have := p2.m1; omega, fun i hi => by rw [p2.keep i hi, a1.fz i hi], fun x => ?_, ?_⟩
        · rw [loop_eq, Bs_qNet_fill.eq_1, if_pos hc, obind hV, if_pos ht0, obind hVt', if_neg (by omega), hroom]
          refine e1.trans (e2.trans ?_)
          rw [w64 (by omega), e3, Int.add_assoc]
        · rw [p2.ex x, a2 x]
          split <;> split <;> omega
        · rcases p2.sh with h | h
          · exact .inl (by omega)
          · exact .inr h
    · refine ⟨f, 0, ?_, hf, by omega, by omega, fun _ _ => rfl, fun x => by split <;> split <;> omega, .inl (by omega)⟩
      rw [loop_eq, Bs_qNet_fill.eq_1, if_neg hc, Int.add_zero]
      rfl
theorem fillQ {L : List Gs_qArc} {n s t : Nat} {lim : Int} (hL : WfS L n) (hs : s < n) (ht : t < n) (hst : s ≠ t) (hl0 : 0 ≤ lim) (hlim : lim ≤ 1000000000) {f : Nat → Int} (hf : FbS L f) :
    ∃ f' m, Ds_qNet_fill (Gs_qNet.mk (setG L f) (n : Int)) (s : Int) (t : Int) lim = some (m, Gs_qNet.mk (setG L f') (n : Int)) ∧ FbS L f' ∧ Pushed (ntS L n) fzN s t lim f f' m := by
  obtain ⟨f', m, e, h1, h2⟩ := fill_loop_s hL hs ht hst hlim lim.toNat 0 f (by omega) hl0 (by omega) hf
  rw [Int.zero_add] at e
  rw [Int.sub_zero] at h2
  exact ⟨f', m, e, h1, h2⟩

structure LnOk (x : Gi_Lanes) (n : Nat) : Prop where
  dep : x.Depots = (n : Int)
  n0 : 2 ≤ n ∧ n ≤ 6
  len : x.Lanes.length ≤ 15
  st : x.Stores.length = n
  la : ∀ l ∈ x.Lanes, 0 ≤ l.From ∧ l.From < (n : Int) ∧ 0 ≤ l.To ∧ l.To < (n : Int) ∧ l.From ≠ l.To ∧ 0 ≤ l.Load ∧ l.Load ≤ 1000
  so : ∀ m ∈ x.Stores, 0 ≤ m ∧ m ≤ 1000
def laI (n d : Nat) (l : Gi_Lane) : Gi_arc := Gi_arc.mk ((d * n : Nat) + l.From) (((d + 1) * n : Nat) + l.To) l.Load 0 false
def saI (from_ to_ : Int) (n d k : Nat) (m : Int) : Gi_arc := Gi_arc.mk ((d * n + k : Nat) : Int) (((d + 1) * n + k : Nat) : Int) (if (k : Int) = from_ ∨ (k : Int) = to_ then 1000000000 else m) 0 false
def netI (x : Gi_Lanes) (from_ to_ : Int) (n days : Nat) : List Gi_arc :=
  (List.range days).flatMap (fun d => x.Lanes.map (laI n d)) ++ (List.range days).flatMap fun d => x.Stores.mapIdx fun k m => saI from_ to_ n d k m
theorem wdn {d n : Nat} (hdy : d ≤ 100) (hn : n ≤ 100) : IntKind.wrap .i64 ((d : Int) * (n : Int)) = ((d * n : Nat) : Int) := by
  have : d * n ≤ 100 * 100 := Nat.mul_le_mul hdy hn
  rw [w64 (by constructor <;> omega)]
  simp
theorem wdn1 {d n : Nat} (hdy : d ≤ 99) (hn : n ≤ 100) : IntKind.wrap .i64 (IntKind.wrap .i64 ((d : Int) + 1) * (n : Int)) = (((d + 1) * n : Nat) : Int) := by
  rw [wsucc (by omega)]
  exact wdn (by omega) hn
theorem mulD {d n : Nat} (hdy : d ≤ 10) (hn : n ≤ 10) : d * n ≤ 100 ∧ (d + 1) * n ≤ 110 := ⟨Nat.mul_le_mul hdy hn, by have := Nat.mul_le_mul (show d + 1 ≤ 11 by omega) hn; omega⟩
theorem netI_lane {x : Gi_Lanes} {n : Nat} (h : LnOk x n) {f t dy b c p : Int} {d : Nat} (hdy : d ≤ 10) : ∀ (m i : Nat) (acc : List Gi_arc), i + m = x.Lanes.length → acc.length + m ≤ 1000 →
    loop Bi_networkOf (.h4 f t dy (d : Int) b c x.Lanes ((x.Lanes.length : Nat) : Int) (i : Int) x p acc) = loop Bi_networkOf (.h5 f t dy b (IntKind.wrap .i64 (c + 1)) x p (acc ++ (x.Lanes.drop i).map (laI n d)))
  | 0, i, acc, hi, ha => by
    rw [loop_eq, Bi_networkOf.eq_4, if_neg (by omega), List.drop_eq_nil_of_le (by omega), List.map_nil, List.append_nil]
    rfl
  | m + 1, i, acc, hi, ha => by
    have hlt : i < x.Lanes.length := by omega
    have hl := List.getElem?_eq_getElem hlt
    have hl' : x.Lanes[Int.toNat (i : Int)]? = some x.Lanes[i] := hl
    have wf := h.la _ (List.getElem_mem hlt)
    have hb := mulD hdy (show n ≤ 10 by have := h.n0; omega)
    have hn := h.n0
    have hlen := h.len
    have e : Gi_arc.mk (IntKind.wrap .i64 (IntKind.wrap .i64 ((d : Int) * x.Depots) + x.Lanes[i].From)) (IntKind.wrap .i64 (IntKind.wrap .i64 (IntKind.wrap .i64 ((d : Int) + 1) * x.Depots) + x.Lanes[i].To)) x.Lanes[i].Load 0 false = laI n d x.Lanes[i] := by
      rw [h.dep, wdn (by omega) (by omega), wdn1 (by omega) (by omega), w64 (n := ((d * n : Nat) : Int) + _) (by omega), w64 (n := (((d + 1) * n : Nat) : Int) + _) (by omega)]
      rfl
    rw [loop_eq, Bi_networkOf.eq_4, if_pos (by omega), if_pos (by omega), obind hl', e, if_pos (by simp; omega), wsucc (by omega)]
    refine (netI_lane h hdy m (i + 1) _ (by omega) (by simp; omega)).trans ?_
    rw [List.drop_eq_getElem_cons hlt, List.map_cons, List.append_assoc]
    rfl
theorem netI_lanes {x : Gi_Lanes} {n : Nat} (h : LnOk x n) {f t dy p : Int} {D : Nat} (hD : D ≤ 10) : ∀ (m d : Nat) (acc : List Gi_arc), d + m = D → acc.length + m * 15 ≤ 1000 →
    loop Bi_networkOf (.h5 f t dy (D : Int) (d : Int) x p acc) = loop Bi_networkOf (.h3 f t dy 0 x p (acc ++ (List.range' d m).flatMap fun d => x.Lanes.map (laI n d)))
  | 0, d, acc, hdy, ha => by
    rw [loop_eq, Bi_networkOf.eq_5, if_neg (by omega)]
    simp
    rfl
  | m + 1, d, acc, hdy, ha => by
    have hlen := h.len
    rw [loop_eq, Bi_networkOf.eq_5, if_pos (by omega)]
    have e : loop Bi_networkOf (.h2 f t dy (d : Int) (D : Int) (d : Int) x.Lanes ((x.Lanes.length : Nat) : Int) 0 x p acc) = loop Bi_networkOf (.h4 f t dy (d : Int) (D : Int) (d : Int) x.Lanes ((x.Lanes.length : Nat) : Int) ((0 : Nat) : Int) x p acc) := by
      rw [loop_eq, loop_eq, Bi_networkOf.eq_2, Bi_networkOf.eq_4]
      rfl
    refine e.trans ((netI_lane h (by omega) x.Lanes.length 0 acc (by omega) (by omega)).trans ?_)
    rw [wsucc (by omega), List.drop_zero]
    refine (netI_lanes h hD m (d + 1) _ (by omega) (by simp; omega)).trans ?_
    rw [List.range'_succ, List.flatMap_cons, List.append_assoc]
theorem netI_store {x : Gi_Lanes} {n : Nat} (h : LnOk x n) {f t b c p : Int} {d : Nat} (hdy : d ≤ 10) : ∀ (m i : Nat) (acc : List Gi_arc), i + m = x.Stores.length → acc.length + m ≤ 1000 →
    loop Bi_networkOf (.h7 f t (d : Int) b c x.Stores ((x.Stores.length : Nat) : Int) (i : Int) x p acc) = loop Bi_networkOf (.h3 f t b (IntKind.wrap .i64 (c + 1)) x p (acc ++ (x.Stores.drop i).mapIdx fun k m => saI f t n d (i + k) m))
  | 0, i, acc, hi, ha => by
    rw [loop_eq, Bi_networkOf.eq_7, if_neg (by omega), List.drop_eq_nil_of_le (by omega), List.mapIdx_nil, List.append_nil]
    rfl
  | m + 1, i, acc, hi, ha => by
    have hlt : i < x.Stores.length := by omega
    have hl' : x.Stores[Int.toNat (i : Int)]? = some x.Stores[i] := List.getElem?_eq_getElem hlt
    have hb := mulD hdy (show n ≤ 10 by have := h.n0; omega)
    have hn := h.n0
    have hst := h.st
    have e : ∀ y, Gi_arc.mk (IntKind.wrap .i64 (IntKind.wrap .i64 ((d : Int) * x.Depots) + (i : Int))) (IntKind.wrap .i64 (IntKind.wrap .i64 (IntKind.wrap .i64 ((d : Int) + 1) * x.Depots) + (i : Int))) y 0 false = Gi_arc.mk ((d * n + i : Nat) : Int) (((d + 1) * n + i : Nat) : Int) y 0 false := fun y => by
      rw [h.dep, wdn (by omega) (by omega), wdn1 (by omega) (by omega), w64 (n := ((d * n : Nat) : Int) + _) (by omega), w64 (n := (((d + 1) * n : Nat) : Int) + _) (by omega)]
      rfl
    have ih := fun y (hy : y = saI f t n d i x.Stores[i]) => (netI_store h (f := f) (t := t) (b := b) (c := c) (p := p) hdy m (i + 1) (acc ++ [y]) (by omega) (by simp; omega)).trans (show _ = loop Bi_networkOf (.h3 f t b (IntKind.wrap .i64 (c + 1)) x p (acc ++ (x.Stores.drop i).mapIdx fun k m => saI f t n d (i + k) m)) by
      rw [List.drop_eq_getElem_cons hlt, List.mapIdx_cons, List.append_assoc, hy]
      simp only [Nat.add_zero, List.singleton_append, Nat.add_comm 1, Nat.add_assoc, Nat.add_left_comm])
    rw [loop_eq, Bi_networkOf.eq_7, if_pos (by omega), if_pos (by omega), obind hl', e, e, wsucc (by omega)]
    by_cases c1 : (i : Int) = f
    · rw [if_pos c1, if_pos (by simp; omega)]
      refine ih _ ?_
      unfold saI
      rw [if_pos (.inl c1)]
    · rw [if_neg c1]
      by_cases c2 : (i : Int) = t
      · rw [if_pos c2, if_pos (by simp; omega)]
        refine ih _ ?_
        unfold saI
        rw [if_pos (.inr c2)]
      · rw [if_neg c2, if_pos (by simp; omega)]
        refine ih _ ?_
        unfold saI
        rw [if_neg (by simp [c1, c2])]
theorem netI_stores {x : Gi_Lanes} {n : Nat} (h : LnOk x n) {f t p : Int} {D : Nat} (hD : D ≤ 10) : ∀ (m d : Nat) (acc : List Gi_arc), d + m = D → acc.length + m * 6 ≤ 1000 →
    loop Bi_networkOf (.h3 f t (D : Int) (d : Int) x p acc) = some (Gi_network.mk p (acc ++ (List.range' d m).flatMap fun d => x.Stores.mapIdx fun k m => saI f t n d k m))
  | 0, d, acc, hdy, ha => by
    rw [loop_eq, Bi_networkOf.eq_3, if_neg (by omega)]
    simp
    rfl
  | m + 1, d, acc, hdy, ha => by
    have hst := h.st
    have hn := h.n0
    rw [loop_eq, Bi_networkOf.eq_3, if_pos (by omega)]
    have e : loop Bi_networkOf (.h6 f t (d : Int) (D : Int) (d : Int) x.Stores ((x.Stores.length : Nat) : Int) 0 x p acc) = loop Bi_networkOf (.h7 f t (d : Int) (D : Int) (d : Int) x.Stores ((x.Stores.length : Nat) : Int) ((0 : Nat) : Int) x p acc) := by
      rw [loop_eq, loop_eq, Bi_networkOf.eq_6, Bi_networkOf.eq_7]
      rfl
    refine e.trans ((netI_store h (by omega) x.Stores.length 0 acc (by omega) (by omega)).trans ?_)
    rw [wsucc (by omega), List.drop_zero]
    simp only [Nat.zero_add]
    refine (netI_stores h hD m (d + 1) _ (by omega) (by simp; omega)).trans ?_
    rw [List.range'_succ, List.flatMap_cons, List.append_assoc]
theorem net_i {x : Gi_Lanes} {n days : Nat} (h : LnOk x n) (f t : Int) (hdy : days ≤ 10) : Di_networkOf x f t (days : Int) = some (Gi_network.mk (((days + 1) * n : Nat) : Int) (netI x f t n days)) := by
  have hn := h.n0
  unfold Di_networkOf
  have e : ∀ p, loop Bi_networkOf (.h1 f t (days : Int) (days : Int) 0 x p []) = loop Bi_networkOf (.h5 f t (days : Int) (days : Int) ((0 : Nat) : Int) x p []) := fun p => by
    rw [loop_eq, loop_eq, Bi_networkOf.eq_1, Bi_networkOf.eq_5]
    rfl
  rw [h.dep, wdn1 (by omega) (by omega), e, netI_lanes h hdy days 0 [] (by omega) (by simp; omega)]
  have hl := h.len
  have hll : ((List.range' 0 days).flatMap fun d => x.Lanes.map (laI n d)).length ≤ 150 := by
    rw [List.length_flatMap]
    simp only [List.length_map, List.map_const', List.sum_replicate_nat, List.length_range']
    have := Nat.mul_le_mul hdy hl
    omega
  exact (netI_stores h hdy days 0 _ (by omega) (by simp only [List.nil_append]; omega)).trans (by rw [List.nil_append, ← List.range_eq_range']; rfl)

def laS (n d : Nat) (l : Gi_Lane) : Gs_qArc := Gs_qArc.mk ((d * n : Nat) + l.From) (((d + 1) * n : Nat) + l.To) l.Load 0
def saS (from_ to_ : Int) (n d k : Nat) (m : Int) : Gs_qArc := Gs_qArc.mk ((d * n + k : Nat) : Int) (((d + 1) * n + k : Nat) : Int) (if (k : Int) = from_ ∨ (k : Int) = to_ then 1000000 else m) 0
def dayS (x : Gi_Lanes) (from_ to_ : Int) (n d : Nat) : List Gs_qArc := x.Lanes.map (laS n d) ++ x.Stores.mapIdx fun k m => saS from_ to_ n d k m
def netS (x : Gi_Lanes) (from_ to_ : Int) (n days : Nat) : List Gs_qArc := (List.range days).flatMap (dayS x from_ to_ n)
theorem dayS_len {x : Gi_Lanes} {n : Nat} (h : LnOk x n) (f t : Int) (d : Nat) : (dayS x f t n d).length = x.Lanes.length + n := by simp [dayS, h.st]
theorem netS_lane {x : Gi_Lanes} {n : Nat} (h : LnOk x n) {f t dy p : Int} {d : Nat} (hdy : d ≤ 10) : ∀ (m i : Nat) (acc : List Gs_qArc), i + m = x.Lanes.length → acc.length + m ≤ 1000 →
    loop Bs_qNetOf (.h2 f t dy (d : Int) ((d * n : Nat) : Int) (((d + 1) * n : Nat) : Int) x.Lanes ((x.Lanes.length : Nat) : Int) (i : Int) x p acc) = loop Bs_qNetOf (.h3 f t dy (d : Int) ((d * n : Nat) : Int) (((d + 1) * n : Nat) : Int) x.Stores ((x.Stores.length : Nat) : Int) 0 x p (acc ++ (x.Lanes.drop i).map (laS n d)))
  | 0, i, acc, hi, ha => by
    rw [loop_eq, Bs_qNetOf.eq_2, if_neg (by omega), List.drop_eq_nil_of_le (by omega), List.map_nil, List.append_nil]
    rfl
  | m + 1, i, acc, hi, ha => by
    have hlt : i < x.Lanes.length := by omega
    have hl := List.getElem?_eq_getElem hlt
    have hl' : x.Lanes[Int.toNat (i : Int)]? = some x.Lanes[i] := hl
    have wf := h.la _ (List.getElem_mem hlt)
    have hb := mulD hdy (show n ≤ 10 by have := h.n0; omega)
    have hn := h.n0
    have hlen := h.len
    have e : Gs_qArc.mk (IntKind.wrap .i64 (((d * n : Nat) : Int) + x.Lanes[i].From)) (IntKind.wrap .i64 ((((d + 1) * n : Nat) : Int) + x.Lanes[i].To)) x.Lanes[i].Load 0 = laS n d x.Lanes[i] := by
      rw [w64 (n := ((d * n : Nat) : Int) + _) (by omega), w64 (n := (((d + 1) * n : Nat) : Int) + _) (by omega)]
      rfl
    rw [loop_eq, Bs_qNetOf.eq_2, if_pos (by omega), if_pos (by omega), obind hl', e, if_pos (by simp; omega), wsucc (by omega)]
    refine (netS_lane h hdy m (i + 1) _ (by omega) (by simp; omega)).trans ?_
    rw [List.drop_eq_getElem_cons hlt, List.map_cons, List.append_assoc]
    rfl
theorem netS_store {x : Gi_Lanes} {n : Nat} (h : LnOk x n) {f t dy p : Int} {d : Nat} (hdy : d ≤ 10) : ∀ (m i : Nat) (acc : List Gs_qArc), i + m = x.Stores.length → acc.length + m ≤ 1000 →
    loop Bs_qNetOf (.h3 f t dy (d : Int) ((d * n : Nat) : Int) (((d + 1) * n : Nat) : Int) x.Stores ((x.Stores.length : Nat) : Int) (i : Int) x p acc) = loop Bs_qNetOf (.h1 f t dy (IntKind.wrap .i64 ((d : Int) + 1)) x p (acc ++ (x.Stores.drop i).mapIdx fun k m => saS f t n d (i + k) m))
  | 0, i, acc, hi, ha => by
    rw [loop_eq, Bs_qNetOf.eq_3, if_neg (by omega), List.drop_eq_nil_of_le (by omega), List.mapIdx_nil, List.append_nil]
    rfl
  | m + 1, i, acc, hi, ha => by
    have hlt : i < x.Stores.length := by omega
    have hl' : x.Stores[Int.toNat (i : Int)]? = some x.Stores[i] := List.getElem?_eq_getElem hlt
    have hb := mulD hdy (show n ≤ 10 by have := h.n0; omega)
    have hn := h.n0
    have hst := h.st
    have e : ∀ y, Gs_qArc.mk (IntKind.wrap .i64 (((d * n : Nat) : Int) + (i : Int))) (IntKind.wrap .i64 ((((d + 1) * n : Nat) : Int) + (i : Int))) y 0 = Gs_qArc.mk ((d * n + i : Nat) : Int) (((d + 1) * n + i : Nat) : Int) y 0 := fun y => by
      rw [w64 (n := ((d * n : Nat) : Int) + _) (by omega), w64 (n := (((d + 1) * n : Nat) : Int) + _) (by omega)]
      rfl
    have ih := fun y (hy : y = saS f t n d i x.Stores[i]) => (netS_store h (f := f) (t := t) (dy := dy) (p := p) hdy m (i + 1) (acc ++ [y]) (by omega) (by simp; omega)).trans (show _ = loop Bs_qNetOf (.h1 f t dy (IntKind.wrap .i64 ((d : Int) + 1)) x p (acc ++ (x.Stores.drop i).mapIdx fun k m => saS f t n d (i + k) m)) by
      rw [List.drop_eq_getElem_cons hlt, List.mapIdx_cons, List.append_assoc, hy]
      simp only [Nat.add_zero, List.singleton_append, Nat.add_comm 1, Nat.add_assoc, Nat.add_left_comm])
    rw [loop_eq, Bs_qNetOf.eq_3, if_pos (by omega), if_pos (by omega), obind hl', e, e, wsucc (by omega)]
    by_cases c1 : (i : Int) = f
    · rw [if_pos c1, if_pos (by simp; omega)]
      refine ih _ ?_
      unfold saS
      rw [if_pos (.inl c1)]
    · rw [if_neg c1]
      by_cases c2 : (i : Int) = t
      · rw [if_pos c2, if_pos (by simp; omega)]
        refine ih _ ?_
        unfold saS
        rw [if_pos (.inr c2)]
      · rw [if_neg c2, if_pos (by simp; omega)]
        refine ih _ ?_
        unfold saS
        rw [if_neg (by simp [c1, c2])]
theorem netS_days {x : Gi_Lanes} {n : Nat} (h : LnOk x n) {f t p : Int} {D : Nat} (hD : D ≤ 10) : ∀ (m d : Nat) (acc : List Gs_qArc), d + m = D → acc.length + m * 21 ≤ 1000 →
    loop Bs_qNetOf (.h1 f t (D : Int) (d : Int) x p acc) = some (Gs_qNet.mk (acc ++ (List.range' d m).flatMap (dayS x f t n)) p)
  | 0, d, acc, hdy, ha => by
    rw [loop_eq, Bs_qNetOf.eq_1, if_neg (by omega)]
    simp
    rfl
  | m + 1, d, acc, hdy, ha => by
    have hlen := h.len
    have hn := h.n0
    have hst := h.st
    rw [loop_eq, Bs_qNetOf.eq_1, if_pos (by omega), h.dep, wdn (by omega) (by omega), wdn1 (by omega) (by omega)]
    refine (netS_lane h (by omega) x.Lanes.length 0 acc (by omega) (by omega)).trans ?_
    rw [List.drop_zero]
    refine (netS_store h (by omega) x.Stores.length 0 _ (by omega) (by simp; omega)).trans ?_
    rw [wsucc (by omega), List.drop_zero]
    simp only [Nat.zero_add]
    refine (netS_days h hD m (d + 1) _ (by omega) (by simp; omega)).trans ?_
    rw [List.range'_succ, List.flatMap_cons]
    simp only [dayS, List.append_assoc]
theorem net_s {x : Gi_Lanes} {n days : Nat} (h : LnOk x n) (f t : Int) (hdy : days ≤ 10) : Ds_qNetOf x f t (days : Int) = some (Gs_qNet.mk (netS x f t n days) (((days + 1) * n : Nat) : Int)) := by
  have hn := h.n0
  unfold Ds_qNetOf
  rw [h.dep, wdn1 (by omega) (by omega)]
  exact (netS_days h hdy days 0 [] (by omega) (by simp; omega)).trans (by rw [List.nil_append, ← List.range_eq_range']; rfl)
theorem flat_ix {α β : Type} {g : α → List β} {k : Nat} : ∀ {l : List α}, (∀ x ∈ l, (g x).length = k) → (l.flatMap g).length = l.length * k ∧ ∀ (t c : Nat) x, l[t]? = some x → c < k → (l.flatMap g)[t * k + c]? = (g x)[c]?
  | [], _ => ⟨by simp, fun t c x h => by simp at h⟩
  | y :: l, hk => by
    obtain ⟨h1, h2⟩ := flat_ix (l := l) fun x hx => hk x (List.mem_cons_of_mem _ hx)
    have hy := hk y (List.mem_cons_self ..)
    refine ⟨by rw [List.flatMap_cons, List.length_append, hy, h1, List.length_cons, Nat.add_mul, Nat.one_mul, Nat.add_comm], fun t c x h hc => ?_⟩
    rw [List.flatMap_cons]
    cases t with
    | zero =>
      simp only [List.getElem?_cons_zero, Option.some.injEq] at h
      subst h
      rw [Nat.zero_mul, Nat.zero_add, List.getElem?_append_left (by rw [hy]; exact hc)]
    | succ t =>
      rw [List.getElem?_append_right (by rw [hy, Nat.add_mul]; omega), hy, show (t + 1) * k + c - k = t * k + c by rw [Nat.add_mul]; omega]
      exact h2 t c x (by simpa using h) hc
theorem netI_len {x : Gi_Lanes} {n days : Nat} (h : LnOk x n) (f t : Int) : (netI x f t n days).length = days * x.Lanes.length + days * n := by
  unfold netI
  rw [List.length_append, (flat_ix (k := x.Lanes.length) fun d _ => by simp).1, (flat_ix (k := n) fun d _ => by simp [h.st]).1, List.length_range]
theorem netI_la {x : Gi_Lanes} {n days : Nat} (h : LnOk x n) (f t : Int) {d r : Nat} {l : Gi_Lane} (hdy : d < days) (hl : x.Lanes[r]? = some l) : (netI x f t n days)[d * x.Lanes.length + r]? = some (laI n d l) := by
  have hr := (List.getElem?_eq_some_iff.1 hl).1
  have f1 := flat_ix (g := fun d => x.Lanes.map (laI n d)) (k := x.Lanes.length) (l := List.range days) fun d _ => by simp
  have : d * x.Lanes.length + x.Lanes.length ≤ days * x.Lanes.length := by rw [← Nat.succ_mul]; exact Nat.mul_le_mul_right _ hdy
  unfold netI
  rw [List.getElem?_append_left (by rw [f1.1, List.length_range]; omega), f1.2 d r d (by simp [hdy]) hr, List.getElem?_map, hl]
  rfl
theorem netI_sa {x : Gi_Lanes} {n days : Nat} (h : LnOk x n) (f t : Int) {d k : Nat} {m : Int} (hdy : d < days) (hm : x.Stores[k]? = some m) : (netI x f t n days)[days * x.Lanes.length + (d * n + k)]? = some (saI f t n d k m) := by
  have hk : k < n := by rw [← h.st]; exact (List.getElem?_eq_some_iff.1 hm).1
  have f1 := flat_ix (g := fun d => x.Lanes.map (laI n d)) (k := x.Lanes.length) (l := List.range days) fun d _ => by simp
  have f2 := flat_ix (g := fun d => x.Stores.mapIdx fun k m => saI f t n d k m) (k := n) (l := List.range days) fun d _ => by simp [h.st]
  unfold netI
  rw [List.getElem?_append_right (by rw [f1.1, List.length_range]; omega), f1.1, List.length_range, Nat.add_sub_cancel_left, f2.2 d k d (by simp [hdy]) hk, List.getElem?_mapIdx, hm]
  rfl
theorem netS_len {x : Gi_Lanes} {n days : Nat} (h : LnOk x n) (f t : Int) : (netS x f t n days).length = days * (x.Lanes.length + n) := by
  unfold netS
  rw [(flat_ix (k := x.Lanes.length + n) fun d _ => dayS_len h f t d).1, List.length_range]
theorem netS_la {x : Gi_Lanes} {n days : Nat} (h : LnOk x n) (f t : Int) {d r : Nat} {l : Gi_Lane} (hdy : d < days) (hl : x.Lanes[r]? = some l) : (netS x f t n days)[d * (x.Lanes.length + n) + r]? = some (laS n d l) := by
  have hr := (List.getElem?_eq_some_iff.1 hl).1
  unfold netS
  rw [(flat_ix (k := x.Lanes.length + n) fun d _ => dayS_len h f t d).2 d r d (by simp [hdy]) (by omega)]
  unfold dayS
  rw [List.getElem?_append_left (by simpa using hr), List.getElem?_map, hl]
  rfl
theorem netS_sa {x : Gi_Lanes} {n days : Nat} (h : LnOk x n) (f t : Int) {d k : Nat} {m : Int} (hdy : d < days) (hm : x.Stores[k]? = some m) : (netS x f t n days)[d * (x.Lanes.length + n) + (x.Lanes.length + k)]? = some (saS f t n d k m) := by
  have hk : k < n := by rw [← h.st]; exact (List.getElem?_eq_some_iff.1 hm).1
  unfold netS
  rw [(flat_ix (k := x.Lanes.length + n) fun d _ => dayS_len h f t d).2 d (x.Lanes.length + k) d (by simp [hdy]) (by omega)]
  unfold dayS
  rw [List.getElem?_append_right (by simp), List.length_map, Nat.add_sub_cancel_left, List.getElem?_mapIdx, hm]
  rfl

theorem rsum_add (h : Nat → Int) (b : Nat) : ∀ c, lsm h (List.range (b + c)) = lsm h (List.range b) + lsm (fun k => h (b + k)) (List.range c)
  | 0 => by simp [lsm]
  | c + 1 => by
    rw [← Nat.add_assoc, List.range_succ, lsm_app, rsum_add h b c, List.range_succ, lsm_app]
    simp only [lsm]
    omega
theorem rsum_mul (h : Nat → Int) (b : Nat) : ∀ a, lsm h (List.range (a * b)) = lsm (fun d => lsm (fun r => h (d * b + r)) (List.range b)) (List.range a)
  | 0 => by simp [lsm]
  | a + 1 => by
    rw [Nat.add_mul, Nat.one_mul, rsum_add, rsum_mul h b a, List.range_succ, lsm_app]
    simp only [lsm]
    omega
def tsm (ll n days : Nat) (gl gs : Nat → Nat → Int) : Int := lsm (fun d => lsm (gl d) (List.range ll)) (List.range days) + lsm (fun d => lsm (gs d) (List.range n)) (List.range days)
theorem tsm_congr {ll n days : Nat} {gl gs hl hs : Nat → Nat → Int} (h1 : ∀ d r, d < days → r < ll → gl d r = hl d r) (h2 : ∀ d k, d < days → k < n → gs d k = hs d k) : tsm ll n days gl gs = tsm ll n days hl hs := by
  unfold tsm
  rw [lsm_congr (g := fun d => lsm (gl d) (List.range ll)) (h := fun d => lsm (hl d) (List.range ll)) fun d hdy => lsm_congr fun r hr => h1 d r (List.mem_range.1 hdy) (List.mem_range.1 hr),
    lsm_congr (g := fun d => lsm (gs d) (List.range n)) (h := fun d => lsm (hs d) (List.range n)) fun d hdy => lsm_congr fun k hk => h2 d k (List.mem_range.1 hdy) (List.mem_range.1 hk)]
theorem tsm_le {ll n days : Nat} {gl gs hl hs : Nat → Nat → Int} (h1 : ∀ d r, d < days → r < ll → gl d r ≤ hl d r) (h2 : ∀ d k, d < days → k < n → gs d k ≤ hs d k) : tsm ll n days gl gs ≤ tsm ll n days hl hs := by
  unfold tsm
  have a1 : lsm (fun d => lsm (gl d) (List.range ll)) (List.range days) ≤ lsm (fun d => lsm (hl d) (List.range ll)) (List.range days) := lsm_le fun d hdy => lsm_le fun r hr => h1 d r (List.mem_range.1 hdy) (List.mem_range.1 hr)
  have a2 : lsm (fun d => lsm (gs d) (List.range n)) (List.range days) ≤ lsm (fun d => lsm (hs d) (List.range n)) (List.range days) := lsm_le fun d hdy => lsm_le fun k hk => h2 d k (List.mem_range.1 hdy) (List.mem_range.1 hk)
  omega
theorem tsm_mem {ll n days : Nat} {gl gs : Nat → Nat → Int} (h1 : ∀ d r, d < days → r < ll → 0 ≤ gl d r) (h2 : ∀ d k, d < days → k < n → 0 ≤ gs d k) : (∀ d r, d < days → r < ll → gl d r ≤ tsm ll n days gl gs) ∧ ∀ d k, d < days → k < n → gs d k ≤ tsm ll n days gl gs := by
  have p1 : ∀ d, d < days → 0 ≤ lsm (gl d) (List.range ll) := fun d hdy => lsm_nn fun r hr => h1 d r hdy (List.mem_range.1 hr)
  have p2 : ∀ d, d < days → 0 ≤ lsm (gs d) (List.range n) := fun d hdy => lsm_nn fun r hr => h2 d r hdy (List.mem_range.1 hr)
  have q1 := lsm_nn (g := fun d => lsm (gl d) (List.range ll)) (l := List.range days) fun d hdy => p1 d (List.mem_range.1 hdy)
  have q2 := lsm_nn (g := fun d => lsm (gs d) (List.range n)) (l := List.range days) fun d hdy => p2 d (List.mem_range.1 hdy)
  unfold tsm
  refine ⟨fun d r hdy hr => ?_, fun d k hdy hk => ?_⟩
  · have a1 := lsm_nn_mem (g := gl d) (l := List.range ll) (fun r hr => h1 d r hdy (List.mem_range.1 hr)) r (List.mem_range.2 hr)
    have a2 := lsm_nn_mem (g := fun d => lsm (gl d) (List.range ll)) (l := List.range days) (fun d hdy => p1 d (List.mem_range.1 hdy)) d (List.mem_range.2 hdy)
    omega
  · have a1 := lsm_nn_mem (g := gs d) (l := List.range n) (fun r hr => h2 d r hdy (List.mem_range.1 hr)) k (List.mem_range.2 hk)
    have a2 := lsm_nn_mem (g := fun d => lsm (gs d) (List.range n)) (l := List.range days) (fun d hdy => p2 d (List.mem_range.1 hdy)) d (List.mem_range.2 hdy)
    omega
section
variable {x : Gi_Lanes} {n days : Nat}
theorem sumI (h : LnOk x n) (f t : Int) (p : Nat) (g : Nat → Int) : lsm g (ntI (netI x f t n days) p).I = tsm x.Lanes.length n days (fun d r => g (d * x.Lanes.length + r)) fun d k => g (days * x.Lanes.length + (d * n + k)) := by
  show lsm g (List.range (netI x f t n days).length) = _
  rw [netI_len h, rsum_add, rsum_mul, rsum_mul]
  rfl
theorem sumS (h : LnOk x n) (f t : Int) (p : Nat) (g : Nat → Int) : lsm g (ntS (netS x f t n days) p).I = tsm x.Lanes.length n days (fun d r => g (d * (x.Lanes.length + n) + r)) fun d k => g (d * (x.Lanes.length + n) + (x.Lanes.length + k)) := by
  show lsm g (List.range (netS x f t n days).length) = _
  rw [netS_len h, rsum_mul]
  unfold tsm
  rw [← lsm_add]
  refine lsm_congr fun d _ => ?_
  rw [rsum_add]
theorem arcI_la (h : LnOk x n) (f t : Int) (p : Nat) {d r : Nat} (hdy : d < days) (hr : r < x.Lanes.length) : ∃ l, x.Lanes[r]? = some l ∧ (ntI (netI x f t n days) p).fr (d * x.Lanes.length + r) = d * n + l.From.toNat ∧ (ntI (netI x f t n days) p).tt (d * x.Lanes.length + r) = (d + 1) * n + l.To.toNat ∧ (ntI (netI x f t n days) p).mo (d * x.Lanes.length + r) = l.Load := by
  have hl := List.getElem?_eq_getElem hr
  have wf := h.la _ (List.getElem_mem hr)
  have e := netI_la h f t hdy hl
  refine ⟨_, hl, ?_, ?_, ?_⟩
  · simp only [ntI, e, laI]; omega
  · simp only [ntI, e, laI]; omega
  · simp only [ntI, e, laI]
theorem arcI_sa (h : LnOk x n) (f t : Int) (p : Nat) {d k : Nat} (hdy : d < days) (hk : k < n) : ∃ m, x.Stores[k]? = some m ∧ (ntI (netI x f t n days) p).fr (days * x.Lanes.length + (d * n + k)) = d * n + k ∧ (ntI (netI x f t n days) p).tt (days * x.Lanes.length + (d * n + k)) = (d + 1) * n + k ∧ (ntI (netI x f t n days) p).mo (days * x.Lanes.length + (d * n + k)) = if (k : Int) = f ∨ (k : Int) = t then 1000000000 else m := by
  have hm := List.getElem?_eq_getElem (show k < x.Stores.length by rw [h.st]; exact hk)
  have e := netI_sa h f t hdy hm
  refine ⟨_, hm, ?_, ?_, ?_⟩
  · simp only [ntI, e, saI]; omega
  · simp only [ntI, e, saI]; omega
  · simp only [ntI, e, saI]
theorem arcS_la (h : LnOk x n) (f t : Int) (p : Nat) {d r : Nat} (hdy : d < days) (hr : r < x.Lanes.length) : ∃ l, x.Lanes[r]? = some l ∧ (ntS (netS x f t n days) p).fr (d * (x.Lanes.length + n) + r) = d * n + l.From.toNat ∧ (ntS (netS x f t n days) p).tt (d * (x.Lanes.length + n) + r) = (d + 1) * n + l.To.toNat ∧ (ntS (netS x f t n days) p).mo (d * (x.Lanes.length + n) + r) = l.Load := by
  have hl := List.getElem?_eq_getElem hr
  have wf := h.la _ (List.getElem_mem hr)
  have e := netS_la h f t hdy hl
  refine ⟨_, hl, ?_, ?_, ?_⟩
  · simp only [ntS, e, laS]; omega
  · simp only [ntS, e, laS]; omega
  · simp only [ntS, e, laS]
theorem arcS_sa (h : LnOk x n) (f t : Int) (p : Nat) {d k : Nat} (hdy : d < days) (hk : k < n) : ∃ m, x.Stores[k]? = some m ∧ (ntS (netS x f t n days) p).fr (d * (x.Lanes.length + n) + (x.Lanes.length + k)) = d * n + k ∧ (ntS (netS x f t n days) p).tt (d * (x.Lanes.length + n) + (x.Lanes.length + k)) = (d + 1) * n + k ∧ (ntS (netS x f t n days) p).mo (d * (x.Lanes.length + n) + (x.Lanes.length + k)) = if (k : Int) = f ∨ (k : Int) = t then 1000000 else m := by
  have hm := List.getElem?_eq_getElem (show k < x.Stores.length by rw [h.st]; exact hk)
  have e := netS_sa h f t hdy hm
  refine ⟨_, hm, ?_, ?_, ?_⟩
  · simp only [ntS, e, saS]; omega
  · simp only [ntS, e, saS]; omega
  · simp only [ntS, e, saS]
structure SameF (x : Gi_Lanes) (n days : Nat) (fi fs : Nat → Int) : Prop where
  la : ∀ d r, d < days → r < x.Lanes.length → fs (d * (x.Lanes.length + n) + r) = fi (d * x.Lanes.length + r)
  sa : ∀ d k, d < days → k < n → fs (d * (x.Lanes.length + n) + (x.Lanes.length + k)) = fi (days * x.Lanes.length + (d * n + k))
theorem SameF.exf (h : LnOk x n) {f t : Int} {p : Nat} {fi fs : Nat → Int} (hs : SameF x n days fi fs) (v : Nat) : exf (ntS (netS x f t n days) p) fs v = Ab.exf (ntI (netI x f t n days) p) fi v := by
  unfold Ab.exf
  rw [sumI h, sumS h]
  refine tsm_congr (fun d r hdy hr => ?_) fun d k hdy hk => ?_
  · obtain ⟨l, a1, a2, a3, a4⟩ := arcI_la h f t p hdy hr
    obtain ⟨l', b1, b2, b3, b4⟩ := arcS_la h f t p hdy hr
    rw [a1] at b1
    cases b1
    rw [a2, a3, b2, b3, hs.la d r hdy hr]
  · obtain ⟨l, a1, a2, a3, a4⟩ := arcI_sa h f t p hdy hk
    obtain ⟨l', b1, b2, b3, b4⟩ := arcS_sa h f t p hdy hk
    rw [a2, a3, b2, b3, hs.sa d k hdy hk]
end

theorem lsm_const (c : Int) : ∀ m, lsm (fun _ : Nat => c) (List.range m) = m * c
  | 0 => by simp [lsm]
  | m + 1 => by
    rw [List.range_succ, lsm_app, lsm_const c m]
    simp only [lsm]
    rw [show ((m + 1 : Nat) : Int) = (m : Int) + 1 by omega, Int.add_mul]
    omega
structure Ask (x : Gi_Lanes) (n f t days : Nat) : Prop where
  ln : LnOk x n
  flt : f < n
  tlt : t < n
  ne : f ≠ t
  dle : days ≤ 6
section
variable {x : Gi_Lanes} {n f t days : Nat}
theorem Ask.s (h : Ask x n f t days) : f < (days + 1) * n := by
  have := h.flt
  rw [Nat.add_mul]
  omega
theorem Ask.e (h : Ask x n f t days) : days * n + t < (days + 1) * n := by
  have := h.tlt
  rw [Nat.add_mul]
  omega
theorem Ask.se (h : Ask x n f t days) : f ≠ days * n + t := by
  have := h.flt
  have := h.ne
  rcases Nat.eq_zero_or_pos days with e | e
  · subst e; omega
  · have := Nat.mul_le_mul_right n (show 1 ≤ days from e)
    omega
theorem LnOk.ndL (h : LnOk x n) (hdy : days ≤ 6) : days * n ≤ 36 ∧ (days + 1) * n ≤ 42 ∧ days * x.Lanes.length ≤ 90 := by
  have h1 := h.n0
  have h2 := h.len
  exact ⟨Nat.mul_le_mul hdy h1.2, Nat.mul_le_mul (show days + 1 ≤ 7 by omega) h1.2, Nat.mul_le_mul hdy h2⟩
theorem netI_cases (h : LnOk x n) (a b : Int) {i : Nat} {y : Gi_arc} (hy : (netI x a b n days)[i]? = some y) : (∃ (d r : Nat) (l : Gi_Lane), d < days ∧ x.Lanes[r]? = some l ∧ y = laI n d l) ∨ ∃ (d k : Nat) (m : Int), d < days ∧ x.Stores[k]? = some m ∧ y = saI a b n d k m := by
  have hm := List.mem_of_getElem? hy
  unfold netI at hm
  rcases List.mem_append.1 hm with hm | hm
  · obtain ⟨d, hdy, hm⟩ := List.mem_flatMap.1 hm
    obtain ⟨l, hl, rfl⟩ := List.mem_map.1 hm
    obtain ⟨r, hr⟩ := List.getElem?_of_mem hl
    exact .inl ⟨d, r, l, List.mem_range.1 hdy, hr, rfl⟩
  · obtain ⟨d, hdy, hm⟩ := List.mem_flatMap.1 hm
    obtain ⟨k, hk, rfl⟩ := List.mem_mapIdx.1 hm
    exact .inr ⟨d, k, _, List.mem_range.1 hdy, List.getElem?_eq_getElem hk, rfl⟩
theorem netS_cases (h : LnOk x n) (a b : Int) {i : Nat} {y : Gs_qArc} (hy : (netS x a b n days)[i]? = some y) : (∃ (d r : Nat) (l : Gi_Lane), d < days ∧ x.Lanes[r]? = some l ∧ y = laS n d l) ∨ ∃ (d k : Nat) (m : Int), d < days ∧ x.Stores[k]? = some m ∧ y = saS a b n d k m := by
  have hm := List.mem_of_getElem? hy
  unfold netS at hm
  obtain ⟨d, hdy, hm⟩ := List.mem_flatMap.1 hm
  unfold dayS at hm
  rcases List.mem_append.1 hm with hm | hm
  · obtain ⟨l, hl, rfl⟩ := List.mem_map.1 hm
    obtain ⟨r, hr⟩ := List.getElem?_of_mem hl
    exact .inl ⟨d, r, l, List.mem_range.1 hdy, hr, rfl⟩
  · obtain ⟨k, hk, rfl⟩ := List.mem_mapIdx.1 hm
    exact .inr ⟨d, k, _, List.mem_range.1 hdy, List.getElem?_eq_getElem hk, rfl⟩
theorem dlt {d n days : Nat} (hdy : d < days) : (d + 1) * n + n ≤ (days + 1) * n ∧ d * n + n = (d + 1) * n := by
  have := Nat.mul_le_mul_right n (show d + 1 + 1 ≤ days + 1 by omega)
  rw [Nat.add_mul (d + 1) 1, Nat.one_mul] at this
  exact ⟨this, by rw [Nat.add_mul, Nat.one_mul]⟩
theorem netI_wf (h : LnOk x n) (a b : Int) (hdy : days ≤ 6) : WfI (netI x a b n days) ((days + 1) * n) where
  len := by have := h.ndL hdy; rw [netI_len h]; omega
  pl := by have := h.ndL hdy; omega
  a y hy := by
    obtain ⟨i, hi⟩ := List.getElem?_of_mem hy
    have hn := h.n0
    rcases netI_cases h a b hi with ⟨d, r, l, hdy, hl, rfl⟩ | ⟨d, k, m, hdy, hm, rfl⟩
    · have wf := h.la l (List.mem_of_getElem? hl)
      have := dlt (n := n) hdy
      simp only [laI]
      refine ⟨by omega, by omega, by omega, by omega, by omega⟩
    · have hk : k < n := by rw [← h.st]; exact (List.getElem?_eq_some_iff.1 hm).1
      have := dlt (n := n) hdy
      simp only [saI]
      refine ⟨by omega, by omega, by omega, by omega, by omega⟩
theorem netS_wf (h : LnOk x n) (a b : Int) (hdy : days ≤ 6) : WfS (netS x a b n days) ((days + 1) * n) where
  len := by have := h.ndL hdy; rw [netS_len h, Nat.mul_add]; omega
  pl := by have := h.ndL hdy; omega
  a y hy := by
    obtain ⟨i, hi⟩ := List.getElem?_of_mem hy
    have hn := h.n0
    rcases netS_cases h a b hi with ⟨d, r, l, hdy, hl, rfl⟩ | ⟨d, k, m, hdy, hm, rfl⟩
    · have wf := h.la l (List.mem_of_getElem? hl)
      have := dlt (n := n) hdy
      simp only [laS]
      refine ⟨by omega, by omega, by omega, by omega, by omega⟩
    · have hk : k < n := by rw [← h.st]; exact (List.getElem?_eq_some_iff.1 hm).1
      have := dlt (n := n) hdy
      simp only [saS]
      refine ⟨by omega, by omega, by omega, by omega, by omega⟩
theorem netI_zero (h : LnOk x n) (a b : Int) : setF (netI x a b n days) (fun _ => 0) = netI x a b n days := by
  refine List.ext_getElem? fun i => ?_
  rw [setF_at]
  cases hy : (netI x a b n days)[i]? with
  | none => rfl
  | some y => rcases netI_cases h a b hy with ⟨d, r, l, hdy, hl, rfl⟩ | ⟨d, k, m, hdy, hm, rfl⟩ <;> rfl
theorem netS_zero (h : LnOk x n) (a b : Int) : setG (netS x a b n days) (fun _ => 0) = netS x a b n days := by
  refine List.ext_getElem? fun i => ?_
  rw [setG_at]
  cases hy : (netS x a b n days)[i]? with
  | none => rfl
  | some y => rcases netS_cases h a b hy with ⟨d, r, l, hdy, hl, rfl⟩ | ⟨d, k, m, hdy, hm, rfl⟩ <;> rfl
theorem netI_fz (h : LnOk x n) (a b : Int) : fzI (netI x a b n days) = fun _ => false := by
  funext i
  unfold fzI
  cases hy : (netI x a b n days)[i]? with
  | none => rfl
  | some y => rcases netI_cases h a b hy with ⟨d, r, l, hdy, hl, rfl⟩ | ⟨d, k, m, hdy, hm, rfl⟩ <;> rfl
theorem netI_mo (h : LnOk x n) (a b : Int) : ∀ (i : Nat) y, (netI x a b n days)[i]? = some y → 0 ≤ y.most ∧ y.most ≤ 1000000000 := fun i y hy => by
  rcases netI_cases h a b hy with ⟨d, r, l, hdy, hl, rfl⟩ | ⟨d, k, m, hdy, hm, rfl⟩
  · have wf := h.la l (List.mem_of_getElem? hl)
    simp only [laI]; omega
  · have wf := h.so m (List.mem_of_getElem? hm)
    simp only [saI]
    split <;> omega
theorem netS_mo (h : LnOk x n) (a b : Int) : ∀ (i : Nat) y, (netS x a b n days)[i]? = some y → 0 ≤ y.most ∧ y.most ≤ 1000000 := fun i y hy => by
  rcases netS_cases h a b hy with ⟨d, r, l, hdy, hl, rfl⟩ | ⟨d, k, m, hdy, hm, rfl⟩
  · have wf := h.la l (List.mem_of_getElem? hl)
    simp only [laS]; omega
  · have wf := h.so m (List.mem_of_getElem? hm)
    simp only [saS]
    split <;> omega
def capN (x : Gi_Lanes) (n days : Nat) (a b big : Int) (S : Nat → Bool) : Int :=
  tsm x.Lanes.length n days (fun d r => match x.Lanes[r]? with | some l => if S (d * n + l.From.toNat) = true ∧ S ((d + 1) * n + l.To.toNat) = false then l.Load else 0 | none => 0)
    fun d k => match x.Stores[k]? with | some m => if S (d * n + k) = true ∧ S ((d + 1) * n + k) = false then (if (k : Int) = a ∨ (k : Int) = b then big else m) else 0 | none => 0
theorem capI (h : LnOk x n) (a b : Int) (p : Nat) (S : Nat → Bool) : capf (ntI (netI x a b n days) p) S = capN x n days a b 1000000000 S := by
  unfold capf capN
  rw [sumI h]
  refine tsm_congr (fun d r hdy hr => ?_) fun d k hdy hk => ?_
  · obtain ⟨l, a1, a2, a3, a4⟩ := arcI_la h a b p hdy hr
    rw [a1, a2, a3, a4]
  · obtain ⟨m, a1, a2, a3, a4⟩ := arcI_sa h a b p hdy hk
    rw [a1, a2, a3, a4]
theorem capS (h : LnOk x n) (a b : Int) (p : Nat) (S : Nat → Bool) : capf (ntS (netS x a b n days) p) S = capN x n days a b 1000000 S := by
  unfold capf capN
  rw [sumS h]
  refine tsm_congr (fun d r hdy hr => ?_) fun d k hdy hk => ?_
  · obtain ⟨l, a1, a2, a3, a4⟩ := arcS_la h a b p hdy hr
    rw [a1, a2, a3, a4]
  · obtain ⟨m, a1, a2, a3, a4⟩ := arcS_sa h a b p hdy hk
    rw [a1, a2, a3, a4]
theorem capN_nn (h : LnOk x n) (a b : Int) {big : Int} (hb : 0 ≤ big) (S : Nat → Bool) : (∀ d r, d < days → r < x.Lanes.length → 0 ≤ (match x.Lanes[r]? with | some l => if S (d * n + l.From.toNat) = true ∧ S ((d + 1) * n + l.To.toNat) = false then l.Load else 0 | none => 0 : Int)) ∧
    ∀ d k, d < days → k < n → 0 ≤ (match x.Stores[k]? with | some m => if S (d * n + k) = true ∧ S ((d + 1) * n + k) = false then (if (k : Int) = a ∨ (k : Int) = b then big else m) else 0 | none => 0 : Int) := by
  refine ⟨fun d r _ _ => ?_, fun d k _ _ => ?_⟩
  · cases hl : x.Lanes[r]? with
    | none => simp
    | some l =>
      have := h.la l (List.mem_of_getElem? hl)
      simp only
      split <;> omega
  · cases hm : x.Stores[k]? with
    | none => simp
    | some m =>
      have := h.so m (List.mem_of_getElem? hm)
      simp only
      split
      · split <;> omega
      · omega
theorem capN_eq (h : LnOk x n) (a b : Int) {big big' : Int} (hb : 0 ≤ big) {S : Nat → Bool} (hlt : capN x n days a b big S < big) : capN x n days a b big' S = capN x n days a b big S := by
  obtain ⟨n1, n2⟩ := capN_nn (days := days) h a b hb S
  have := (tsm_mem n1 n2).2
  refine tsm_congr (fun d r hdy hr => rfl) fun d k hdy hk => ?_
  have := this d k hdy hk
  have hh : capN x n days a b big S = tsm x.Lanes.length n days _ _ := rfl
  cases hm : x.Stores[k]? with
  | none => rfl
  | some m =>
    rw [hm] at this
    simp only at this ⊢
    by_cases c : S (d * n + k) = true ∧ S ((d + 1) * n + k) = false
    · rw [if_pos c] at this ⊢
      by_cases c2 : (k : Int) = a ∨ (k : Int) = b
      · rw [if_pos c2] at this
        rw [hh] at hlt
        omega
      · rw [if_neg c2, if_pos c, if_neg c2]
    · rw [if_neg c, if_neg c]
theorem capN_start (h : Ask x n f t days) (big : Int) : capN x n days f t big (fun v => decide (v % n = f)) ≤ 90000 := by
  have hn := h.ln.n0
  have := h.ln.ndL h.dle
  have e : capN x n days f t big (fun v => decide (v % n = f)) ≤ tsm x.Lanes.length n days (fun _ _ => 1000) fun _ _ => 0 := by
    refine tsm_le (fun d r hdy hr => ?_) fun d k hdy hk => ?_
    · have hl := List.getElem?_eq_getElem hr
      have wf := h.ln.la _ (List.getElem_mem hr)
      rw [hl]
      simp only
      split <;> omega
    · cases x.Stores[k]? with
      | none => simp
      | some m =>
        simp only [decide_eq_true_eq, decide_eq_false_iff_not]
        rw [if_neg]
        · omega
        · rintro ⟨c1, c2⟩
          rw [Nat.mul_comm, Nat.mul_add_mod] at c1 c2
          exact c2 c1
  refine Int.le_trans e ?_
  unfold tsm
  simp only [lsm_const]
  have : ((days * x.Lanes.length : Nat) : Int) ≤ 90 := by omega
  rw [Int.natCast_mul] at this
  have e2 : (days : Int) * ((x.Lanes.length : Int) * 1000) = (days : Int) * (x.Lanes.length : Int) * 1000 := by rw [Int.mul_assoc]
  rw [e2]
  omega
end

structure GrF {ι : Type} (N : Nt ι) (s t : Nat) (F : Int) (fl : ι → Int) : Prop where
  fw : IsFl N s t F fl
  f0 : 0 ≤ F
  f1 : F ≤ 90000
  sh : ∃ S, Shut N fl (fun _ => false) S ∧ S s = true ∧ S t = false
section
variable {x : Gi_Lanes} {n f t days : Nat}
theorem start_cut (h : Ask x n f t days) : (decide (f % n = f) = true) ∧ decide ((days * n + t) % n = f) = false := by
  have h1 := h.flt
  have h2 := h.tlt
  have h3 := h.ne
  refine ⟨by simpa using Nat.mod_eq_of_lt h1, ?_⟩
  rw [Nat.mul_comm, Nat.mul_add_mod, Nat.mod_eq_of_lt h2]
  simpa using Ne.symm h3
theorem exf_zero {ι : Type} (N : Nt ι) (v : Nat) : exf N (fun _ => 0) v = 0 := lsm_zero fun i _ => by simp
theorem wT (h : Ask x n f t days) : IntKind.wrap .i64 (IntKind.wrap .i64 ((days : Int) * x.Depots) + (t : Int)) = ((days * n + t : Nat) : Int) := by
  have := h.ln.ndL h.dle
  have := h.ln.n0
  have := h.dle
  have := h.tlt
  rw [h.ln.dep, wdn (by omega) (by omega), w64 (by omega)]
  omega
theorem deliver_i (h : Ask x n f t days) : ∃ fl F, Di_delivered x (f : Int) (t : Int) (days : Int) = some (Gi_network.mk (((days + 1) * n : Nat) : Int) (setF (netI x f t n days) fl), F) ∧ FbI (netI x f t n days) fl ∧ GrF (ntI (netI x f t n days) ((days + 1) * n)) f (days * n + t) F fl := by
  have hn := h.ln.n0
  have hdy := h.dle
  have hmo := netI_mo (days := days) h.ln (f : Int) (t : Int)
  have hb0 : FbI (netI x f t n days) (fun _ => 0) := ⟨fun i y hy => ⟨by omega, (hmo i y hy).1⟩, fun i y hy => (hmo i y hy).2, fun _ _ => rfl⟩
  have hnet := net_i h.ln (f : Int) (t : Int) (show days ≤ 10 by omega)
  have hz := netI_zero (days := days) h.ln (f : Int) (t : Int)
  rcases Nat.eq_zero_or_pos days with e | e
  · have hl : (netI x f t n days).length = 0 := by rw [netI_len h.ln, e]; simp
    have hI : (ntI (netI x f t n days) ((days + 1) * n)).I = [] := by show List.range _ = []; rw [hl]; rfl
    refine ⟨fun _ => 0, 0, ?_, hb0, ⟨⟨fun i hi => ?_, fun v _ => ?_⟩, by omega, by omega, fun v => decide (v = f), ⟨fun i hi => ?_, fun i hi => ?_⟩, by simp, by have := h.se; simp; omega⟩⟩
    · unfold Di_delivered
      rw [obind hnet, if_pos (by omega), hz]
    · rw [hI] at hi; cases hi
    · rw [exf_zero]; split <;> split <;> rfl
    · rw [hI] at hi; cases hi
    · rw [hI] at hi; cases hi
  · have hwf := netI_wf (days := days) h.ln (f : Int) (t : Int) hdy
    obtain ⟨fl, F, e1, e2, e3⟩ := push_i hwf h.s h.e h.se (lim := 1000000000) (by omega) (by omega) hb0
    rw [hz] at e1
    have hfl : IsFl (ntI (netI x f t n days) ((days + 1) * n)) f (days * n + t) F fl := ⟨e2.nt, fun v _ => by rw [e3.ex v, exf_zero]; omega⟩
    have hc := start_cut h
    have hF : F ≤ 90000 := by
      have := hfl.le_cap hwf.ok h.s h.e (S := fun v => decide (v % n = f)) hc.1 hc.2
      rw [capI h.ln] at this
      exact Int.le_trans this (capN_start h _)
    refine ⟨fl, F, ?_, e2, hfl, e3.m0, hF, ?_⟩
    · unfold Di_delivered
      rw [obind hnet, if_neg (by omega), wT h, obind e1, if_pos (by simp only [setF_len])]
    · rcases e3.sh with h1 | h1
      · omega
      · rw [netI_fz h.ln] at h1
        exact h1
theorem deliver_s (h : Ask x n f t days) : ∃ fl F, Ds_qGreatest x (f : Int) (t : Int) (days : Int) = some F ∧ Ds_qNet_fill (Gs_qNet.mk (netS x f t n days) (((days + 1) * n : Nat) : Int)) (f : Int) ((days * n + t : Nat) : Int) 10000000 = some (F, Gs_qNet.mk (setG (netS x f t n days) fl) (((days + 1) * n : Nat) : Int)) ∧ FbS (netS x f t n days) fl ∧ GrF (ntS (netS x f t n days) ((days + 1) * n)) f (days * n + t) F fl := by
  have hn := h.ln.n0
  have hdy := h.dle
  have hmo := netS_mo (days := days) h.ln (f : Int) (t : Int)
  have hb0 : FbS (netS x f t n days) (fun _ => 0) := ⟨fun i y hy => ⟨by omega, (hmo i y hy).1⟩, fun i y hy => by have := (hmo i y hy).2; omega, fun _ _ => rfl⟩
  have hnet := net_s h.ln (f : Int) (t : Int) (show days ≤ 10 by omega)
  have hz := netS_zero (days := days) h.ln (f : Int) (t : Int)
  have hwf := netS_wf (days := days) h.ln (f : Int) (t : Int) hdy
  obtain ⟨fl, F, e1, e2, e3⟩ := fillQ hwf h.s h.e h.se (lim := 10000000) (by omega) (by omega) hb0
  rw [hz] at e1
  have hfl : IsFl (ntS (netS x f t n days) ((days + 1) * n)) f (days * n + t) F fl := ⟨e2.nt, fun v _ => by rw [e3.ex v, exf_zero]; omega⟩
  have hc := start_cut h
  have hF : F ≤ 90000 := by
    have := hfl.le_cap hwf.ok h.s h.e (S := fun v => decide (v % n = f)) hc.1 hc.2
    rw [capS h.ln] at this
    exact Int.le_trans this (capN_start h _)
  refine ⟨fl, F, ?_, e1, e2, hfl, e3.m0, hF, ?_⟩
  · unfold Ds_qGreatest
    rw [obind hnet, wT h, obind e1, if_pos (by simp only [setG_len])]
  · rcases e3.sh with h1 | h1
    · omega
    · exact h1
theorem great_eq (h : Ask x n f t days) {F F' : Int} {fl fl' : Nat → Int} (hi : GrF (ntI (netI x f t n days) ((days + 1) * n)) f (days * n + t) F fl) (hs : GrF (ntS (netS x f t n days) ((days + 1) * n)) f (days * n + t) F' fl') : F = F' := by
  have wi := (netI_wf (days := days) h.ln (f : Int) (t : Int) h.dle).ok
  have ws := (netS_wf (days := days) h.ln (f : Int) (t : Int) h.dle).ok
  obtain ⟨S, a1, a2, a3⟩ := hi.sh
  obtain ⟨S', b1, b2, b3⟩ := hs.sh
  have e1 := hi.fw.eq_cap wi h.s h.e a2 a3 a1
  have e2 := hs.fw.eq_cap ws h.s h.e b2 b3 b1
  have e3 := hs.fw.le_cap ws h.s h.e a2 a3
  have e4 := hi.fw.le_cap wi h.s h.e b2 b3
  rw [capI h.ln] at e1 e4
  rw [capS h.ln] at e2 e3
  have := hi.f1
  have := hs.f1
  rw [capN_eq (big' := 1000000) h.ln (f : Int) (t : Int) (big := 1000000000) (by omega) (S := S) (by omega)] at e3
  rw [capN_eq (big' := 1000000000) h.ln (f : Int) (t : Int) (big := 1000000) (by omega) (S := S') (by omega)] at e4
  omega
end

def lnG (dp : Int) (l : Gi_Lane) : Bool := kIn l.From 0 (dp - 1) && (kIn l.To 0 (dp - 1) && (!decide (l.From = l.To) && kIn l.Load 0 1000))
def lnsG (x : Gi_Lanes) : Bool := kIn x.Depots 2 6 && (decide (x.Lanes.length ≤ 15) && (decide ((x.Stores.length : Int) = x.Depots) && (alli (fun _ l => lnG x.Depots l) x.Lanes && alli (fun _ m => kIn m 0 1000) x.Stores)))
theorem lnsG_iff {x : Gi_Lanes} : lnsG x = true ↔ ∃ n, LnOk x n := by
  unfold lnsG
  simp only [Bool.and_eq_true, kIn_iff, decide_eq_true_eq, alli_iff, lnG, Bool.not_eq_true', decide_eq_false_iff_not]
  constructor
  · rintro ⟨h1, h2, h3, h4, h5⟩
    refine ⟨x.Depots.toNat, by omega, by omega, h2, by omega, fun l hl => ?_, fun m hm => ?_⟩
    · obtain ⟨i, hi⟩ := List.getElem?_of_mem hl
      have := h4 i l hi
      omega
    · obtain ⟨i, hi⟩ := List.getElem?_of_mem hm
      exact h5 i m hi
  · rintro ⟨n, h⟩
    have := h.dep
    have := h.n0
    refine ⟨by omega, h.len, by rw [h.st]; omega, fun i l hl => ?_, fun i m hm => h.so m (List.mem_of_getElem? hm)⟩
    have := h.la l (List.mem_of_getElem? hl)
    omega
theorem contains_store {l : List Int} (hl : l.length ≤ 2000000) : Dslices_ContainsFunc_int_i_IsLanes_1 l = some (!(alli (fun _ x => kIn x 0 1000) l)) := by
  rw [← ifNB]
  have := all_goL (L := fun s => (loop Bslices_IndexFunc_int_i_IsLanes_1 s).map fun r => decide (r ≥ 0)) (S := fun i => .h1 l (l.length : Int) (i : Int)) (l := l) (q := fun _ x => kIn x 0 1000) (f := true) (r := some false) (fun i x hx hi _ => by
    rw [loop_eq]
    simp only [Bslices_IndexFunc_int_i_IsLanes_1, ltc hi, nnc, if_true, Int.toNat_natCast, hx, Option.bind_some, Di_IsLanes_1, kin_i, wsucc (show i < 9223372036854775807 by omega)]
    cases kIn x 0 1000 <;> simp [goOn]) fun _ => by
    rw [loop_eq]
    simp only [Bslices_IndexFunc_int_i_IsLanes_1, nltc, if_false]
    rfl
  refine Eq.trans ?_ this
  unfold Dslices_ContainsFunc_int_i_IsLanes_1 Dslices_IndexFunc_int_i_IsLanes_1
  cases loop Bslices_IndexFunc_int_i_IsLanes_1 (.h1 l (l.length : Int) 0) <;> rfl
theorem isLanes_i {x : Gi_Lanes} (hs : x.Stores.length ≤ 2000000) : Di_IsLanes x = some (lnsG x) := by
  unfold Di_IsLanes lnsG
  rw [kin_i, obind rfl]
  cases c1 : kIn x.Depots 2 6 with
  | false => rfl
  | true =>
    have hdp := kIn_iff.1 c1
    by_cases c2 : ((x.Lanes.length : Nat) : Int) > 15
    · rw [if_pos rfl, if_pos c2, show decide (x.Lanes.length ≤ 15) = false by simp; omega]
      rfl
    · rw [if_pos rfl, if_neg c2, show decide (x.Lanes.length ≤ 15) = true by simp; omega]
      by_cases c3 : ((x.Stores.length : Nat) : Int) = x.Depots
      · rw [if_pos c3, show decide ((x.Stores.length : Int) = x.Depots) = true by simpa using c3]
        simp only [Bool.true_and]
        refine all_loop2 (B := Bi_IsLanes) (S := fun i => .h1 x.Lanes (x.Lanes.length : Int) (i : Int) x) (l := x.Lanes) (q := fun _ l => lnG x.Depots l) (fun i l hl hi _ => ?_) ?_
        · simp only [Bi_IsLanes, ltc hi, nnc, if_true, Int.toNat_natCast, hl, Option.bind_some, isIndex_i (show -1000000000 ≤ x.Depots ∧ x.Depots ≤ 1000000000 by omega), kin_i, wsucc (show i < 9223372036854775807 by omega), lnG]
          rcases Bool.eq_false_or_eq_true (kIn l.From 0 (x.Depots - 1)) with e1 | e1 <;> rcases Bool.eq_false_or_eq_true (kIn l.To 0 (x.Depots - 1)) with e2 | e2 <;> rcases Bool.eq_false_or_eq_true (kIn l.Load 0 1000) with e3 | e3 <;> by_cases c : l.From = l.To <;> simp [e1, e2, e3, c]
        · simp only [Bi_IsLanes, nltc, if_false, contains_store hs, Option.bind_some, Bool.not_not]
      · rw [if_neg c3, show decide ((x.Stores.length : Int) = x.Depots) = false by simpa using c3]
        rfl
theorem goodL_s {x : Gi_Lanes} (hs : x.Stores.length ≤ 2000000) : Ds_qGood x = some (lnsG x) := by
  unfold Ds_qGood lnsG
  rw [kin_s, obind rfl]
  cases c1 : kIn x.Depots 2 6 with
  | false => rfl
  | true =>
    have hdp := kIn_iff.1 c1
    by_cases c2 : ((x.Lanes.length : Nat) : Int) > 15
    · rw [if_pos rfl, if_pos c2, show decide (x.Lanes.length ≤ 15) = false by simp; omega]
      rfl
    · rw [if_pos rfl, if_neg c2, show decide (x.Lanes.length ≤ 15) = true by simp; omega]
      by_cases c3 : ((x.Stores.length : Nat) : Int) = x.Depots
      · rw [if_pos c3, show decide ((x.Stores.length : Int) = x.Depots) = true by simpa using c3, l1All_s hs, obind rfl]
        simp only [Bool.true_and]
        cases c4 : alli (fun _ x => kIn x 0 1000) x.Stores with
        | false => simp
        | true =>
          rw [if_pos rfl]
          refine all_loop2 (B := Bs_qGood) (S := fun i => .h1 x.Lanes (x.Lanes.length : Int) (i : Int) x) (l := x.Lanes) (q := fun _ l => lnG x.Depots l) (fun i l hl hi _ => ?_) ?_
          · simp only [Bs_qGood, ltc hi, nnc, if_true, Int.toNat_natCast, hl, Option.bind_some, w64 (n := x.Depots - 1) (by omega), kin_s, wsucc (show i < 9223372036854775807 by omega), lnG]
            rcases Bool.eq_false_or_eq_true (kIn l.From 0 (x.Depots - 1)) with e1 | e1 <;> rcases Bool.eq_false_or_eq_true (kIn l.To 0 (x.Depots - 1)) with e2 | e2 <;> rcases Bool.eq_false_or_eq_true (kIn l.Load 0 1000) with e3 | e3 <;> by_cases c : l.From = l.To <;> simp [e1, e2, e3, c]
          · simp only [Bs_qGood, nltc, if_false]
      · rw [if_neg c3, show decide ((x.Stores.length : Int) = x.Depots) = false by simpa using c3]
        rfl
def askG (x : Gi_Lanes) (f t days : Int) : Bool := lnsG x && (kIn f 0 (x.Depots - 1) && (kIn t 0 (x.Depots - 1) && (!decide (f = t) && kIn days 0 6)))
theorem askG_iff {x : Gi_Lanes} {f t days : Int} : askG x f t days = true ↔ ∃ n f' t' d' : Nat, f = (f' : Int) ∧ t = (t' : Int) ∧ days = (d' : Int) ∧ Ask x n f' t' d' := by
  unfold askG
  simp only [Bool.and_eq_true, kIn_iff, lnsG_iff, Bool.not_eq_true', decide_eq_false_iff_not]
  constructor
  · rintro ⟨⟨n, h⟩, h1, h2, h3, h4⟩
    have := h.dep
    exact ⟨n, f.toNat, t.toNat, days.toNat, by omega, by omega, by omega, h, by omega, by omega, by omega, by omega⟩
  · rintro ⟨n, f', t', d', rfl, rfl, rfl, h⟩
    have := h.ln.dep
    have := h.flt
    have := h.tlt
    have := h.ne
    have := h.dle
    exact ⟨⟨n, h.ln⟩, by omega, by omega, by omega, by omega⟩
theorem ask_i {x : Gi_Lanes} (hs : x.Stores.length ≤ 2000000) (f t days : Int) : Di_isTransport x f t days = some (askG x f t days) := by
  unfold Di_isTransport askG
  rw [isLanes_i hs, obind rfl]
  cases c : lnsG x with
  | false => rfl
  | true =>
    obtain ⟨n, h⟩ := lnsG_iff.1 c
    have h1 := h.dep
    have h2 := h.n0
    simp only [if_true, isIndex_i (show -1000000000 ≤ x.Depots ∧ x.Depots ≤ 1000000000 by omega), kin_i, Option.bind_some]
    rcases Bool.eq_false_or_eq_true (kIn f 0 (x.Depots - 1)) with e1 | e1 <;> rcases Bool.eq_false_or_eq_true (kIn t 0 (x.Depots - 1)) with e2 | e2 <;> by_cases c : f = t <;> simp [e1, e2, c]
theorem ask_s {x : Gi_Lanes} (hs : x.Stores.length ≤ 2000000) (f t days : Int) : Ds_qAsked x f t days = some (askG x f t days) := by
  unfold Ds_qAsked askG
  rw [goodL_s hs, obind rfl]
  cases c : lnsG x with
  | false => rfl
  | true =>
    obtain ⟨n, h⟩ := lnsG_iff.1 c
    have h1 := h.dep
    have h2 := h.n0
    simp only [if_true, w64 (n := x.Depots - 1) (by omega), kin_s, Option.bind_some]
    rcases Bool.eq_false_or_eq_true (kIn f 0 (x.Depots - 1)) with e1 | e1 <;> rcases Bool.eq_false_or_eq_true (kIn t 0 (x.Depots - 1)) with e2 | e2 <;> by_cases c : f = t <;> simp [e1, e2, c]

noncomputable def grd (x : Gi_Lanes) (f t days : Int) : Int := match Di_delivered x f t days with
  | some r => r.2
  | none => 0
section
variable {x : Gi_Lanes} {n f t days : Nat}
theorem grd_i (h : Ask x n f t days) : ∃ fl, Di_delivered x (f : Int) (t : Int) (days : Int) = some (Gi_network.mk (((days + 1) * n : Nat) : Int) (setF (netI x f t n days) fl), grd x f t days) ∧ FbI (netI x f t n days) fl ∧ GrF (ntI (netI x f t n days) ((days + 1) * n)) f (days * n + t) (grd x f t days) fl := by
  obtain ⟨fl, F, e1, e2, e3⟩ := deliver_i h
  have : grd x f t days = F := by unfold grd; rw [e1]
  rw [this]
  exact ⟨fl, e1, e2, e3⟩
theorem grd_s (h : Ask x n f t days) : ∃ fl, Ds_qGreatest x (f : Int) (t : Int) (days : Int) = some (grd x f t days) ∧ Ds_qNet_fill (Gs_qNet.mk (netS x f t n days) (((days + 1) * n : Nat) : Int)) (f : Int) ((days * n + t : Nat) : Int) 10000000 = some (grd x f t days, Gs_qNet.mk (setG (netS x f t n days) fl) (((days + 1) * n : Nat) : Int)) ∧ FbS (netS x f t n days) fl ∧ GrF (ntS (netS x f t n days) ((days + 1) * n)) f (days * n + t) (grd x f t days) fl := by
  obtain ⟨fl, F, e1, e2, e3, e4⟩ := deliver_s h
  obtain ⟨fi, _, _, g⟩ := grd_i h
  rw [great_eq h g e4]
  exact ⟨fl, e1, e2, e3, e4⟩
end
section
variable {x : Gi_Lanes} {f t days : Int}
noncomputable def grtR (x : Gi_Lanes) (f t days : Int) : Int × Bool := if askG x f t days = true then (grd x f t days, true) else (0, false)
theorem great_i (hs : x.Stores.length ≤ 2000000) : Di_GreatestDelivery x f t days = some (grtR x f t days) := by
  unfold Di_GreatestDelivery grtR
  rw [ask_i hs, obind rfl]
  by_cases c : askG x f t days = true
  · obtain ⟨n, f', t', d', rfl, rfl, rfl, h⟩ := askG_iff.1 c
    obtain ⟨fl, e, _⟩ := grd_i h
    rw [if_pos c, if_pos c, obind e]
  · rw [if_neg c, if_neg c]
theorem great_s (hs : x.Stores.length ≤ 2000000) : Ds_GreatestDelivery x f t days = some (grtR x f t days) := by
  unfold Ds_GreatestDelivery grtR
  rw [ask_s hs, obind rfl]
  by_cases c : askG x f t days = true
  · obtain ⟨n, f', t', d', rfl, rfl, rfl, h⟩ := askG_iff.1 c
    obtain ⟨fl, e, _⟩ := grd_s h
    rw [if_pos c, if_pos c, obind e]
  · rw [if_neg c, if_neg c]
noncomputable def fewR (x : Gi_Lanes) (f t a : Int) : Nat → Nat → Int × Bool
  | 0, _ => (0, false)
  | m + 1, d => if a ≤ grd x f t d then ((d : Int), true) else fewR x f t a m (d + 1)
theorem few_i {n f t : Nat} (h : Ask x n f t 0) (a : Int) : ∀ (m d : Nat), d + m = 7 → loop Bi_FewestDays (.h1 (f : Int) (t : Int) a (d : Int) x) = some (fewR x f t a m d)
  | 0, d, hm => by
    rw [loop_eq, Bi_FewestDays.eq_1, if_neg (by omega)]
    rfl
  | m + 1, d, hm => by
    obtain ⟨fl, e, _⟩ := grd_i (days := d) ⟨h.ln, h.flt, h.tlt, h.ne, by omega⟩
    rw [loop_eq, Bi_FewestDays.eq_1, if_pos (by omega), obind e, fewR]
    by_cases c : a ≤ grd x f t d
    · rw [if_pos c, if_pos (by exact c)]; rfl
    · rw [if_neg c, if_neg (by exact c), wsucc (by omega)]
      exact few_i h a m (d + 1) (by omega)
theorem few_s {n f t : Nat} (h : Ask x n f t 0) (a : Int) : ∀ (m d : Nat), d + m = 7 → loop Bs_FewestDays (.h1 (f : Int) (t : Int) a (d : Int) x) = some (fewR x f t a m d)
  | 0, d, hm => by
    rw [loop_eq, Bs_FewestDays.eq_1, if_neg (by omega)]
    rfl
  | m + 1, d, hm => by
    obtain ⟨fl, e, _⟩ := grd_s (days := d) ⟨h.ln, h.flt, h.tlt, h.ne, by omega⟩
    rw [loop_eq, Bs_FewestDays.eq_1, if_pos (by omega), obind e, fewR]
    by_cases c : a ≤ grd x f t d
    · rw [if_pos c, if_pos (by exact c)]; rfl
    · rw [if_neg c, if_neg (by exact c), wsucc (by omega)]
      exact few_s h a m (d + 1) (by omega)
theorem fewR_is (x : Gi_Lanes) (f t a : Int) : ∀ (m d : Nat), (fewR x f t a m d).2 = true → ∃ k : Nat, (fewR x f t a m d).1 = (k : Int) ∧ d ≤ k ∧ k < d + m ∧ ∀ j, d ≤ j → j < k → grd x f t (j : Nat) < a
  | 0, d, h => by cases h
  | m + 1, d, h => by
    unfold fewR at h ⊢
    by_cases c : a ≤ grd x f t d
    · rw [if_pos c]
      exact ⟨d, rfl, by omega, by omega, fun j h1 h2 => by omega⟩
    · rw [if_neg c] at h ⊢
      obtain ⟨k, e, h1, h2, h3⟩ := fewR_is x f t a m (d + 1) h
      refine ⟨k, e, by omega, by omega, fun j hj hk => ?_⟩
      by_cases ej : j = d
      · rw [ej]; omega
      · exact h3 j (by omega) hk
noncomputable def fewB (x : Gi_Lanes) (f t a : Int) : Int × Bool := if (askG x f t 0 && kIn a 0 100000) = true then fewR x f t a 7 0 else (0, false)
theorem fewest_i (hs : x.Stores.length ≤ 2000000) (a : Int) : Di_FewestDays x f t a = some (fewB x f t a) := by
  unfold Di_FewestDays fewB
  rw [ask_i hs, obind rfl]
  by_cases c : askG x f t 0 = true
  · obtain ⟨n, f', t', d', rfl, rfl, hd0, h⟩ := askG_iff.1 c
    have : d' = 0 := by omega
    subst this
    rw [if_pos c, kin_i, obind rfl, c]
    by_cases c2 : kIn a 0 100000 = true
    · rw [if_pos c2, c2, if_pos (show (true && true) = true from rfl)]
      exact few_i h a 7 0 rfl
    · rw [if_neg c2, if_neg (by simpa using c2)]
  · rw [if_neg c, if_neg (by simp [c])]
theorem fewest_s (hs : x.Stores.length ≤ 2000000) (a : Int) : Ds_FewestDays x f t a = some (fewB x f t a) := by
  unfold Ds_FewestDays fewB
  rw [ask_s hs, obind rfl]
  by_cases c : askG x f t 0 = true
  · obtain ⟨n, f', t', d', rfl, rfl, hd0, h⟩ := askG_iff.1 c
    have : d' = 0 := by omega
    subst this
    rw [if_pos c, kin_s, obind rfl, c]
    by_cases c2 : kIn a 0 100000 = true
    · rw [if_pos c2, c2, if_pos (show (true && true) = true from rfl)]
      exact few_s h a 7 0 rfl
    · rw [if_neg c2, if_neg (by simpa using c2)]
  · rw [if_neg c, if_neg (by simp [c])]
theorem fewest_law (a : Int) (h : (fewB x f t a).2 = true) (h0 : 0 < (fewB x f t a).1) : askG x f t ((fewB x f t a).1 - 1) = true ∧ grd x f t ((fewB x f t a).1 - 1) < a ∧ (fewB x f t a).1 ≤ 6 := by
  unfold fewB at h h0 ⊢
  by_cases c : (askG x f t 0 && kIn a 0 100000) = true
  · rw [if_pos c] at h h0 ⊢
    simp only [Bool.and_eq_true] at c
    obtain ⟨n, f', t', d', rfl, rfl, hd0, ha⟩ := askG_iff.1 c.1
    obtain ⟨k, e, h1, h2, h3⟩ := fewR_is x f' t' a 7 0 h
    rw [e] at h0 ⊢
    have ek : (k : Int) - 1 = ((k - 1 : Nat) : Int) := by omega
    rw [ek]
    exact ⟨askG_iff.2 ⟨n, f', t', k - 1, rfl, rfl, rfl, ha.ln, ha.flt, ha.tlt, ha.ne, by omega⟩, h3 (k - 1) (by omega) (by omega), by omega⟩
  · rw [if_neg c] at h
    cases h
end

def cutL (S : Nat → Bool) (i m : Nat) : List Int := ((List.range' i m).filter S).map Int.ofNat
theorem cutL_succ (S : Nat → Bool) (i m : Nat) : cutL S i (m + 1) = (if S i = true then [(i : Int)] else []) ++ cutL S (i + 1) m := by
  unfold cutL
  rw [List.range'_succ, List.filter_cons]
  by_cases c : S i = true
  · rw [if_pos c, if_pos c]; rfl
  · rw [if_neg c, if_neg c]; rfl
theorem cutL_len (S : Nat → Bool) (i m : Nat) : (cutL S i m).length ≤ m := by
  unfold cutL
  rw [List.length_map]
  have := List.length_filter_le S (List.range' i m)
  rw [List.length_range'] at this
  exact this
theorem cutL_congr {S S' : Nat → Bool} (i m : Nat) (h : ∀ v, i ≤ v → v < i + m → S v = S' v) : cutL S i m = cutL S' i m := by
  unfold cutL
  congr 1
  refine List.filter_congr fun v hv => ?_
  have := List.mem_range'_1.1 hv
  exact h v this.1 this.2
theorem cut_i {V : List Gi_visit} (hV : V.length ≤ 1000) {Q : List Nat} : ∀ (m i : Nat) (acc : List Int), i + m = V.length → acc.length ≤ i →
    loop Bi_DeliveryCut (.h1 ((V.length : Nat) : Int) (i : Int) acc V) = some (acc ++ cutL ((rvI V).rank Q).seen i m, true)
  | 0, i, acc, hm, ha => by
    rw [loop_eq, Bi_DeliveryCut.eq_1, if_neg (by omega)]
    simp [goOn, cutL]
  | m + 1, i, acc, hm, ha => by
    have hx := List.getElem?_eq_getElem (show i < V.length by omega)
    generalize V[i] = x at hx
    have hx' : V[Int.toNat (i : Int)]? = some x := hx
    have hs : ((rvI V).rank Q).seen i = x.seen := by simp only [Rch.rank, rvI, hx]
    rw [loop_eq, Bi_DeliveryCut.eq_1, if_pos (by omega), if_pos (by omega), obind hx', cutL_succ, hs]
    by_cases c : x.seen = true
    · rw [if_pos c, if_pos c, if_pos (by simp; omega), wsucc (by omega), ← List.append_assoc]
      exact cut_i hV m (i + 1) _ (by omega) (by simp; omega)
    · rw [if_neg c, if_neg c, wsucc (by omega), List.nil_append]
      exact cut_i hV m (i + 1) _ (by omega) (by omega)
theorem cut_s {L : List Gs_qArc} {V : List Int} (hV : V.length ≤ 1000) {Q : List Nat} : ∀ (m i : Nat) (acc : List Int), i + m = V.length → acc.length ≤ i →
    loop Bs_DeliveryCut (.h1 ((V.length : Nat) : Int) (i : Int) acc V) = some (acc ++ cutL ((rvS L V).rank Q).seen i m, true)
  | 0, i, acc, hm, ha => by
    rw [loop_eq, Bs_DeliveryCut.eq_1, if_neg (by omega)]
    simp [goOn, cutL]
  | m + 1, i, acc, hm, ha => by
    have hx := List.getElem?_eq_getElem (show i < V.length by omega)
    generalize V[i] = x at hx
    have hx' : V[Int.toNat (i : Int)]? = some x := hx
    have hs : ((rvS L V).rank Q).seen i = decide (x ≠ -1) := by simp only [Rch.rank, rvS, hx]
    rw [loop_eq, Bs_DeliveryCut.eq_1, if_pos (by omega), if_pos (by omega), obind hx', cutL_succ, hs]
    by_cases c : x = -1
    · rw [if_pos c, if_neg (show ¬ (decide (x ≠ -1) = true) by simp [c]), wsucc (by omega), List.nil_append]
      exact cut_s (L := L) hV m (i + 1) _ (by omega) (by omega)
    · rw [if_neg c, if_pos (show decide (x ≠ -1) = true by simpa using c), if_pos (by simp; omega), wsucc (by omega), ← List.append_assoc]
      exact cut_s (L := L) hV m (i + 1) _ (by omega) (by simp; omega)
section
variable {x : Gi_Lanes} {n f t days : Nat}
theorem cuts_eq (h : Ask x n f t days) {fi fs : Nat → Int} {F : Int} (gi : GrF (ntI (netI x f t n days) ((days + 1) * n)) f (days * n + t) F fi) (gs : GrF (ntS (netS x f t n days) ((days + 1) * n)) f (days * n + t) F fs) {Ri Rs : Rch Nat}
    (si : Srch (ntI (netI x f t n days) ((days + 1) * n)) fi (fun _ => false) f Ri) (ss : Srch (ntS (netS x f t n days) ((days + 1) * n)) fs (fun _ => false) f Rs) : Ri.seen = Rs.seen ∧ Ri.seen (days * n + t) = false ∧ F = capN x n days f t 1000000000 Ri.seen := by
  have wi := (netI_wf (days := days) h.ln (f : Int) (t : Int) h.dle).ok
  have ws := (netS_wf (days := days) h.ln (f : Int) (t : Int) h.dle).ok
  obtain ⟨S, a1, a2, a3⟩ := gi.sh
  obtain ⟨S', b1, b2, b3⟩ := gs.sh
  have ti : Ri.seen (days * n + t) = false := by
    cases c : Ri.seen (days * n + t) with
    | false => rfl
    | true => rw [si.least a1 a2 _ c] at a3; cases a3
  have ts : Rs.seen (days * n + t) = false := by
    cases c : Rs.seen (days * n + t) with
    | false => rfl
    | true => rw [ss.least b1 b2 _ c] at b3; cases b3
  have e1 := gi.fw.eq_cap wi h.s h.e si.s0 ti (si.shut gi.fw.b)
  have e2 := gs.fw.eq_cap ws h.s h.e ss.s0 ts (ss.shut gs.fw.b)
  have e1' := e1
  rw [capI h.ln] at e1
  rw [capS h.ln] at e2
  have := gi.f1
  have c1 := capN_eq (days := days) (big' := 1000000) h.ln (f : Int) (t : Int) (big := 1000000000) (by omega) (S := Ri.seen) (by omega)
  have c2 := capN_eq (days := days) (big' := 1000000000) h.ln (f : Int) (t : Int) (big := 1000000) (by omega) (S := Rs.seen) (by omega)
  have u1 := gs.fw.shut ws h.s h.e si.s0 ti (by rw [capS h.ln]; omega)
  have u2 := gi.fw.shut wi h.s h.e ss.s0 ts (by rw [capI h.ln]; omega)
  refine ⟨?_, ti, e1⟩
  funext v
  rw [Bool.eq_iff_iff]
  exact ⟨fun hv => si.least u2 ss.s0 v hv, fun hv => ss.least u1 si.s0 v hv⟩
theorem deliveryCut (h : Ask x n f t days) : ∃ S : Nat → Bool, Di_DeliveryCut x (f : Int) (t : Int) (days : Int) = some (cutL S 0 ((days + 1) * n), true) ∧ Ds_DeliveryCut x (f : Int) (t : Int) (days : Int) = some (cutL S 0 ((days + 1) * n), true) ∧
    grd x f t days = capN x n days f t 1000000000 S ∧ (grd x f t days ≤ 90000) ∧ ∀ v, S v = true → v < (days + 1) * n := by
  have hst : x.Stores.length ≤ 2000000 := by have := h.ln.st; have := h.ln.n0; omega
  have hask : askG x f t days = true := askG_iff.2 ⟨n, f, t, days, rfl, rfl, rfl, h⟩
  obtain ⟨fi, d1, d2, d3⟩ := grd_i h
  obtain ⟨fs, s1, s2, s3, s4⟩ := grd_s h
  have wi := netI_wf (days := days) h.ln (f : Int) (t : Int) h.dle
  have ws := netS_wf (days := days) h.ln (f : Int) (t : Int) h.dle
  obtain ⟨V, Q, e1, e2⟩ := search_i (wi.set fi) h.s
  obtain ⟨V', Q', e3, e4⟩ := search_s (ws.set fs) h.s
  have r1 := e2.sr
  rw [setF_nt, setF_fz, setF_fl d2.z, netI_fz h.ln] at r1
  have r2 := e4.sr
  rw [setG_nt, setG_rv, setG_fl s3.z] at r2
  obtain ⟨c1, c2, c3⟩ := cuts_eq h d3 s4 r1 r2
  have hp := wi.pl
  refine ⟨_, ?_, ?_, c3, d3.f1, fun v hv => r1.lt v hv⟩
  · unfold Di_DeliveryCut
    rw [ask_i hst, obind rfl, if_pos hask, obind d1, obind e1]
    have := cut_i (V := V) (by rw [e2.len]; exact hp) (Q := Q) V.length 0 [] (by omega) (by simp)
    rw [List.nil_append] at this
    rw [e2.len] at this ⊢
    exact this
  · unfold Ds_DeliveryCut
    rw [ask_s hst, obind rfl, if_pos hask, obind (net_s h.ln (f : Int) (t : Int) (by have := h.dle; omega)), wT h, obind s2, if_pos (by simp only [setG_len]), obind e3]
    have := cut_s (L := netS x f t n days) (V := V') (by rw [e4.len]; exact hp) (Q := Q') V'.length 0 [] (by omega) (by simp)
    rw [List.nil_append, ← c1] at this
    rw [e4.len] at this ⊢
    exact this
end

def inC (cut : List Int) (v : Nat) : Bool := hasB cut (v : Int)
theorem sumC_i {L : List Gi_arc} {cut : List Int} (hc : cut.length ≤ 2000000) (hlen : L.length ≤ 1000) (h0 : ∀ a ∈ L, 0 ≤ a.from_ ∧ 0 ≤ a.to_ ∧ 0 ≤ a.most ∧ a.most ≤ 1000000000) {p : Nat} (K : Int) (hK : K = 1000000000) : ∀ (m i : Nat) (s : Int), i + m = L.length → 0 ≤ s → s ≤ i * K →
    loop Bi_CutLoad (.h1 cut s ((L.length : Nat) : Int) (i : Int) L) = some (s + lsm (fun i => if inC cut ((ntI L p).fr i) = true ∧ inC cut ((ntI L p).tt i) = false then (ntI L p).mo i else 0) (List.range' i m), true) := by
  intro m
  induction m with
  | zero =>
    intro i s hm h1 h2
    rw [loop_eq, Bi_CutLoad.eq_1, if_neg (by omega)]
    simp [goOn, lsm]
  | succ m ih =>
    intro i s hm h1 h2
    have hi1 : ((i + 1 : Nat) : Int) * K = (i : Int) * K + K := by rw [Int.natCast_add, Int.add_mul]; simp
    have hiK : (i : Int) * K ≤ 1000 * K := Int.mul_le_mul_of_nonneg_right (by omega) (by omega)
    have hx := List.getElem?_eq_getElem (show i < L.length by omega)
    generalize L[i] = a at hx
    have wa := h0 a (List.mem_of_getElem? hx)
    have hx' : L[Int.toNat (i : Int)]? = some a := hx
    have e1 : inC cut ((ntI L p).fr i) = hasB cut a.from_ := by simp only [inC, ntI, hx]; rw [Int.toNat_of_nonneg wa.1]
    have e2 : inC cut ((ntI L p).tt i) = hasB cut a.to_ := by simp only [inC, ntI, hx]; rw [Int.toNat_of_nonneg wa.2.1]
    have e3 : (ntI L p).mo i = a.most := by simp only [ntI, hx]
    rw [loop_eq, Bi_CutLoad.eq_1, if_pos (by omega), if_pos (by omega), obind hx', contains_i hc, obind rfl, List.range'_succ]
    simp only [lsm]
    rw [e1, e2, e3]
    rcases Bool.eq_false_or_eq_true (hasB cut a.from_) with c1 | c1
    · rw [if_pos c1, contains_i hc, obind rfl]
      rcases Bool.eq_false_or_eq_true (hasB cut a.to_) with c2 | c2
      · rw [if_pos c2, if_neg (by simp [c2]), wsucc (by omega), Int.zero_add]
        exact ih (i + 1) s (by omega) h1 (by omega)
      · rw [if_neg (by simp [c2]), if_pos ⟨c1, c2⟩, wsucc (by omega), w64 (by omega), ← Int.add_assoc]
        exact ih (i + 1) _ (by omega) (by omega) (by omega)
    · rw [if_neg (by simp [c1]), if_neg (by simp [c1]), wsucc (by omega), Int.zero_add]
      exact ih (i + 1) s (by omega) h1 (by omega)
theorem sumC_s {L : List Gs_qArc} {cut : List Int} (hc : cut.length ≤ 2000000) (hlen : L.length ≤ 1000) (h0 : ∀ a ∈ L, 0 ≤ a.from_ ∧ 0 ≤ a.to_ ∧ 0 ≤ a.most ∧ a.most ≤ 1000000000) {p : Nat} (K : Int) (hK : K = 1000000000) : ∀ (m i : Nat) (s : Int), i + m = L.length → 0 ≤ s → s ≤ i * K →
    loop Bs_CutLoad (.h1 cut s ((L.length : Nat) : Int) (i : Int) L) = some (s + lsm (fun i => if inC cut ((ntS L p).fr i) = true ∧ inC cut ((ntS L p).tt i) = false then (ntS L p).mo i else 0) (List.range' i m), true) := by
  intro m
  induction m with
  | zero =>
    intro i s hm h1 h2
    rw [loop_eq, Bs_CutLoad.eq_1, if_neg (by omega)]
    simp [goOn, lsm]
  | succ m ih =>
    intro i s hm h1 h2
    have hi1 : ((i + 1 : Nat) : Int) * K = (i : Int) * K + K := by rw [Int.natCast_add, Int.add_mul]; simp
    have hiK : (i : Int) * K ≤ 1000 * K := Int.mul_le_mul_of_nonneg_right (by omega) (by omega)
    have hx := List.getElem?_eq_getElem (show i < L.length by omega)
    generalize L[i] = a at hx
    have wa := h0 a (List.mem_of_getElem? hx)
    have hx' : L[Int.toNat (i : Int)]? = some a := hx
    have e1 : inC cut ((ntS L p).fr i) = hasB cut a.from_ := by simp only [inC, ntS, hx]; rw [Int.toNat_of_nonneg wa.1]
    have e2 : inC cut ((ntS L p).tt i) = hasB cut a.to_ := by simp only [inC, ntS, hx]; rw [Int.toNat_of_nonneg wa.2.1]
    have e3 : (ntS L p).mo i = a.most := by simp only [ntS, hx]
    rw [loop_eq, Bs_CutLoad.eq_1, if_pos (by omega), if_pos (by omega), obind hx', has_s hc, obind rfl, List.range'_succ]
    simp only [lsm]
    rw [e1, e2, e3]
    rcases Bool.eq_false_or_eq_true (hasB cut a.from_) with c1 | c1
    · rw [if_pos c1, has_s hc, obind rfl]
      rcases Bool.eq_false_or_eq_true (hasB cut a.to_) with c2 | c2
      · rw [if_pos c2, if_neg (by simp [c2]), wsucc (by omega), Int.zero_add]
        exact ih (i + 1) s (by omega) h1 (by omega)
      · rw [if_neg (by simp [c2]), if_pos ⟨c1, c2⟩, wsucc (by omega), w64 (by omega), ← Int.add_assoc]
        exact ih (i + 1) _ (by omega) (by omega) (by omega)
    · rw [if_neg (by simp [c1]), if_neg (by simp [c1]), wsucc (by omega), Int.zero_add]
      exact ih (i + 1) s (by omega) h1 (by omega)
theorem capN_none (x : Gi_Lanes) (n days : Nat) (big big' : Int) (S : Nat → Bool) : capN x n days (-1) (-1) big S = capN x n days (-1) (-1) big' S := by
  refine tsm_congr (fun d r hdd hr => rfl) fun d k hdd hk => ?_
  have c : ¬ ((k : Int) = -1 ∨ (k : Int) = -1) := by omega
  simp only [if_neg c]
def cutG (x : Gi_Lanes) (days : Int) (cut : List Int) : Bool := lnsG x && (kIn days 0 6 && (rising cut && alli (fun _ p => kIn p 0 ((days + 1) * x.Depots - 1)) cut))
def cutR (x : Gi_Lanes) (days : Int) (cut : List Int) : Int × Bool := if cutG x days cut = true then (capN x x.Depots.toNat days.toNat (-1) (-1) 0 (inC cut), true) else (0, false)
theorem contains_cut {l : List Int} (hl : l.length ≤ 2000000) {x : Gi_Lanes} {n days : Nat} (h : LnOk x n) (hdp : days ≤ 6) : Dslices_ContainsFunc_int_i_CutLoad_1 l (days : Int) x = some (!(alli (fun _ p => kIn p 0 (((days : Int) + 1) * x.Depots - 1)) l)) := by
  rw [← ifNB]
  have hb := h.ndL hdp
  have e : ((days : Int) + 1) * x.Depots = (((days + 1) * n : Nat) : Int) := by rw [h.dep]; simp
  have hw : IntKind.wrap .i64 (IntKind.wrap .i64 ((days : Int) + 1) * x.Depots) = (((days + 1) * n : Nat) : Int) := by rw [h.dep]; exact wdn1 (by omega) (by have := h.n0; omega)
  rw [e]
  have := all_goL (L := fun s => (loop Bslices_IndexFunc_int_i_CutLoad_1 s).map fun r => decide (r ≥ 0)) (S := fun i => .h1 l (days : Int) x (l.length : Int) (i : Int)) (l := l) (q := fun _ p => kIn p 0 ((((days + 1) * n : Nat) : Int) - 1)) (f := true) (r := some false) (fun i y hy hi _ => by
    rw [loop_eq]
    simp only [Bslices_IndexFunc_int_i_CutLoad_1, ltc hi, nnc, if_true, Int.toNat_natCast, hy, Option.bind_some, Di_CutLoad_1, hw, isIndex_i (show -1000000000 ≤ (((days + 1) * n : Nat) : Int) ∧ (((days + 1) * n : Nat) : Int) ≤ 1000000000 by omega), wsucc (show i < 9223372036854775807 by omega)]
    cases kIn y 0 ((((days + 1) * n : Nat) : Int) - 1) <;> simp [goOn]) fun _ => by
    rw [loop_eq]
    simp only [Bslices_IndexFunc_int_i_CutLoad_1, nltc, if_false]
    rfl
  refine Eq.trans ?_ this
  unfold Dslices_ContainsFunc_int_i_CutLoad_1 Dslices_IndexFunc_int_i_CutLoad_1
  cases loop Bslices_IndexFunc_int_i_CutLoad_1 (.h1 l (days : Int) x (l.length : Int) 0) <;> rfl
theorem cutLoad_i {x : Gi_Lanes} (hs : x.Stores.length ≤ 2000000) (days : Int) {cut : List Int} (hc : cut.length ≤ 2000000) : Di_CutLoad x days cut = some (cutR x days cut) := by
  unfold Di_CutLoad cutR cutG
  rw [isLanes_i hs, obind rfl]
  by_cases c1 : lnsG x = true
  · obtain ⟨n, h⟩ := lnsG_iff.1 c1
    rw [if_pos c1, kin_i, obind rfl, c1]
    by_cases c2 : kIn days 0 6 = true
    · have hk := kIn_iff.1 c2
      obtain ⟨d, rfl⟩ := Int.eq_ofNat_of_zero_le hk.1
      have hn := h.n0
      rw [if_pos c2, increasing_i hc, obind rfl, c2]
      by_cases c3 : rising cut = true
      · rw [if_pos c3, contains_cut hc h (by omega), obind rfl, c3]
        by_cases c4 : alli (fun _ p => kIn p 0 (((d : Int) + 1) * x.Depots - 1)) cut = true
        · have wf := netI_wf (days := d) h (-1) (-1) (by omega)
          have hmo := netI_mo (days := d) h (-1) (-1)
          rw [if_neg (by simp [c4]), obind (net_i h (-1) (-1) (by omega)), if_pos (by simp [c4])]
          have := sumC_i (L := netI x (-1) (-1) n d) hc wf.len (fun a ha => by
            obtain ⟨i, hi⟩ := List.getElem?_of_mem ha
            have := wf.a a ha
            have := hmo i a hi
            omega) (p := 0) 1000000000 rfl (netI x (-1) (-1) n d).length 0 0 (by omega) (by omega) (by omega)
          refine this.trans ?_
          rw [Int.zero_add, ← List.range_eq_range']
          have e := capI (days := d) h (-1) (-1) 0 (inC cut)
          unfold capf at e
          have e5 : (ntI (netI x (-1) (-1) n d) 0).I = List.range (netI x (-1) (-1) n d).length := rfl
          rw [e5] at e
          rw [e, capN_none x n d _ 0, h.dep]
          rfl
        · rw [if_pos (by simpa using c4), if_neg (by simpa using c4)]
      · rw [if_neg c3, if_neg (by simp [c3])]
    · rw [if_neg c2, if_neg (by simp [c2])]
  · rw [if_neg c1, if_neg (by simp [c1])]
theorem cutLoad_s {x : Gi_Lanes} (hs : x.Stores.length ≤ 2000000) (days : Int) {cut : List Int} (hc : cut.length ≤ 2000000) : Ds_CutLoad x days cut = some (cutR x days cut) := by
  unfold Ds_CutLoad cutR cutG
  rw [goodL_s hs, obind rfl]
  by_cases c1 : lnsG x = true
  · obtain ⟨n, h⟩ := lnsG_iff.1 c1
    rw [if_pos c1, kin_s, obind rfl, c1]
    by_cases c2 : kIn days 0 6 = true
    · have hk := kIn_iff.1 c2
      obtain ⟨d, rfl⟩ := Int.eq_ofNat_of_zero_le hk.1
      have hn := h.n0
      have hb := h.ndL (days := d) (by omega)
      have hw : IntKind.wrap .i64 (IntKind.wrap .i64 (IntKind.wrap .i64 ((d : Int) + 1) * x.Depots) - 1) = ((d : Int) + 1) * x.Depots - 1 := by
        have e : ((d : Int) + 1) * x.Depots = (((d + 1) * n : Nat) : Int) := by rw [h.dep]; simp
        rw [e, h.dep, wdn1 (by omega) (by omega), w64 (by omega)]
      rw [if_pos c2, hw, rise_g hc, obind rfl, c2]
      simp only [Bool.true_and]
      by_cases c4 : (rising cut && alli (fun _ p => kIn p 0 (((d : Int) + 1) * x.Depots - 1)) cut) = true
      · have wf := netS_wf (days := d) h (-1) (-1) (by omega)
        have hmo := netS_mo (days := d) h (-1) (-1)
        rw [if_pos c4, obind (net_s h (-1) (-1) (by omega)), if_pos c4]
        have := sumC_s (L := netS x (-1) (-1) n d) hc wf.len (fun a ha => by
          obtain ⟨i, hi⟩ := List.getElem?_of_mem ha
          have := wf.a a ha
          have := hmo i a hi
          omega) (p := 0) 1000000000 rfl (netS x (-1) (-1) n d).length 0 0 (by omega) (by omega) (by omega)
        refine this.trans ?_
        rw [Int.zero_add, ← List.range_eq_range']
        have e := capS (days := d) h (-1) (-1) 0 (inC cut)
        unfold capf at e
        have e5 : (ntS (netS x (-1) (-1) n d) 0).I = List.range (netS x (-1) (-1) n d).length := rfl
        rw [e5] at e
        rw [e, capN_none x n d _ 0, h.dep]
        rfl
      · rw [if_neg c4, if_neg c4]
    · rw [if_neg c2, if_neg (by simp [c2])]
  · rw [if_neg c1, if_neg (by simp [c1])]

theorem cutL_mem {S : Nat → Bool} {P : Nat} {e : Int} : e ∈ cutL S 0 P ↔ ∃ v : Nat, v < P ∧ S v = true ∧ e = (v : Int) := by
  unfold cutL
  simp only [List.mem_map, List.mem_filter, List.mem_range'_1]
  constructor
  · rintro ⟨v, ⟨h1, h2⟩, rfl⟩
    exact ⟨v, by omega, h2, rfl⟩
  · rintro ⟨v, h1, h2, rfl⟩
    exact ⟨v, ⟨⟨by omega, by omega⟩, h2⟩, rfl⟩
theorem cutL_in {S : Nat → Bool} {P : Nat} (h : ∀ v, S v = true → v < P) : inC (cutL S 0 P) = S := by
  funext v
  unfold inC
  rw [Bool.eq_iff_iff, hasB_iff, cutL_mem]
  constructor
  · rintro ⟨w, h1, h2, e⟩
    have : v = w := by omega
    rw [this]; exact h2
  · intro hv
    exact ⟨v, h v hv, hv, rfl⟩
theorem cutL_rise (S : Nat → Bool) (P : Nat) : rising (cutL S 0 P) = true := by
  rw [rising_iff]
  intro j a b hj ha hb
  have hp : (cutL S 0 P).Pairwise (· < ·) := by
    unfold cutL
    rw [List.pairwise_map]
    refine List.Pairwise.filter _ ((List.pairwise_lt_range' (s := 0) (n := P) (step := 1) (by omega)).imp fun h => ?_)
    simp only [Int.ofNat_eq_natCast]
    omega
  obtain ⟨h1, e1⟩ := List.getElem?_eq_some_iff.1 ha
  obtain ⟨h2, e2⟩ := List.getElem?_eq_some_iff.1 hb
  have := List.pairwise_iff_getElem.1 hp (j - 1) j h1 h2 (by omega)
  rw [e1, e2] at this
  exact this
theorem capN_ends {x : Gi_Lanes} {n f t days : Nat} (h : LnOk x n) {big : Int} (hb : 0 ≤ big) {S : Nat → Bool} (hlt : capN x n days f t big S < big) : capN x n days (-1) (-1) 0 S = capN x n days f t big S := by
  obtain ⟨n1, n2⟩ := capN_nn (days := days) h (f : Int) (t : Int) hb S
  have := (tsm_mem n1 n2).2
  refine tsm_congr (fun d r hdd hr => rfl) fun d k hdd hk => ?_
  have := this d k hdd hk
  have hh : capN x n days f t big S = tsm x.Lanes.length n days _ _ := rfl
  cases hm : x.Stores[k]? with
  | none => rfl
  | some m =>
    rw [hm] at this
    simp only at this ⊢
    by_cases c : S (d * n + k) = true ∧ S ((d + 1) * n + k) = false
    · rw [if_pos c] at this ⊢
      by_cases c2 : (k : Int) = f ∨ (k : Int) = t
      · rw [if_pos c2] at this
        rw [hh] at hlt
        omega
      · rw [if_neg (by omega), if_pos c, if_neg c2]
    · rw [if_neg c, if_neg c]
theorem cut_load {x : Gi_Lanes} {n f t days : Nat} (h : Ask x n f t days) {S : Nat → Bool} (h1 : grd x f t days = capN x n days f t 1000000000 S) (h2 : grd x f t days ≤ 90000) (h3 : ∀ v, S v = true → v < (days + 1) * n) : cutR x days (cutL S 0 ((days + 1) * n)) = (grd x f t days, true) := by
  have hd6 := h.dle
  have e : ((days : Int) + 1) * x.Depots = (((days + 1) * n : Nat) : Int) := by rw [h.ln.dep]; simp
  have hg : cutG x days (cutL S 0 ((days + 1) * n)) = true := by
    unfold cutG
    simp only [Bool.and_eq_true, kIn_iff, alli_iff]
    refine ⟨lnsG_iff.2 ⟨n, h.ln⟩, by omega, cutL_rise _ _, fun i y hy => ?_⟩
    obtain ⟨v, hv, _, rfl⟩ := cutL_mem.1 (List.mem_of_getElem? hy)
    rw [e]
    omega
  unfold cutR
  rw [if_pos hg, cutL_in h3, h.ln.dep]
  simp only [Int.toNat_natCast]
  rw [capN_ends (f := f) (t := t) h.ln (big := 1000000000) (by omega) (by omega), ← h1]

def frzL (L : List Gi_arc) (z : Nat) : List Gi_arc := L.mapIdx fun i a => Gi_arc.mk a.from_ a.to_ a.most a.flow (decide (i < z))
theorem frzL_at (L : List Gi_arc) (z i : Nat) : (frzL L z)[i]? = (L[i]?).map fun a => Gi_arc.mk a.from_ a.to_ a.most a.flow (decide (i < z)) := by
  unfold frzL
  rw [List.getElem?_mapIdx]
theorem frzL_len (L : List Gi_arc) (z : Nat) : (frzL L z).length = L.length := by simp [frzL]
theorem frzL_nt (L : List Gi_arc) (z n : Nat) : ntI (frzL L z) n = ntI L n := by
  unfold ntI
  rw [frzL_len]
  congr 1 <;> funext i <;> rw [frzL_at] <;> cases L[i]? <;> rfl
theorem frzL_fz {L : List Gi_arc} {z : Nat} (hz : z ≤ L.length) : fzI (frzL L z) = fun i => decide (i < z) := by
  funext i
  unfold fzI
  rw [frzL_at]
  by_cases hi : i < L.length
  · rw [List.getElem?_eq_getElem hi]; rfl
  · rw [List.getElem?_eq_none (by omega)]
    simp; omega
theorem frzL_wf {L : List Gi_arc} {n : Nat} (h : WfI L n) (z : Nat) : WfI (frzL L z) n where
  len := by rw [frzL_len]; exact h.len
  pl := h.pl
  a x hx := by
    obtain ⟨i, hi⟩ := List.getElem?_of_mem hx
    rw [frzL_at, Option.map_eq_some_iff] at hi
    obtain ⟨a, ha, rfl⟩ := hi
    exact h.a a (List.mem_of_getElem? ha)
theorem frzL_fb {L : List Gi_arc} {f : Nat → Int} (z : Nat) : FbI (frzL L z) f ↔ FbI L f := by
  constructor
  · intro h
    refine ⟨fun i a ha => ?_, fun i a ha => ?_, fun i hi => h.z i (by rw [frzL_len]; exact hi)⟩
    · have e : (frzL L z)[i]? = some (Gi_arc.mk a.from_ a.to_ a.most a.flow (decide (i < z))) := by rw [frzL_at, ha]; rfl
      have := h.b i _ e
      exact this
    · have e : (frzL L z)[i]? = some (Gi_arc.mk a.from_ a.to_ a.most a.flow (decide (i < z))) := by rw [frzL_at, ha]; rfl
      have := h.m i _ e
      exact this
  · intro h
    refine ⟨fun i a ha => ?_, fun i a ha => ?_, fun i hi => h.z i (by rw [frzL_len] at hi; exact hi)⟩
    · rw [frzL_at, Option.map_eq_some_iff] at ha
      obtain ⟨b, hb, rfl⟩ := ha
      exact h.b i b hb
    · rw [frzL_at, Option.map_eq_some_iff] at ha
      obtain ⟨b, hb, rfl⟩ := ha
      exact h.m i b hb
theorem frz_at {L : List Gi_arc} {f : Nat → Int} {z i : Nat} {a : Gi_arc} (h : L[i]? = some a) : (setF (frzL L z) f)[i]? = some (Gi_arc.mk a.from_ a.to_ a.most (f i) (decide (i < z))) := by
  rw [setF_at, frzL_at, h]; rfl
theorem frz_set {L : List Gi_arc} {f : Nat → Int} {i : Nat} {a : Gi_arc} (h : L[i]? = some a) : (setF (frzL L i) f).set i (Gi_arc.mk a.from_ a.to_ a.most (f i) true) = setF (frzL L (i + 1)) f := by
  refine List.ext_getElem? fun j => ?_
  rw [setF_at, frzL_at, List.getElem?_set, setF_len, frzL_len, setF_at, frzL_at]
  have hk := (List.getElem?_eq_some_iff.1 h).1
  by_cases e : i = j
  · subst e
    rw [if_pos rfl, if_pos hk, h]
    simp
  · rw [if_neg e]
    cases L[j]? with
    | none => rfl
    | some b =>
      simp only [Option.map_some]
      rw [show decide (j < i) = decide (j < i + 1) by rw [decide_eq_decide]; omega]
theorem frz_fset {L : List Gi_arc} {f : Nat → Int} {z i : Nat} {a : Gi_arc} (h : L[i]? = some a) (y : Int) : (setF (frzL L z) f).set i (Gi_arc.mk a.from_ a.to_ a.most y (decide (i < z))) = setF (frzL L z) (updF f i y) := by
  have := setF_set (L := frzL L z) (f := f) (k := i) (a := Gi_arc.mk a.from_ a.to_ a.most a.flow (decide (i < z))) (by rw [frzL_at, h]; rfl) y
  exact this
def LeastAt (N : Nt Nat) (s t : Nat) (F : Int) (f : Nat → Int) (i : Nat) : Prop := ∀ g, IsFl N s t F g → (∀ j, j < i → g j = f j) → f i ≤ g i
structure Planned (L : List Gi_arc) (n s t : Nat) (F : Int) (z : Nat) (f : Nat → Int) : Prop where
  fb : FbI L f
  fw : IsFl (ntI L n) s t F f
  least : ∀ i, i < z → LeastAt (ntI L n) s t F f i
def cvy (ll : Nat) (f : Nat → Int) (j : Nat) : Gi_Convoy := Gi_Convoy.mk ((j / ll : Nat) : Int) ((j % ll : Nat) : Int) (f j)
def planL (ll : Nat) (f : Nat → Int) (i m : Nat) : List Gi_Convoy := ((List.range' i m).filter fun j => decide (0 < f j)).map (cvy ll f)
theorem planL_succ (ll : Nat) (f : Nat → Int) (i m : Nat) : planL ll f i (m + 1) = (if 0 < f i then [cvy ll f i] else []) ++ planL ll f (i + 1) m := by
  unfold planL
  rw [List.range'_succ, List.filter_cons]
  by_cases c : 0 < f i
  · rw [if_pos c, if_pos (by simpa using c)]; rfl
  · rw [if_neg c, if_neg (by simpa using c)]; rfl
theorem plan_step {L : List Gi_arc} {n s t : Nat} {F : Int} {i : Nat} {f : Nat → Int} (hL : WfI L n) (hs : s < n) (ht : t < n) (hi : i < L.length) (h : Planned L n s t F i f) :
    ∃ f' m, Di_network_push (Gi_network.mk (n : Int) (setF (frzL L (i + 1)) f)) (L[i]'hi).from_ (L[i]'hi).to_ (f i) = some (m, Gi_network.mk (n : Int) (setF (frzL L (i + 1)) f')) ∧ f' i = f i ∧ 0 ≤ m ∧ m ≤ f i ∧
      Planned L n s t F (i + 1) (updF f' i (f i - m)) ∧ (∀ j, j < i → updF f' i (f i - m) j = f j) := by
  have ha := List.getElem?_eq_getElem hi
  generalize L[i]'hi = a at ha
  have wf := hL.a a (List.mem_of_getElem? ha)
  have hb := h.fb.b i a ha
  have hm := h.fb.m i a ha
  obtain ⟨f', m, e1, e2, e3⟩ := push_i (frzL_wf hL (i + 1)) (s := a.from_.toNat) (t := a.to_.toNat) (by omega) (by omega) (by omega) hb.1 (by omega) ((frzL_fb (i + 1)).2 h.fb)
  rw [frzL_nt, frzL_fz (by omega)] at e3
  rw [Int.toNat_of_nonneg wf.1, Int.toNat_of_nonneg wf.2.2.1] at e1
  have e2 := (frzL_fb (i + 1)).1 e2
  have k : ∀ j, j < i + 1 → f' j = f j := fun j hj => e3.keep j (by simpa using hj)
  have ki := k i (by omega)
  have m0 := e3.m0
  have m1 := e3.m1
  have hI : i ∈ (ntI L n).I := List.mem_range.2 hi
  have hfr : (ntI L n).fr i = a.from_.toNat := by simp only [ntI, ha]
  have htt : (ntI L n).tt i = a.to_.toNat := by simp only [ntI, ha]
  have hmo : (ntI L n).mo i = a.most := by simp only [ntI, ha]
  have kk : ∀ j, j < i → updF f' i (f i - m) j = f j := fun j hj => by
    unfold updF
    rw [if_neg (by omega)]
    exact k j (by omega)
  have hfb : FbI L (updF f' i (f i - m)) := e2.of (n := n) (fun j hj => by
    unfold updF
    split
    · rename_i e
      rw [e, hmo]
      omega
    · exact e2.nt j hj) fun j hj => by
      unfold updF
      rw [if_neg (by omega)]
      exact e2.z j hj
  have hfw : IsFl (ntI L n) s t F (updF f' i (f i - m)) := ⟨hfb.nt, fun v hv => by
    rw [exf_updF hL.ok f' hI, e3.ex v, h.fw.ex v hv, hfr, htt, ki]
    split <;> split <;> split <;> split <;> omega⟩
  refine ⟨f', m, e1, ki, m0, m1, ⟨hfb, hfw, fun j hj => ?_⟩, kk⟩
  by_cases e : j = i
  · subst e
    intro g hg hag
    have hgb := hg.b j hI
    rcases e3.sh with hsh | ⟨S, s1, s2, s3⟩
    · unfold updF
      rw [if_pos rfl]
      omega
    · refine least_arc hL.ok hfw hg hs ht (fz := fun q => decide (q < j + 1)) (S := S) ⟨fun q hq hz a1 a2 => ?_, fun q hq hz a1 a2 => ?_⟩ hI (by rw [hfr]; exact s2) (by rw [htt]; exact s3) fun q hq hz hne => ?_
      · have : ¬ q = j := fun e => by subst e; simp at hz
        unfold updF
        rw [if_neg this]
        exact s1.up q hq hz a1 a2
      · have : ¬ q = j := fun e => by subst e; simp at hz
        unfold updF
        rw [if_neg this]
        exact s1.dn q hq hz a1 a2
      · have : q < j := by have : q < j + 1 := by simpa using hz
                           omega
        exact (hag q this).symm
  · have hji : j < i := by omega
    intro g hg hag
    rw [kk j hji]
    exact h.least j hji g hg fun q hq => by rw [hag q hq, kk q (by omega)]

end Go.Proofs.Ytnfeelacifllmaa.Ab
