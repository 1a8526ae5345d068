/- Part of the proof of FnForecasts: no condition of its own. -/
import Derived.Test.YtfnhclmdobdkbaaB2FnForecastsD
import Derived.Test.YtfnhclmdobdkbaaPuA
set_option linter.unusedVariables false
set_option linter.unusedSimpArgs false
open Go
namespace Go.Proofs.Ytfnhclmdobdkbaa.Ab
structure Cu (c : Gs_l1Cur) (k : Int) : Prop where
  at0 : 0 ≤ c.at_
  atk : c.at_ ≤ k
  kk : k ≤ 1099511627776
  code : ∀ x ∈ c.code, 0 ≤ x ∧ x < 256
  len : c.code.length < 9223372036854775808

theorem Cu.mono {c : Gs_l1Cur} {k k' : Int} (h : Cu c k) (hk : k ≤ k') (hb : k' ≤ 1099511627776) : Cu c k' := ⟨h.at0, by have := h.atk; omega, hb, h.code, h.len⟩

theorem and255 (x : Int) : 0 ≤ IntKind.wrap .i64 (IntKind.wrap .u64 ((BitVec.toNat (BitVec.ofInt (IntKind.bits .u64) x &&& BitVec.ofInt (IntKind.bits .u64) 255) : Nat) : Int)) ∧ IntKind.wrap .i64 (IntKind.wrap .u64 ((BitVec.toNat (BitVec.ofInt (IntKind.bits .u64) x &&& BitVec.ofInt (IntKind.bits .u64) 255) : Nat) : Int)) < 256 := by
  have h : (BitVec.ofInt (IntKind.bits .u64) x &&& BitVec.ofInt (IntKind.bits .u64) 255).toNat ≤ 255 := by
    rw [BitVec.toNat_and]
    have e : (BitVec.ofInt (IntKind.bits .u64) 255).toNat = 255 := by decide
    rw [e]
    exact Nat.and_le_right
  generalize (BitVec.ofInt (IntKind.bits .u64) x &&& BitVec.ofInt (IntKind.bits .u64) 255).toNat = n at h
  have h2 : IntKind.wrap .u64 (n : Int) = (n : Int) := by
    simp only [IntKind.wrap, IntKind.bits, IntKind.signed]
    simp
    omega
  rw [h2, w64 (by omega)]
  omega

theorem cuNext {c : Gs_l1Cur} {k : Int} (h : Cu c k) (hk : k + 1 ≤ 1099511627776) : ∃ v c', Ds_l1Cur_next c = some (v, c') ∧ (0 ≤ v ∧ v < 256) ∧ Cu c' (k + 1) := by
  have h0 := h.at0
  have h1 := h.atk
  have mk : ∀ s, Cu ⟨c.code, c.at_ + 1, s⟩ (k + 1) := fun s => ⟨by simp only; omega, by simp only; omega, hk, h.code, h.len⟩
  unfold Ds_l1Cur_next
  rw [w64 (n := c.at_ + 1) (by omega)]
  by_cases ha : c.at_ < (c.code.length : Int)
  · have hlt : c.at_.toNat < c.code.length := by omega
    have hx := List.getElem?_eq_getElem hlt
    have hv := h.code _ (List.mem_of_getElem? hx)
    rw [if_pos ha, if_pos h0, hx]
    simp only [Option.bind_some]
    split
    · exact ⟨_, _, rfl, by rw [w64 (by omega)]; exact hv, mk _⟩
    · exact ⟨_, _, rfl, and255 _, mk _⟩
  · rw [if_neg ha]
    split
    · exact ⟨_, _, rfl, by omega, mk _⟩
    · exact ⟨_, _, rfl, and255 _, mk _⟩

theorem cuPick {c : Gs_l1Cur} {k : Int} (h : Cu c k) (hk : k + 2 ≤ 1099511627776) (n : Int) : ∃ v c', Ds_l1Cur_pick c n = some (v, c') ∧ (0 ≤ v ∧ (1 ≤ n → v < n) ∧ v ≤ 65535) ∧ Cu c' (k + 2) := by
  unfold Ds_l1Cur_pick
  by_cases h1 : n ≤ 1
  · rw [if_pos h1]
    exact ⟨_, _, rfl, by omega, h.mono (by omega) hk⟩
  · rw [if_neg h1]
    obtain ⟨v, c1, e1, hv, hc1⟩ := cuNext h (by omega)
    rw [e1]
    simp only [Option.bind_some]
    by_cases h2 : n > 200
    · rw [if_pos h2]
      obtain ⟨u, c2, e2, hu, hc2⟩ := cuNext hc1 (by omega)
      rw [e2]
      simp only [Option.bind_some]
      rw [if_pos (by omega), w64 (n := v * 256) (by omega), w64 (by omega)]
      have a1 := Int.tmod_nonneg n (show 0 ≤ v * 256 + u by omega)
      have a2 := Int.tmod_lt_of_pos (v * 256 + u) (show 0 < n by omega)
      have a3 : Int.tmod (v * 256 + u) n ≤ v * 256 + u := by
        have b1 := Int.mul_tdiv_add_tmod (v * 256 + u) n
        have b2 := Int.mul_nonneg (show 0 ≤ n by omega) (Int.tdiv_nonneg (show 0 ≤ v * 256 + u by omega) (show 0 ≤ n by omega))
        omega
      exact ⟨_, _, rfl, ⟨a1, fun _ => a2, by omega⟩, by have := hc2; rw [Int.add_assoc] at this; exact this⟩
    · rw [if_neg h2, if_pos (by omega)]
      have a1 := Int.tmod_nonneg n hv.1
      have a2 := Int.tmod_lt_of_pos v (show 0 < n by omega)
      exact ⟨_, _, rfl, ⟨a1, fun _ => a2, by omega⟩, hc1.mono (by omega) hk⟩

theorem cuOne {c : Gs_l1Cur} {k : Int} (h : Cu c k) (hk : k + 2 ≤ 1099511627776) (n : Int) : ∃ v c', Ds_l1Cur_one c n = some (v, c') ∧ Cu c' (k + 2) := by
  obtain ⟨v, c1, e1, _, hc1⟩ := cuPick h hk n
  unfold Ds_l1Cur_one
  rw [e1]
  exact ⟨_, _, rfl, hc1⟩

theorem cuAmong {c : Gs_l1Cur} {k : Int} (h : Cu c k) (hk : k + 2 ≤ 1099511627776) (l : List Int) (hl : 0 < l.length) : ∃ v c', Ds_l1Cur_among c l = some (v, c') ∧ v ∈ l ∧ Cu c' (k + 2) := by
  obtain ⟨v, c1, e1, hv, hc1⟩ := cuPick h hk l.length
  unfold Ds_l1Cur_among
  rw [e1]
  have hlt : v.toNat < l.length := by have := hv.2.1 (by omega); omega
  have hx := List.getElem?_eq_getElem hlt
  simp only [Option.bind_some]
  rw [if_pos hv.1, hx]
  exact ⟨_, _, rfl, List.mem_of_getElem? hx, hc1⟩

theorem cu1 {code : List Int} (h : ∀ x ∈ code, 0 ≤ x ∧ x < 256) (hl : code.length < 9223372036854775808) : Cu ⟨code, 0, 0⟩ 0 := ⟨Int.le_refl _, Int.le_refl _, by decide, h, hl⟩

theorem eSameInts (l : List Int) (hl : l.length ≤ 1048577) : Dw_sameInts l l = some true := by
  unfold Dw_sameInts
  rw [if_pos rfl]
  refine true_loop (S := fun i => Sw_sameInts.h1 l l (l.length : Int) (i : Int)) (n := l.length) (fun i hi => ?_) ?_
  · simp [Bw_sameInts, hi, wsucc (show i < 9223372036854775807 by omega)]
  · simp [Bw_sameInts]

theorem eBig (a b : List Int) (ha : a.length < 9223372036854775808) (hb : b.length < 9223372036854775808) : Dw_big a b = some (decide (1048576 < a.length + b.length)) := by
  unfold Dw_big
  by_cases h : (a.length : Int) > 1048576
  · rw [if_pos h, decide_eq_true (by omega)]
  · rw [if_neg h, w64 (by omega)]
    congr 1
    by_cases h2 : 1048576 < a.length + b.length
    · rw [decide_eq_true h2]; exact decide_eq_true (by omega)
    · rw [decide_eq_false h2]; exact decide_eq_false (by omega)

def hasB (l : List Int) (e : Int) : Bool := l.any fun x => decide (x = e)
theorem has_i {l : List Int} {e : Int} (hl : l.length ≤ 1000000) : ∀ (n i : Nat), i + n = l.length → ∃ r, loop Bslices_Index_int (.h1 l e (l.length : Int) (i : Int)) = some r ∧ decide (r ≥ 0) = hasB (l.drop i) e
  | 0, i, h => by
    rw [loop_eq, List.drop_of_length_le (by omega)]
    simp only [Bslices_Index_int]
    rw [if_neg (by omega)]
    exact ⟨-1, rfl, rfl⟩
  | n + 1, i, h => by
    have hx : l[i]? = some l[i] := List.getElem?_eq_getElem (by omega)
    obtain ⟨r, e1, e2⟩ := has_i hl (e := e) n (i + 1) (by omega)
    rw [loop_eq, List.drop_eq_getElem_cons (by omega)]
    simp only [Bslices_Index_int, hasB, List.any_cons]
    rw [if_pos (by omega), if_pos (by omega), Int.toNat_natCast, hx, Option.bind_some, wsucc (by omega)]
    by_cases c : e = l[i]
    · rw [if_pos c, decide_eq_true c.symm, Bool.true_or]
      exact ⟨_, rfl, by simp⟩
    · rw [if_neg c, decide_eq_false (fun h => c h.symm), Bool.false_or]
      exact ⟨r, e1, e2⟩
theorem contains_i {l : List Int} {e : Int} (hl : l.length ≤ 1000000) : Dslices_Contains_int l e = some (hasB l e) := by
  obtain ⟨r, e1, e2⟩ := has_i hl (e := e) l.length 0 (by omega)
  unfold Dslices_Contains_int
  rw [show Dslices_Index_int l e = some r from e1, Option.bind_some, e2, List.drop_zero]
def kIn (x lo hi : Int) : Bool := decide (lo ≤ x) && decide (x ≤ hi)
theorem kIn_iff {x lo hi : Int} : kIn x lo hi = true ↔ lo ≤ x ∧ x ≤ hi := by simp [kIn]
theorem kin_i (x lo hi : Int) : Di_inRange x lo hi = some (kIn x lo hi) := by
  unfold Di_inRange kIn
  by_cases c : lo ≤ x <;> simp [c]
theorem kin_s (x lo hi : Int) : Ds_l1In x lo hi = some (kIn x lo hi) := by
  unfold Ds_l1In kIn
  by_cases c : lo ≤ x
  · rw [if_pos c]; simp [c]
  · rw [if_neg c]; simp [c]
theorem ifB (b : Bool) : (if b = true then some true else some false) = some b := by cases b <;> rfl
theorem ifNB (b : Bool) : (if b = true then some false else some true) = some (!b) := by cases b <;> rfl

/-- A walk over a list that ends at the first element that q does not hold of. -/
theorem all_goL {σ α ρ : Type} {L : σ → Option ρ} {S : Nat → σ} {l : List α} {q : Nat → α → Bool} {f : ρ} {r : Option ρ}
    (hs : ∀ i x, l[i]? = some x → i < l.length → (∀ j y, j < i → l[j]? = some y → q j y = true) → L (S i) = if q i x = true then L (S (i + 1)) else some f)
    (he : (∀ j y, l[j]? = some y → q j y = true) → L (S l.length) = r) : L (S 0) = if alli q l = true then r else some f := by
  have key : ∀ (k i : Nat), i + k = l.length → (∀ j x, j < i → l[j]? = some x → q j x = true) → L (S i) = if alli q l = true then r else some f := by
    intro k
    induction k with
    | zero =>
      intro i h hb
      have : i = l.length := by omega
      subst this
      have hall : ∀ j y, l[j]? = some y → q j y = true := fun j x hj => hb j x (List.getElem?_eq_some_iff.1 hj).1 hj
      rw [he hall, if_pos (alli_iff.2 hall)]
    | succ k ih =>
      intro i h hb
      have hlt : i < l.length := by omega
      have hx := List.getElem?_eq_getElem hlt
      rw [hs i l[i] hx hlt hb]
      by_cases hp : q i l[i] = true
      · rw [if_pos hp]
        refine ih (i + 1) (by omega) fun j x hj hx' => ?_
        by_cases hji : j = i
        · subst hji
          rw [hx] at hx'
          cases hx'
          exact hp
        · exact hb j x (by omega) hx'
      · rw [if_neg hp, if_neg fun h => hp (alli_iff.1 h i _ hx)]
  exact key l.length 0 (by omega) fun j x h => by omega

theorem l1All_s {l : List Int} (hl : l.length ≤ 1000000) (lo hi : Int) : Ds_l1All l lo hi = some (alli (fun _ x => kIn x lo hi) l) := by
  rw [← ifB]
  exact all_goL (L := loop Bs_l1All) (S := fun i => .h1 lo hi l (l.length : Int) (i : Int)) (fun i x hx hlt _ => by
    rw [loop_eq]
    simp only [Bs_l1All]
    rw [if_pos (by omega), if_pos (by omega), Int.toNat_natCast, hx, Option.bind_some, kin_s, Option.bind_some, wsucc (by omega)]
    by_cases c : kIn x lo hi = true
    · rw [if_pos c, if_pos c]; rfl
    · rw [if_neg c, if_neg c]; rfl) fun _ => by
    rw [loop_eq]
    simp only [Bs_l1All]
    rw [if_neg (by omega)]
    rfl
theorem wpred {i : Nat} (h : i < 9223372036854775807) (h0 : 0 < i) : IntKind.wrap .i64 ((i : Int) - 1) = ((i - 1 : Nat) : Int) := by rw [w64 (by omega)]; omega
def kElm (l : List Int) (j : Nat) : Int := match l[j]? with
  | some x => x
  | none => 0
theorem kElm_get {l : List Int} {j : Nat} {x : Int} (h : l[j]? = some x) : kElm l j = x := by simp [kElm, h]
def rdm {σ τ ρ : Type} (f : σ → τ) : Option (σ ⊕ ρ) → Option (τ ⊕ ρ)
  | some (.inl s) => some (.inl (f s))
  | some (.inr r) => some (.inr r)
  | none => none
theorem rdm_inl {σ τ ρ : Type} (f : σ → τ) (s : σ) : rdm (ρ := ρ) f (some (.inl s)) = some (.inl (f s)) := rfl
theorem rdm_inr {σ τ ρ : Type} (f : σ → τ) (r : ρ) : rdm f (some (.inr r)) = some (.inr r) := rfl
theorem rdm_none {σ τ ρ : Type} (f : σ → τ) : rdm (ρ := ρ) f none = none := rfl
theorem rdm_bind {α σ τ ρ : Type} (f : σ → τ) (x : Option α) (g : α → Option (σ ⊕ ρ)) : rdm f (Option.bind x g) = Option.bind x fun a => rdm f (g a) := by cases x <;> rfl
theorem rdm_ite {σ τ ρ : Type} (f : σ → τ) (c : Prop) [Decidable c] (a b : Option (σ ⊕ ρ)) : rdm f (if c then a else b) = if c then rdm f a else rdm f b := by split <;> rfl
theorem itn_map {σ τ ρ : Type} {B : σ → Option (σ ⊕ ρ)} {B' : τ → Option (τ ⊕ ρ)} (f : σ → τ) (h : ∀ s, B' (f s) = rdm f (B s)) : ∀ n s, itn B' n (f s) = itn B n s
  | 0, s => rfl
  | n + 1, s => by
    unfold itn
    rw [h]
    cases hB : B s with
    | none => rfl
    | some o =>
      cases o with
      | inl s' => exact itn_map f h n s'
      | inr r => rfl
theorem loop_map {σ τ ρ : Type} {B : σ → Option (σ ⊕ ρ)} {B' : τ → Option (τ ⊕ ρ)} (f : σ → τ) (h : ∀ s, B' (f s) = rdm f (B s)) (s : σ) : loop B' (f s) = loop B s := by
  refine Option.ext fun r => ?_
  rw [loop_some, loop_some]
  simp only [itn_map f h]

def wRow (x : List Int) : Bool := decide (x.length = 3) && alli (fun _ y => kIn y 0 36) x && decide (kElm x 0 + kElm x 1 + kElm x 2 = 36)
def wG (c : Gi_Climate) : Bool := decide (c.Weights.length = 3) && alli (fun _ x => wRow x) c.Weights
theorem sum3_i (a b c : Int) : Di_sumOf [a, b, c] = some (IntKind.wrap .i64 (IntKind.wrap .i64 (IntKind.wrap .i64 (0 + a) + b) + c)) := by
  unfold Di_sumOf
  simp only [List.length_cons, List.length_nil]
  rw [loop_eq]
  simp only [Bi_sumOf]
  rw [if_pos (by decide), if_pos (by decide)]
  simp only [show Int.toNat 0 = 0 from rfl, List.getElem?_cons_zero, Option.bind_some, goOn]
  rw [show IntKind.wrap .i64 (0 + 1) = 1 from by decide, loop_eq]
  simp only [Bi_sumOf]
  rw [if_pos (by decide), if_pos (by decide)]
  simp only [show Int.toNat 1 = 1 from rfl, List.getElem?_cons_succ, List.getElem?_cons_zero, Option.bind_some, goOn]
  rw [show IntKind.wrap .i64 (1 + 1) = 2 from by decide, loop_eq]
  simp only [Bi_sumOf]
  rw [if_pos (by decide), if_pos (by decide)]
  simp only [show Int.toNat 2 = 2 from rfl, List.getElem?_cons_succ, List.getElem?_cons_zero, Option.bind_some, goOn]
  rw [show IntKind.wrap .i64 (2 + 1) = 3 from by decide, loop_eq]
  simp only [Bi_sumOf]
  rw [if_neg (by decide)]
  rfl
theorem three {x : List Int} (h : x.length = 3) : ∃ a b c, x = [a, b, c] := by
  match x, h with
  | [a, b, c], _ => exact ⟨a, b, c, rfl⟩
theorem alli3 {q : Nat → Int → Bool} {a b c : Int} : alli q [a, b, c] = true ↔ q 0 a = true ∧ q 1 b = true ∧ q 2 c = true := by
  rw [alli_iff]
  constructor
  · intro h
    exact ⟨h 0 a rfl, h 1 b rfl, h 2 c rfl⟩
  · rintro ⟨h0, h1, h2⟩ i x hx
    match i, hx with
    | 0, hx => cases hx; exact h0
    | 1, hx => cases hx; exact h1
    | 2, hx => cases hx; exact h2
theorem wRow_iff {a b c : Int} : wRow [a, b, c] = true ↔ (0 ≤ a ∧ a ≤ 36) ∧ (0 ≤ b ∧ b ≤ 36) ∧ (0 ≤ c ∧ c ≤ 36) ∧ a + b + c = 36 := by
  unfold wRow
  simp only [Bool.and_eq_true, alli3, kIn_iff, decide_eq_true_eq]
  simp [kElm]
  constructor
  · rintro ⟨⟨⟨h1, h2⟩, ⟨h3, h4⟩, h5, h6⟩, h7⟩; omega
  · rintro ⟨⟨h1, h2⟩, ⟨h3, h4⟩, ⟨h5, h6⟩, h7⟩; omega
theorem wRow_len {x : List Int} (h : wRow x = true) : x.length = 3 := by
  simp only [wRow, Bool.and_eq_true, decide_eq_true_eq] at h
  exact h.1.1
theorem inRow_i {L : List (List Int)} {t1 t2 : Int} {x : List Int} (hx : x.length = 3) : loop Bi_IsClimate (.h2 L t1 t2 x (x.length : Int) 0) = if alli (fun _ y => kIn y 0 36) x = true then loop Bi_IsClimate (.h1 L t1 (IntKind.wrap .i64 (t2 + 1))) else some false := by
  refine all_goL (L := loop Bi_IsClimate) (S := fun i => .h2 L t1 t2 x (x.length : Int) (i : Int)) (fun i y hy hlt _ => ?_) fun _ => ?_
  · rw [loop_eq]
    simp only [Bi_IsClimate]
    rw [if_pos (by omega), if_pos (by omega), Int.toNat_natCast, hy, Option.bind_some, kin_i, Option.bind_some, wsucc (by omega)]
    by_cases c : kIn y 0 36 = true
    · rw [if_pos c, if_pos c]; rfl
    · rw [if_neg c, if_neg c]; rfl
  · rw [loop_eq]
    simp only [Bi_IsClimate]
    rw [if_neg (by omega)]
    rfl
theorem isClimate_i (c : Gi_Climate) : Di_IsClimate c = some (wG c) := by
  unfold Di_IsClimate wG
  by_cases h3 : c.Weights.length = 3
  · rw [if_pos (by omega), decide_eq_true h3, Bool.true_and, ← ifB]
    refine all_goL (L := loop Bi_IsClimate) (S := fun i => .h1 c.Weights (c.Weights.length : Int) (i : Int)) (fun i x hx hlt _ => ?_) fun _ => ?_
    · rw [loop_eq]
      simp only [Bi_IsClimate]
      rw [if_pos (by omega), if_pos (by omega), Int.toNat_natCast, hx, Option.bind_some]
      by_cases hl : x.length = 3
      · rw [if_pos (by omega)]
        obtain ⟨a, b, d, rfl⟩ := three hl
        rw [sum3_i, Option.bind_some]
        by_cases hr : wRow [a, b, d] = true
        · obtain ⟨⟨a1, a2⟩, ⟨b1, b2⟩, ⟨d1, d2⟩, hs⟩ := wRow_iff.1 hr
          rw [if_pos hr, w64 (n := 0 + a) (by omega), w64 (n := 0 + a + b) (by omega), w64 (n := 0 + a + b + d) (by omega), if_pos (by omega)]
          simp only [goOn]
          have := inRow_i (L := c.Weights) (t1 := (c.Weights.length : Int)) (t2 := (i : Int)) (x := [a, b, d]) rfl
          rw [if_pos (alli3.2 ⟨kIn_iff.2 ⟨a1, a2⟩, kIn_iff.2 ⟨b1, b2⟩, kIn_iff.2 ⟨d1, d2⟩⟩), wsucc (by omega)] at this
          exact this
        · rw [if_neg hr]
          by_cases hs : IntKind.wrap .i64 (IntKind.wrap .i64 (IntKind.wrap .i64 (0 + a) + b) + d) = 36
          · rw [if_pos hs]
            simp only [goOn]
            have := inRow_i (L := c.Weights) (t1 := (c.Weights.length : Int)) (t2 := (i : Int)) (x := [a, b, d]) rfl
            refine (show _ = _ from this).trans ?_
            rw [if_neg]
            intro h
            obtain ⟨ha, hb, hdd⟩ := alli3.1 h
            rw [kIn_iff] at ha hb hdd
            rw [w64 (n := 0 + a) (by omega), w64 (n := 0 + a + b) (by omega), w64 (n := 0 + a + b + d) (by omega)] at hs
            exact hr (wRow_iff.2 ⟨ha, hb, hdd, by omega⟩)
          · rw [if_neg hs]; rfl
      · rw [if_neg (by omega), if_neg (fun h => hl (wRow_len h))]; rfl
    · rw [loop_eq]
      simp only [Bi_IsClimate]
      rw [if_neg (by omega)]
      rfl
  · rw [if_neg (by omega), decide_eq_false h3]
    rfl
theorem wGood_w (c : Gi_Climate) : Ds_wGood c = some (wG c) := by
  unfold Ds_wGood wG
  by_cases h3 : c.Weights.length = 3
  · rw [if_pos (by omega), decide_eq_true h3, Bool.true_and, ← ifB]
    refine all_goL (L := loop Bs_wGood) (S := fun i => .h1 c.Weights (c.Weights.length : Int) (i : Int)) (fun i x hx hlt _ => ?_) fun _ => ?_
    · rw [loop_eq]
      simp only [Bs_wGood]
      rw [if_pos (by omega), if_pos (by omega), Int.toNat_natCast, hx, Option.bind_some, wsucc (by omega)]
      by_cases hl : x.length = 3
      · rw [if_pos (by omega), l1All_s (by omega), Option.bind_some]
        obtain ⟨a, b, d, rfl⟩ := three hl
        by_cases hq : alli (fun _ y => kIn y 0 36) [a, b, d] = true
        · obtain ⟨ha, hb, hdd⟩ := alli3.1 hq
          rw [kIn_iff] at ha hb hdd
          rw [if_pos hq]
          simp only [show Int.toNat 0 = 0 from rfl, show Int.toNat 1 = 1 from rfl, show Int.toNat 2 = 2 from rfl, List.getElem?_cons_succ, List.getElem?_cons_zero, Option.bind_some]
          rw [w64 (n := a + b) (by omega), w64 (n := a + b + d) (by omega)]
          by_cases hs : a + b + d = 36
          · rw [if_pos hs, if_pos (wRow_iff.2 ⟨ha, hb, hdd, hs⟩)]; rfl
          · rw [if_neg hs, if_neg (fun h => hs (wRow_iff.1 h).2.2.2)]; rfl
        · rw [if_neg hq, if_neg (fun h => hq (by simp only [wRow, Bool.and_eq_true] at h; exact h.1.2))]; rfl
      · rw [if_neg (by omega), if_neg (fun h => hl (wRow_len h))]; rfl
    · rw [loop_eq]
      simp only [Bs_wGood]
      rw [if_neg (by omega)]
      rfl
  · rw [if_neg (by omega), decide_eq_false h3]
    rfl
/-- From u to v. -/
def wE (W : List (List Int)) (u v : Int) : Int := match W[u.toNat]? with
  | some r => kElm r v.toNat
  | none => 0
theorem wE_b {c : Gi_Climate} (h : wG c = true) {u v : Int} (hu : 0 ≤ u ∧ u ≤ 2) (hv : 0 ≤ v ∧ v ≤ 2) : ∃ r, c.Weights[u.toNat]? = some r ∧ r.length = 3 ∧ r[v.toNat]? = some (wE c.Weights u v) ∧ 0 ≤ wE c.Weights u v ∧ wE c.Weights u v ≤ 36 := by
  simp only [wG, Bool.and_eq_true, decide_eq_true_eq] at h
  have hx : c.Weights[u.toNat]? = some c.Weights[u.toNat] := List.getElem?_eq_getElem (by omega)
  have hr := alli_iff.1 h.2 _ _ hx
  have hl := wRow_len hr
  have hy : c.Weights[u.toNat][v.toNat]? = some c.Weights[u.toNat][v.toNat] := List.getElem?_eq_getElem (by omega)
  have he : wE c.Weights u v = c.Weights[u.toNat][v.toNat] := by
    unfold wE
    rw [hx]
    exact kElm_get hy
  refine ⟨_, hx, hl, by rw [he]; exact hy, ?_⟩
  rw [he]
  simp only [wRow, Bool.and_eq_true] at hr
  exact kIn_iff.1 (alli_iff.1 hr.1.2 _ _ hy)
def likeP (W : List (List Int)) : Int → List Int → Int
  | _, [] => 1
  | a, b :: r => wE W a b * likeP W b r
theorem mulB {x y M N : Int} (hx : 0 ≤ x ∧ x ≤ M) (hy : 0 ≤ y ∧ y ≤ N) : 0 ≤ x * y ∧ x * y ≤ M * N := by
  refine ⟨Int.mul_nonneg hx.1 hy.1, ?_⟩
  exact Int.mul_le_mul hx.2 hy.2 hy.1 (by omega)
def InW (l : List Int) : Prop := ∀ x ∈ l, 0 ≤ x ∧ x ≤ 2
theorem likeP_b {c : Gi_Climate} (h : wG c = true) : ∀ (l : List Int) (a : Int), 0 ≤ a ∧ a ≤ 2 → InW l → 0 ≤ likeP c.Weights a l ∧ likeP c.Weights a l ≤ (36 : Int) ^ l.length
  | [], a, ha, hl => by simp [likeP]
  | b :: r, a, ha, hl => by
    have hb := hl b (List.mem_cons_self ..)
    have ih := likeP_b h r b hb fun x hx => hl x (List.mem_cons_of_mem _ hx)
    obtain ⟨_, _, _, _, h1, h2⟩ := wE_b h ha hb
    have := mulB ⟨h1, h2⟩ ih
    simp only [likeP, List.length_cons]
    rw [Int.pow_succ, Int.mul_comm (36 ^ r.length)]
    exact this
theorem p36 {i : Nat} (h : i ≤ 7) : (36 : Int) ^ i ≤ 78364164096 := by
  have : i = 0 ∨ i = 1 ∨ i = 2 ∨ i = 3 ∨ i = 4 ∨ i = 5 ∨ i = 6 ∨ i = 7 := by omega
  rcases this with rfl | rfl | rfl | rfl | rfl | rfl | rfl | rfl <;> decide
theorem like_loop {c : Gi_Climate} (h : wG c = true) {l : List Int} (hl : InW l) (h7 : l.length ≤ 7) : ∀ (n i : Nat) (acc a : Int), i + n = l.length → 1 ≤ i → l[i - 1]? = some a → 0 ≤ acc ∧ acc ≤ (36 : Int) ^ (i - 1) →
    loop Bi_likelihood (.h1 l acc (i : Int) c) = some (acc * likeP c.Weights a (l.drop i))
  | 0, i, acc, a, hi, h1, ha, hacc => by
    rw [loop_eq, List.drop_of_length_le (by omega)]
    simp only [Bi_likelihood]
    rw [if_neg (by omega)]
    simp [likeP, goOn]
  | n + 1, i, acc, a, hi, h1, ha, hacc => by
    have hx : l[i]? = some l[i] := List.getElem?_eq_getElem (by omega)
    have hxb := hl _ (List.mem_of_getElem? hx)
    have hab := hl _ (List.mem_of_getElem? ha)
    obtain ⟨r, g1, g2, g3, g4, g5⟩ := wE_b h hab hxb
    have hm := mulB hacc ⟨g4, g5⟩
    have hp : (36 : Int) ^ (i - 1) * 36 = 36 ^ i := by
      rw [← Int.pow_succ, show (i - 1).succ = i by omega]
    rw [hp] at hm
    have hp7 := p36 (i := i) (by omega)
    rw [loop_eq, List.drop_eq_getElem_cons (by omega)]
    simp only [Bi_likelihood, likeP]
    rw [if_pos (by omega), wpred (by omega) (by omega), if_pos (by omega), Int.toNat_natCast, ha, Option.bind_some, if_pos hab.1, g1, Option.bind_some, if_pos (by omega), Int.toNat_natCast, hx, Option.bind_some, if_pos hxb.1, g3, Option.bind_some, w64 (n := acc * wE c.Weights a l[i]) (by omega), wsucc (by omega)]
    simp only [goOn]
    rw [like_loop h hl h7 n (i + 1) _ l[i] (by omega) (by omega) (by simp) (by simpa using hm), Int.mul_assoc]
theorem like_i {c : Gi_Climate} (h : wG c = true) {a : Int} {l : List Int} (ha : 0 ≤ a ∧ a ≤ 2) (hl : InW l) (h7 : l.length ≤ 6) : Di_likelihood c (a :: l) = some (likeP c.Weights a l) := by
  have hI : InW (a :: l) := fun x hx => by
    rcases List.mem_cons.1 hx with rfl | hx
    · exact ha
    · exact hl x hx
  have := like_loop h hI (by simp; omega) l.length 1 1 a (by simp; omega) (Nat.le_refl _) rfl (by simp)
  unfold Di_likelihood
  rw [show (1 : Int) = ((1 : Nat) : Int) from rfl]
  refine Eq.trans this ?_
  simp
theorem like_same (c : Gi_Climate) (l : List Int) : Ds_wLikelihood c l = Di_likelihood c l := by
  refine loop_map (B := Bi_likelihood) (B' := Bs_wLikelihood) (fun s => match s with | .h1 a b c d => .h1 a b c d) (fun s => ?_) (.h1 l 1 1 c)
  cases s
  simp only [Bi_likelihood, Bs_wLikelihood, rdm_bind, rdm_ite, rdm_inl, rdm_inr, rdm_none]
theorem like_s {c : Gi_Climate} (h : wG c = true) {a : Int} {l : List Int} (ha : 0 ≤ a ∧ a ≤ 2) (hl : InW l) (h7 : l.length ≤ 6) : Ds_wLikelihood c (a :: l) = some (likeP c.Weights a l) := by
  rw [like_same, like_i h ha hl h7]
def wAsk (c : Gi_Climate) (w : Int) : Bool := wG c && kIn w 0 2
theorem wAsk_iff {c : Gi_Climate} {w : Int} : wAsk c w = true ↔ wG c = true ∧ 0 ≤ w ∧ w ≤ 2 := by simp [wAsk, kIn_iff]
theorem weather_i (w : Int) : Di_isWeather w = some (kIn w 0 2) := by
  unfold Di_isWeather
  rw [kin_i]
  rfl
theorem weatherOf_i (c : Gi_Climate) (w : Int) : Di_isWeatherOf c w = some (wAsk c w) := by
  unfold Di_isWeatherOf wAsk
  rw [isClimate_i, Option.bind_some, weather_i]
  cases wG c <;> rfl
theorem asked_w (c : Gi_Climate) (w : Int) : Ds_wAsked c w = some (wAsk c w) := by
  unfold Ds_wAsked wAsk
  rw [wGood_w, Option.bind_some, kin_s]
  cases wG c <;> rfl
theorem contains_w {l : List Int} (hl : l.length ≤ 1000000) : Dslices_ContainsFunc_int_i_LikelihoodOf_1 l = some (!(alli (fun _ x => kIn x 0 2) l)) := by
  rw [← ifNB]
  have := all_goL (L := fun s => (loop Bslices_IndexFunc_int_i_LikelihoodOf_1 s).map fun r => decide (r ≥ 0)) (S := fun i => .h1 l (l.length : Int) (i : Int)) (l := l) (q := fun _ x => kIn x 0 2) (f := true) (r := some false) (fun i x hx hlt _ => by
    rw [loop_eq]
    simp only [Bslices_IndexFunc_int_i_LikelihoodOf_1, Di_LikelihoodOf_1]
    rw [if_pos (by omega), if_pos (by omega), Int.toNat_natCast, hx, Option.bind_some, weather_i, Option.bind_some, Option.bind_some, wsucc (by omega)]
    by_cases c : kIn x 0 2 = true
    · rw [if_pos c, c, if_neg (by decide)]; rfl
    · rw [if_neg c, if_pos (by simpa using c)]; simp [goOn]) fun _ => by
    rw [loop_eq]
    simp only [Bslices_IndexFunc_int_i_LikelihoodOf_1]
    rw [if_neg (by omega)]
    rfl
  refine Eq.trans ?_ this
  unfold Dslices_ContainsFunc_int_i_LikelihoodOf_1 Dslices_IndexFunc_int_i_LikelihoodOf_1
  cases loop Bslices_IndexFunc_int_i_LikelihoodOf_1 (.h1 l (l.length : Int) 0) <;> rfl
def likeOk (c : Gi_Climate) (l : List Int) : Bool := wG c && kIn l.length 1 7 && alli (fun _ x => kIn x 0 2) l
def likeR (c : Gi_Climate) : List Int → Int × Bool
  | [] => (0, false)
  | a :: l => if likeOk c (a :: l) = true then (likeP c.Weights a l, true) else (0, false)
theorem likeOk_iff {c : Gi_Climate} {l : List Int} : likeOk c l = true ↔ wG c = true ∧ (1 ≤ l.length ∧ l.length ≤ 7) ∧ InW l := by
  simp only [likeOk, Bool.and_eq_true, kIn_iff, alli_iff]
  constructor
  · rintro ⟨⟨h1, h2⟩, h3⟩
    refine ⟨h1, by omega, fun x hx => ?_⟩
    obtain ⟨i, hi⟩ := List.getElem?_of_mem hx
    exact h3 i x hi
  · rintro ⟨h1, h2, h3⟩
    exact ⟨⟨h1, by omega⟩, fun i x hx => h3 x (List.mem_of_getElem? hx)⟩
theorem likelihood_both (c : Gi_Climate) (l : List Int) : Di_LikelihoodOf c l = some (likeR c l) ∧ Ds_LikelihoodOf c l = some (likeR c l) := by
  unfold Di_LikelihoodOf Ds_LikelihoodOf
  rw [isClimate_i, wGood_w, Option.bind_some, Option.bind_some, kin_i, kin_s]
  by_cases h : wG c = true
  · rw [if_pos h, if_pos h, Option.bind_some, Option.bind_some]
    by_cases h2 : kIn (l.length : Int) 1 7 = true
    · have hl := kIn_iff.1 h2
      rw [if_pos h2, if_pos h2, contains_w (by omega), l1All_s (by omega), Option.bind_some, Option.bind_some]
      obtain ⟨a, r, rfl⟩ : ∃ a r, l = a :: r := by
        cases l with
        | nil => simp at hl
        | cons a r => exact ⟨a, r, rfl⟩
      by_cases h3 : alli (fun _ x => kIn x 0 2) (a :: r) = true
      · have hk : likeOk c (a :: r) = true := by unfold likeOk; rw [h, h2, h3]; rfl
        obtain ⟨_, h5, h6⟩ := likeOk_iff.1 hk
        have ha := h6 a (List.mem_cons_self ..)
        have hr : InW r := fun x hx => h6 x (List.mem_cons_of_mem _ hx)
        simp only [List.length_cons] at h5
        rw [h3, if_neg (by decide), if_pos rfl, like_i h ha hr (by omega), like_s h ha hr (by omega)]
        simp only [likeR, hk, if_true, Option.bind_some, and_self]
      · have hk : ¬ likeOk c (a :: r) = true := by simp [likeOk, h3]
        rw [if_neg h3, if_pos (by simpa using h3)]
        simp only [likeR, hk, if_false, and_self, Bool.false_eq_true]
    · rw [if_neg h2, if_neg h2]
      cases l with
      | nil => exact ⟨rfl, rfl⟩
      | cons a r =>
        have hk : ¬ likeOk c (a :: r) = true := fun hh => h2 (by have := (likeOk_iff.1 hh).2.1; exact kIn_iff.2 (by omega))
        simp only [likeR, hk, if_false, and_self, Bool.false_eq_true]
  · rw [if_neg h, if_neg h]
    cases l with
    | nil => exact ⟨rfl, rfl⟩
    | cons a r =>
      have hk : ¬ likeOk c (a :: r) = true := fun hh => h (likeOk_iff.1 hh).1
      simp only [likeR, hk, if_false, and_self, Bool.false_eq_true]

def digs : Nat → Int → List Int
  | 0, _ => []
  | n + 1, x => digs n (Int.tdiv x 3) ++ [Int.tmod x 3]
theorem digs_len : ∀ (n : Nat) (x : Int), (digs n x).length = n
  | 0, _ => rfl
  | n + 1, x => by simp [digs, digs_len n]
theorem digs_in : ∀ (n : Nat) (x : Int), 0 ≤ x → InW (digs n x)
  | 0, _, _ => fun y hy => by cases hy
  | n + 1, x, h => fun y hy => by
    simp only [digs, List.mem_append, List.mem_singleton] at hy
    rcases hy with hy | rfl
    · exact digs_in n _ (Int.tdiv_nonneg h (by omega)) y hy
    · have a1 := Int.tmod_nonneg 3 h
      have a2 := Int.tmod_lt_of_pos x (show (0 : Int) < 3 by omega)
      omega
/-- Each list is some number's digits. -/
theorem digs_all : ∀ (n : Nat) (l : List Int), l.length = n → InW l → ∃ k : Nat, k < 3 ^ n ∧ digs n k = l
  | 0, l, h, _ => ⟨0, by simp, by simpa [digs] using (List.length_eq_zero_iff.1 h).symm⟩
  | n + 1, l, h, hl => by
    obtain ⟨r, y, rfl⟩ : ∃ r y, l = r ++ [y] := by
      have hne : l ≠ [] := fun e => by rw [e] at h; cases h
      exact ⟨_, _, (List.dropLast_concat_getLast hne).symm⟩
    have hy := hl y (by simp)
    obtain ⟨k, hk, e⟩ := digs_all n r (by simpa using h) fun x hx => hl x (by simp [hx])
    refine ⟨3 * k + y.toNat, by rw [Nat.pow_succ]; omega, ?_⟩
    simp only [digs]
    have e1 : Int.tdiv ((3 * k + y.toNat : Nat) : Int) 3 = k := by
      rw [Int.tdiv_eq_ediv_of_nonneg (by omega)]; omega
    have e2 : Int.tmod ((3 * k + y.toNat : Nat) : Int) 3 = y := by
      rw [Int.tmod_eq_emod_of_nonneg (by omega)]; omega
    rw [e1, e2, e]
theorem rep_set (i : Nat) (s : List Int) (d : Int) : List.set (List.replicate (i + 1) (0 : Int) ++ s) i d = List.replicate i 0 ++ d :: s := by
  rw [List.replicate_succ', List.append_assoc, List.set_append_right _ _ (by simp)]
  simp
theorem rep_get (i : Nat) (s : List Int) : (List.replicate (i + 1) (0 : Int) ++ s)[i]? = some 0 := by
  rw [List.getElem?_append_left (by simp)]
  simp
theorem fill_i {w t1 t2 t5 t6 : Int} {c : Gi_Climate} {best : List Int} : ∀ (i : Nat) (rest : Int) (s : List Int), i ≤ 100 → 0 ≤ rest → rest ≤ 1000000 →
    ∃ r', loop Bi_MostLikely (.h3 w t1 t2 rest (i : Int) t5 t6 c best (w :: (List.replicate i 0 ++ s))) = loop Bi_MostLikely (.h3 w t1 t2 r' 0 t5 t6 c best (w :: (digs i rest ++ s)))
  | 0, rest, s, hi, h0, h1 => ⟨rest, rfl⟩
  | i + 1, rest, s, hi, h0, h1 => by
    have d0 := Int.tdiv_nonneg h0 (show (0 : Int) ≤ 3 by omega)
    have d1 : Int.tdiv rest 3 ≤ 1000000 := by rw [Int.tdiv_eq_ediv_of_nonneg h0]; omega
    obtain ⟨r', ih⟩ := fill_i i (Int.tdiv rest 3) (Int.tmod rest 3 :: s) (by omega) d0 d1 (w := w) (t1 := t1) (t2 := t2) (t5 := t5) (t6 := t6) (c := c) (best := best)
    refine ⟨r', ?_⟩
    rw [loop_eq]
    conv => lhs; simp only [Bi_MostLikely]
    have hg : (w :: (List.replicate (i + 1) (0 : Int) ++ s))[i + 1]? = some 0 := by rw [List.getElem?_cons_succ, rep_get]
    rw [if_pos (by omega), if_pos (by omega), Int.toNat_natCast, hg, Option.bind_some, w64 (n := Int.tdiv rest 3) (by omega), w64 (n := ((i + 1 : Nat) : Int) - 1) (by omega), List.set_cons_succ, rep_set]
    simp only [goOn]
    rw [show ((i + 1 : Nat) : Int) - 1 = i by omega, ih]
    simp [digs]
theorem fill_s {w t1 t2 t3 t4 : Int} {c : Gi_Climate} {best : List Int} : ∀ (i : Nat) (rest : Int) (s : List Int), i ≤ 100 → 0 ≤ rest → rest ≤ 1000000 →
    ∃ r', loop Bs_MostLikely (.h3 w t1 t2 t3 t4 rest ((i : Int) - 1) c best (List.replicate i 0 ++ s)) = loop Bs_MostLikely (.h3 w t1 t2 t3 t4 r' (-1) c best (digs i rest ++ s))
  | 0, rest, s, hi, h0, h1 => ⟨rest, rfl⟩
  | i + 1, rest, s, hi, h0, h1 => by
    have d0 := Int.tdiv_nonneg h0 (show (0 : Int) ≤ 3 by omega)
    have d1 : Int.tdiv rest 3 ≤ 1000000 := by rw [Int.tdiv_eq_ediv_of_nonneg h0]; omega
    obtain ⟨r', ih⟩ := fill_s i (Int.tdiv rest 3) (Int.tmod rest 3 :: s) (by omega) d0 d1 (w := w) (t1 := t1) (t2 := t2) (t3 := t3) (t4 := t4) (c := c) (best := best)
    refine ⟨r', ?_⟩
    rw [show ((i + 1 : Nat) : Int) - 1 = (i : Int) by omega, loop_eq]
    conv => lhs; simp only [Bs_MostLikely]
    rw [if_pos (by omega), if_pos (by omega), Int.toNat_natCast, rep_get, Option.bind_some, w64 (n := Int.tdiv rest 3) (by omega), w64 (n := (i : Int) - 1) (by omega), rep_set]
    simp only [goOn]
    rw [ih]
    simp [digs]
def mostF (W : List (List Int)) (w : Int) (n : Nat) : Nat → Nat → List Int × Int → List Int × Int
  | 0, _, p => p
  | m + 1, k, p => mostF W w n m (k + 1) (if likeP W w (digs n k) > p.2 then (digs n k, likeP W w (digs n k)) else p)
theorem mostl_i {c : Gi_Climate} (hg : wG c = true) {w : Int} (hw : 0 ≤ w ∧ w ≤ 2) {n : Nat} (hn : n ≤ 6) {all : Nat} (ha : all ≤ 1000) : ∀ (m k : Nat) (p : List Int × Int), k + m = all → p.1.length ≤ 6 →
    loop Bi_MostLikely (.h2 w (n : Int) p.2 (all : Int) (k : Int) c p.1) = some ((mostF c.Weights w n m k p).1, true)
  | 0, k, p, h, hp => by
    rw [loop_eq]
    simp only [Bi_MostLikely, Dslices_Clone_int]
    rw [if_neg (by omega), if_pos (by omega), Option.bind_some]
    rfl
  | m + 1, k, p, h, hp => by
    obtain ⟨r', e1⟩ := fill_i (w := w) (t1 := (n : Int)) (t2 := p.2) (t5 := (all : Int)) (t6 := (k : Int)) (c := c) (best := p.1) n (k : Int) [] (by omega) (by omega) (by omega)
    have hlen := digs_len n k
    have hin := digs_in n (k : Int) (by omega)
    rw [List.append_nil, List.append_nil] at e1
    rw [loop_eq]
    conv => lhs; simp only [Bi_MostLikely]
    rw [if_pos (by omega), wsucc (by omega), if_pos (by omega), Int.toNat_natCast, if_pos (by omega), show Int.toNat 0 = 0 from rfl]
    simp only [List.replicate_succ, List.getElem?_cons_zero, Option.bind_some, List.set_cons_zero, goOn]
    rw [e1, loop_eq]
    conv => lhs; simp only [Bi_MostLikely]
    rw [if_neg (by omega), like_i hg hw hin (by omega), Option.bind_some, wsucc (by omega)]
    simp only [mostF]
    by_cases c1 : likeP c.Weights w (digs n k) > p.2
    · rw [if_pos c1, if_pos (by simp; omega), if_pos c1]
      simp only [goOn]
      have ih := mostl_i hg hw hn ha m (k + 1) (digs n k, likeP c.Weights w (digs n k)) (by omega) (by simp only; omega)
      rw [← ih]
      congr 2
      simp [hlen]
      exact List.take_of_length_le (by omega)
    · rw [if_neg c1, if_neg c1]
      simp only [goOn]
      exact mostl_i hg hw hn ha m (k + 1) p (by omega) hp
theorem mostl_s {c : Gi_Climate} (hg : wG c = true) {w : Int} (hw : 0 ≤ w ∧ w ≤ 2) {n : Nat} (hn : n ≤ 6) {all : Nat} (ha : all ≤ 1000) : ∀ (m k : Nat) (p : List Int × Int), k + m = all →
    loop Bs_MostLikely (.h2 w (n : Int) (all : Int) p.2 (k : Int) c p.1) = some ((mostF c.Weights w n m k p).1, true)
  | 0, k, p, h => by
    rw [loop_eq]
    simp only [Bs_MostLikely]
    rw [if_neg (by omega)]
    rfl
  | m + 1, k, p, h => by
    obtain ⟨r', e1⟩ := fill_s (w := w) (t1 := (n : Int)) (t2 := (all : Int)) (t3 := p.2) (t4 := (k : Int)) (c := c) (best := p.1) n (k : Int) [] (by omega) (by omega) (by omega)
    have hlen := digs_len n k
    have hin := digs_in n (k : Int) (by omega)
    rw [List.append_nil, List.append_nil] at e1
    rw [loop_eq]
    conv => lhs; simp only [Bs_MostLikely]
    rw [if_pos (by omega), if_pos (by omega), Int.toNat_natCast, if_pos (by omega), w64 (n := (n : Int) - 1) (by omega)]
    simp only [goOn]
    rw [e1, loop_eq]
    conv => lhs; simp only [Bs_MostLikely]
    rw [if_neg (by omega), if_pos (by simp; omega), List.singleton_append, like_s hg hw hin (by omega), Option.bind_some, wsucc (by omega)]
    simp only [mostF]
    by_cases c1 : likeP c.Weights w (digs n k) > p.2
    · rw [if_pos c1, if_pos c1]
      simp only [goOn]
      exact mostl_s hg hw hn ha m (k + 1) (digs n k, likeP c.Weights w (digs n k)) (by omega)
    · rw [if_neg c1, if_neg c1]
      simp only [goOn]
      exact mostl_s hg hw hn ha m (k + 1) p (by omega)
theorem p3 {i : Nat} (h : i ≤ 6) : 3 ^ i ≤ 729 := by
  have : i = 0 ∨ i = 1 ∨ i = 2 ∨ i = 3 ∨ i = 4 ∨ i = 5 ∨ i = 6 := by omega
  rcases this with rfl | rfl | rfl | rfl | rfl | rfl | rfl <;> decide
theorem all_i {w : Int} {n : Nat} {c : Gi_Climate} (hn : n ≤ 6) : ∀ (m k : Nat), k + m = n → loop Bi_MostLikely (.h1 w (n : Int) ((3 ^ k : Nat) : Int) (n : Int) (k : Int) c) = loop Bi_MostLikely (.h2 w (n : Int) (-1) ((3 ^ n : Nat) : Int) 0 c [])
  | 0, k, h => by
    rw [loop_eq, show k = n by omega]
    simp only [Bi_MostLikely]
    rw [if_neg (by omega)]
    rfl
  | m + 1, k, h => by
    have hp := p3 (i := k) (by omega)
    have hq : 0 ≤ ((3 ^ k : Nat) : Int) ∧ ((3 ^ k : Nat) : Int) ≤ 729 := by generalize 3 ^ k = q at hp; omega
    rw [loop_eq]
    conv => lhs; simp only [Bi_MostLikely]
    rw [if_pos (by omega), wsucc (by omega), w64 (by omega), show ((3 ^ k : Nat) : Int) * 3 = ((3 ^ (k + 1) : Nat) : Int) by rw [Nat.pow_succ]; omega]
    simp only [goOn]
    exact all_i hn m (k + 1) (by omega)
theorem all_s {w : Int} {n : Nat} {c : Gi_Climate} (hn : n ≤ 6) : ∀ (m k : Nat), k + m = n → loop Bs_MostLikely (.h1 w (n : Int) ((3 ^ k : Nat) : Int) (k : Int) c) = loop Bs_MostLikely (.h2 w (n : Int) ((3 ^ n : Nat) : Int) (-1) 0 c [])
  | 0, k, h => by
    rw [loop_eq, show k = n by omega]
    simp only [Bs_MostLikely]
    rw [if_neg (by omega)]
    rfl
  | m + 1, k, h => by
    have hp := p3 (i := k) (by omega)
    have hq : 0 ≤ ((3 ^ k : Nat) : Int) ∧ ((3 ^ k : Nat) : Int) ≤ 729 := by generalize 3 ^ k = q at hp; omega
    rw [loop_eq]
    conv => lhs; simp only [Bs_MostLikely]
    rw [if_pos (by omega), wsucc (by omega), w64 (by omega), show ((3 ^ k : Nat) : Int) * 3 = ((3 ^ (k + 1) : Nat) : Int) by rw [Nat.pow_succ]; omega]
    simp only [goOn]
    exact all_s hn m (k + 1) (by omega)
def bestOf (c : Gi_Climate) (w : Int) (n : Nat) : List Int × Int := mostF c.Weights w n (3 ^ n) 0 ([], -1)
def mostLR (c : Gi_Climate) (w n : Int) : List Int × Bool := if (wAsk c w && kIn n 0 6) = true then ((bestOf c w n.toNat).1, true) else ([], false)
theorem mostLikely_both (c : Gi_Climate) (w n : Int) : Di_MostLikely c w n = some (mostLR c w n) ∧ Ds_MostLikely c w n = some (mostLR c w n) := by
  unfold Di_MostLikely Ds_MostLikely mostLR
  rw [weatherOf_i, asked_w, Option.bind_some, Option.bind_some, kin_i, kin_s]
  by_cases h : wAsk c w = true
  · obtain ⟨hg, hw⟩ := wAsk_iff.1 h
    rw [if_pos h, if_pos h, Option.bind_some, Option.bind_some]
    by_cases h2 : kIn n 0 6 = true
    · obtain ⟨n1, n2⟩ := kIn_iff.1 h2
      obtain ⟨k, rfl⟩ : ∃ k : Nat, n = k := ⟨n.toNat, by omega⟩
      have hp := p3 (i := k) (by omega)
      rw [if_pos h2, if_pos h2, if_pos (by rw [h, h2]; rfl), Int.toNat_natCast]
      refine ⟨?_, ?_⟩
      · refine (all_i (w := w) (c := c) (n := k) (by omega) k 0 (by omega)).trans ?_
        exact mostl_i hg hw (by omega) (by omega) (3 ^ k) 0 ([], -1) (by omega) (by simp)
      · refine (all_s (w := w) (c := c) (n := k) (by omega) k 0 (by omega)).trans ?_
        exact mostl_s hg hw (by omega) (by omega) (3 ^ k) 0 ([], -1) (by omega)
    · rw [if_neg h2, if_neg h2, if_neg (by simp [h2])]
      exact ⟨rfl, rfl⟩
  · rw [if_neg h, if_neg h, if_neg (by simp [h])]
    exact ⟨rfl, rfl⟩
/-- The best is at least as likely as each, and is one of them. -/
def MostOk (c : Gi_Climate) (w : Int) (n : Nat) (p : List Int × Int) : Prop := p.2 = -1 ∨ p.2 = likeP c.Weights w p.1 ∧ p.1.length = n ∧ InW p.1
theorem mostF_ok {c : Gi_Climate} {w : Int} {n : Nat} : ∀ (m k : Nat) (p : List Int × Int), MostOk c w n p → MostOk c w n (mostF c.Weights w n m k p) ∧ p.2 ≤ (mostF c.Weights w n m k p).2 ∧ ∀ j, k ≤ j → j < k + m → likeP c.Weights w (digs n j) ≤ (mostF c.Weights w n m k p).2
  | 0, k, p, h => ⟨h, Int.le_refl _, fun j h1 h2 => by omega⟩
  | m + 1, k, p, h => by
    simp only [mostF]
    by_cases c1 : likeP c.Weights w (digs n k) > p.2
    · rw [if_pos c1]
      obtain ⟨h1, h2, h3⟩ := mostF_ok m (k + 1) (digs n k, likeP c.Weights w (digs n k)) (.inr ⟨rfl, digs_len _ _, digs_in _ _ (by omega)⟩)
      refine ⟨h1, by simp only at h2; omega, fun j hj1 hj2 => ?_⟩
      by_cases e : j = k
      · subst e; exact h2
      · exact h3 j (by omega) (by omega)
    · rw [if_neg c1]
      obtain ⟨h1, h2, h3⟩ := mostF_ok m (k + 1) p h
      refine ⟨h1, h2, fun j hj1 hj2 => ?_⟩
      by_cases e : j = k
      · subst e; omega
      · exact h3 j (by omega) (by omega)
theorem best_ok {c : Gi_Climate} (hg : wG c = true) {w : Int} (hw : 0 ≤ w ∧ w ≤ 2) {n : Nat} : (bestOf c w n).2 = likeP c.Weights w (bestOf c w n).1 ∧ (bestOf c w n).1.length = n ∧ InW (bestOf c w n).1 ∧ ∀ l, l.length = n → InW l → likeP c.Weights w l ≤ (bestOf c w n).2 := by
  obtain ⟨h1, h2, h3⟩ := mostF_ok (c := c) (w := w) (n := n) (3 ^ n) 0 ([], -1) (.inl rfl)
  have hall : ∀ l, l.length = n → InW l → likeP c.Weights w l ≤ (bestOf c w n).2 := fun l hl hi => by
    obtain ⟨k, hk, e⟩ := digs_all n l hl hi
    rw [← e]
    exact h3 k (by omega) (by omega)
  have hpos : 0 ≤ (bestOf c w n).2 := by
    have h4 := (likeP_b hg (digs n 0) w hw (digs_in n 0 (by omega))).1
    have h5 := hall _ (digs_len n 0) (digs_in n 0 (by omega))
    omega
  rcases h1 with h1 | ⟨h1, h4, h5⟩
  · have : (bestOf c w n).2 = -1 := h1
    omega
  · exact ⟨h1, h4, h5, hall⟩

theorem wr11 : IntKind.wrap .i64 (1 + 1) = 2 := by decide
theorem wr21 : IntKind.wrap .i64 (2 + 1) = 3 := by decide
theorem wr01 : IntKind.wrap .i64 (0 + 1) = 1 := by decide
theorem chRow_i {m t1 t2 t3 t4 p q r u v s : Int} {c : Gi_Climate} {l10 : List Int} : loop Bi_chancesAfter (.h3 m t1 t2 t3 t4 [p, q, r] 3 0 c [u, v, s] l10) = loop Bi_chancesAfter (.h2 t1 t2 t3 (IntKind.wrap .i64 (t4 + 1)) c [IntKind.wrap .i64 (u + IntKind.wrap .i64 (m * p)), IntKind.wrap .i64 (v + IntKind.wrap .i64 (m * q)), IntKind.wrap .i64 (s + IntKind.wrap .i64 (m * r))] l10) := by
  rw [loop_eq]
  conv => lhs; simp only [Bi_chancesAfter]
  rw [if_pos (by decide), if_pos (by decide), wr01]
  simp only [show Int.toNat 0 = 0 from rfl, List.getElem?_cons_zero, Option.bind_some, List.set_cons_zero, goOn, show (0 : Int) ≤ 0 from by decide, if_true]
  rw [loop_eq]
  conv => lhs; simp only [Bi_chancesAfter]
  rw [if_pos (by decide), if_pos (by decide), wr11]
  simp only [show Int.toNat 1 = 1 from rfl, List.getElem?_cons_zero, List.getElem?_cons_succ, Option.bind_some, List.set_cons_zero, List.set_cons_succ, goOn, show (0 : Int) ≤ 1 from by decide, if_true]
  rw [loop_eq]
  conv => lhs; simp only [Bi_chancesAfter]
  rw [if_pos (by decide), if_pos (by decide), wr21]
  simp only [show Int.toNat 2 = 2 from rfl, List.getElem?_cons_zero, List.getElem?_cons_succ, Option.bind_some, List.set_cons_zero, List.set_cons_succ, goOn, show (0 : Int) ≤ 2 from by decide, if_true]
  rw [loop_eq]
  conv => lhs; simp only [Bi_chancesAfter]
  rw [if_neg (by decide)]
  rfl
theorem chRow_s {n0 m t2 t3 p q r u v s : Int} {c : Gi_Climate} {l9 : List Int} : loop Bs_wChances (.h3 n0 m t2 t3 [p, q, r] 3 0 c [u, v, s] l9) = loop Bs_wChances (.h2 n0 t2 (IntKind.wrap .i64 (t3 + 1)) c [IntKind.wrap .i64 (u + IntKind.wrap .i64 (m * p)), IntKind.wrap .i64 (v + IntKind.wrap .i64 (m * q)), IntKind.wrap .i64 (s + IntKind.wrap .i64 (m * r))] l9) := by
  rw [loop_eq]
  conv => lhs; simp only [Bs_wChances]
  rw [if_pos (by decide), if_pos (by decide), wr01]
  simp only [show Int.toNat 0 = 0 from rfl, List.getElem?_cons_zero, Option.bind_some, List.set_cons_zero, goOn, show (0 : Int) ≤ 0 from by decide, if_true]
  rw [loop_eq]
  conv => lhs; simp only [Bs_wChances]
  rw [if_pos (by decide), if_pos (by decide), wr11]
  simp only [show Int.toNat 1 = 1 from rfl, List.getElem?_cons_zero, List.getElem?_cons_succ, Option.bind_some, List.set_cons_zero, List.set_cons_succ, goOn, show (0 : Int) ≤ 1 from by decide, if_true]
  rw [loop_eq]
  conv => lhs; simp only [Bs_wChances]
  rw [if_pos (by decide), if_pos (by decide), wr21]
  simp only [show Int.toNat 2 = 2 from rfl, List.getElem?_cons_zero, List.getElem?_cons_succ, Option.bind_some, List.set_cons_zero, List.set_cons_succ, goOn, show (0 : Int) ≤ 2 from by decide, if_true]
  rw [loop_eq]
  conv => lhs; simp only [Bs_wChances]
  rw [if_neg (by decide)]
  rfl
/-- A climate, number by number. -/
structure W9 (c : Gi_Climate) (a1 a2 a3 b1 b2 b3 c1 c2 c3 : Int) : Prop where
  eq : c = ⟨[[a1, a2, a3], [b1, b2, b3], [c1, c2, c3]]⟩
  a : (0 ≤ a1 ∧ a1 ≤ 36) ∧ (0 ≤ a2 ∧ a2 ≤ 36) ∧ (0 ≤ a3 ∧ a3 ≤ 36)
  b : (0 ≤ b1 ∧ b1 ≤ 36) ∧ (0 ≤ b2 ∧ b2 ≤ 36) ∧ (0 ≤ b3 ∧ b3 ≤ 36)
  c : (0 ≤ c1 ∧ c1 ≤ 36) ∧ (0 ≤ c2 ∧ c2 ≤ 36) ∧ (0 ≤ c3 ∧ c3 ≤ 36)
theorem w9 {c : Gi_Climate} (h : wG c = true) : ∃ a1 a2 a3 b1 b2 b3 c1 c2 c3, W9 c a1 a2 a3 b1 b2 b3 c1 c2 c3 := by
  simp only [wG, Bool.and_eq_true, decide_eq_true_eq] at h
  obtain ⟨W⟩ := c
  match W, h with
  | [x, y, z], h =>
    have hx := alli_iff.1 h.2 0 x rfl
    have hy := alli_iff.1 h.2 1 y rfl
    have hz := alli_iff.1 h.2 2 z rfl
    obtain ⟨a1, a2, a3, rfl⟩ := three (wRow_len hx)
    obtain ⟨b1, b2, b3, rfl⟩ := three (wRow_len hy)
    obtain ⟨c1, c2, c3, rfl⟩ := three (wRow_len hz)
    rw [wRow_iff] at hx hy hz
    exact ⟨a1, a2, a3, b1, b2, b3, c1, c2, c3, rfl, ⟨hx.1, hx.2.1, hx.2.2.1⟩, ⟨hy.1, hy.2.1, hy.2.2.1⟩, ⟨hz.1, hz.2.1, hz.2.2.1⟩⟩
def lin (x y z a b c : Int) : Int := x * a + y * b + z * c
theorem linB {x y z a b c M : Int} (hx : 0 ≤ x ∧ x ≤ M) (hy : 0 ≤ y ∧ y ≤ M) (hz : 0 ≤ z ∧ z ≤ M) (hM : M ≤ 14693280768) (ha : 0 ≤ a ∧ a ≤ 36) (hb : 0 ≤ b ∧ b ≤ 36) (hc : 0 ≤ c ∧ c ≤ 36) :
    IntKind.wrap .i64 (IntKind.wrap .i64 (IntKind.wrap .i64 (0 + IntKind.wrap .i64 (x * a)) + IntKind.wrap .i64 (y * b)) + IntKind.wrap .i64 (z * c)) = lin x y z a b c ∧ 0 ≤ lin x y z a b c ∧ lin x y z a b c ≤ M * 108 := by
  have h1 := mulB hx ha
  have h2 := mulB hy hb
  have h3 := mulB hz hc
  unfold lin
  rw [w64 (n := x * a) (by omega), w64 (n := y * b) (by omega), w64 (n := z * c) (by omega), w64 (n := 0 + x * a) (by omega), w64 (n := 0 + x * a + y * b) (by omega), w64 (by omega)]
  omega
def P3 (l : List Int) (M : Int) : Prop := ∃ x y z, l = [x, y, z] ∧ (0 ≤ x ∧ x ≤ M) ∧ (0 ≤ y ∧ y ≤ M) ∧ (0 ≤ z ∧ z ≤ M)
theorem chStep_both {c : Gi_Climate} (h : wG c = true) {l : List Int} {M : Int} (hl : P3 l M) (hM : M ≤ 14693280768) : ∃ l', P3 l' (M * 108) ∧
    (∀ t0 t1 : Int, t1 < t0 → loop Bi_chancesAfter (.h1 t0 t1 c l) = loop Bi_chancesAfter (.h1 t0 (IntKind.wrap .i64 (t1 + 1)) c l')) ∧
    ∀ n0 : Int, 0 < n0 → loop Bs_wChances (.h1 n0 c l) = loop Bs_wChances (.h1 (IntKind.wrap .i64 (n0 - 1)) c l') := by
  obtain ⟨a1, a2, a3, b1, b2, b3, c1, c2, c3, hW⟩ := w9 h
  obtain ⟨x, y, z, rfl, hx, hy, hz⟩ := hl
  obtain ⟨rfl, ha, hb, hc⟩ := hW
  obtain ⟨e1, f1⟩ := linB hx hy hz hM ha.1 hb.1 hc.1
  obtain ⟨e2, f2⟩ := linB hx hy hz hM ha.2.1 hb.2.1 hc.2.1
  obtain ⟨e3, f3⟩ := linB hx hy hz hM ha.2.2 hb.2.2 hc.2.2
  refine ⟨[lin x y z a1 b1 c1, lin x y z a2 b2 c2, lin x y z a3 b3 c3], ⟨_, _, _, rfl, f1, f2, f3⟩, fun t0 t1 ht => ?_, fun n0 hn => ?_⟩
  · rw [loop_eq]
    conv => lhs; simp only [Bi_chancesAfter]
    rw [if_pos ht, if_pos (by decide), show (List.replicate (Int.toNat 3) (0 : Int)) = [0, 0, 0] from rfl, show ((([x, y, z] : List Int).length : Nat) : Int) = 3 from rfl]
    simp only [goOn]
    rw [loop_eq]
    conv => lhs; simp only [Bi_chancesAfter]
    rw [if_pos (by decide), if_pos (by decide)]
    simp only [show Int.toNat 0 = 0 from rfl, List.getElem?_cons_zero, Option.bind_some, goOn, show (0 : Int) ≤ 0 from by decide, if_true]
    rw [show ((([a1, a2, a3] : List Int).length : Nat) : Int) = 3 from rfl, chRow_i, wr01, loop_eq]
    conv => lhs; simp only [Bi_chancesAfter]
    rw [if_pos (by decide), if_pos (by decide)]
    simp only [show Int.toNat 1 = 1 from rfl, List.getElem?_cons_zero, List.getElem?_cons_succ, Option.bind_some, goOn, show (0 : Int) ≤ 1 from by decide, if_true]
    rw [show ((([b1, b2, b3] : List Int).length : Nat) : Int) = 3 from rfl, chRow_i, wr11, loop_eq]
    conv => lhs; simp only [Bi_chancesAfter]
    rw [if_pos (by decide), if_pos (by decide)]
    simp only [show Int.toNat 2 = 2 from rfl, List.getElem?_cons_zero, List.getElem?_cons_succ, Option.bind_some, goOn, show (0 : Int) ≤ 2 from by decide, if_true]
    rw [show ((([c1, c2, c3] : List Int).length : Nat) : Int) = 3 from rfl, chRow_i, wr21, loop_eq]
    conv => lhs; simp only [Bi_chancesAfter]
    rw [if_neg (by decide), e1, e2, e3]
    rfl
  · rw [loop_eq]
    conv => lhs; simp only [Bs_wChances]
    rw [if_pos hn, if_pos (by decide), show (List.replicate (Int.toNat 3) (0 : Int)) = [0, 0, 0] from rfl, show ((([x, y, z] : List Int).length : Nat) : Int) = 3 from rfl]
    simp only [goOn]
    rw [loop_eq]
    conv => lhs; simp only [Bs_wChances]
    rw [if_pos (by decide), if_pos (by decide)]
    simp only [show Int.toNat 0 = 0 from rfl, List.getElem?_cons_zero, Option.bind_some, goOn, show (0 : Int) ≤ 0 from by decide, if_true]
    rw [show ((([a1, a2, a3] : List Int).length : Nat) : Int) = 3 from rfl, chRow_s, wr01, loop_eq]
    conv => lhs; simp only [Bs_wChances]
    rw [if_pos (by decide), if_pos (by decide)]
    simp only [show Int.toNat 1 = 1 from rfl, List.getElem?_cons_zero, List.getElem?_cons_succ, Option.bind_some, goOn, show (0 : Int) ≤ 1 from by decide, if_true]
    rw [show ((([b1, b2, b3] : List Int).length : Nat) : Int) = 3 from rfl, chRow_s, wr11, loop_eq]
    conv => lhs; simp only [Bs_wChances]
    rw [if_pos (by decide), if_pos (by decide)]
    simp only [show Int.toNat 2 = 2 from rfl, List.getElem?_cons_zero, List.getElem?_cons_succ, Option.bind_some, goOn, show (0 : Int) ≤ 2 from by decide, if_true]
    rw [show ((([c1, c2, c3] : List Int).length : Nat) : Int) = 3 from rfl, chRow_s, wr21, loop_eq]
    conv => lhs; simp only [Bs_wChances]
    rw [if_neg (by decide), e1, e2, e3]
    rfl
theorem p108 {i : Nat} (h : i ≤ 5) : (108 : Int) ^ i ≤ 14693280768 := by
  have : i = 0 ∨ i = 1 ∨ i = 2 ∨ i = 3 ∨ i = 4 ∨ i = 5 := by omega
  rcases this with rfl | rfl | rfl | rfl | rfl | rfl <;> decide
theorem chLoop {c : Gi_Climate} (h : wG c = true) {t0 : Int} (ht0 : t0 ≤ 100) : ∀ (n k : Nat) (t1 : Int) (l : List Int), k + n ≤ 6 → 0 ≤ t1 → t1 + n = t0 → P3 l ((108 : Int) ^ k) →
    ∃ l', loop Bi_chancesAfter (.h1 t0 t1 c l) = some l' ∧ loop Bs_wChances (.h1 (n : Int) c l) = some l' ∧ P3 l' ((108 : Int) ^ (k + n))
  | 0, k, t1, l, hk, h0, h1, hl => by
    refine ⟨l, ?_, ?_, by simpa using hl⟩
    · rw [loop_eq]
      simp only [Bi_chancesAfter]
      rw [if_neg (by omega)]
      rfl
    · rw [loop_eq]
      simp only [Bs_wChances]
      rw [if_neg (by omega)]
      rfl
  | n + 1, k, t1, l, hk, h0, h1, hl => by
    obtain ⟨l1, g1, g2, g3⟩ := chStep_both h hl (p108 (by omega))
    rw [← Int.pow_succ] at g1
    obtain ⟨l', f1, f2, f3⟩ := chLoop h ht0 n (k + 1) (t1 + 1) l1 (by omega) (by omega) (by omega) g1
    refine ⟨l', ?_, ?_, by rw [show k + (n + 1) = k + 1 + n by omega]; exact f3⟩
    · rw [g2 t0 t1 (by omega), w64 (by omega)]; exact f1
    · rw [g3 _ (by omega), w64 (by omega), show ((n + 1 : Nat) : Int) - 1 = n by omega]; exact f2
theorem chances_both {c : Gi_Climate} (h : wG c = true) {w n : Int} (hw : 0 ≤ w ∧ w ≤ 2) (hn : 0 ≤ n ∧ n ≤ 6) : ∃ x y z, Di_chancesAfter c w n = some [x, y, z] ∧ Ds_wChances c w n = some [x, y, z] ∧ 0 ≤ x ∧ 0 ≤ y ∧ 0 ≤ z := by
  obtain ⟨k, rfl⟩ : ∃ k : Nat, n = k := ⟨n.toNat, by omega⟩
  obtain ⟨l0, e0, e1, hp⟩ : ∃ l0, (List.replicate (Int.toNat 3) (0 : Int))[w.toNat]? = some 0 ∧ List.set (List.replicate (Int.toNat 3) (0 : Int)) w.toNat 1 = l0 ∧ P3 l0 ((108 : Int) ^ 0) := by
    have : w = 0 ∨ w = 1 ∨ w = 2 := by omega
    rcases this with rfl | rfl | rfl
    · exact ⟨[1, 0, 0], rfl, rfl, 1, 0, 0, rfl, by decide, by decide, by decide⟩
    · exact ⟨[0, 1, 0], rfl, rfl, 0, 1, 0, rfl, by decide, by decide, by decide⟩
    · exact ⟨[0, 0, 1], rfl, rfl, 0, 0, 1, rfl, by decide, by decide, by decide⟩
  obtain ⟨l', f1, f2, x, y, z, rfl, hx, hy, hz⟩ := chLoop h (t0 := (k : Int)) (by omega) k 0 0 l0 (by omega) (by omega) (by omega) hp
  refine ⟨x, y, z, ?_, ?_, hx.1, hy.1, hz.1⟩
  · unfold Di_chancesAfter
    rw [if_pos (by decide), if_pos hw.1, e0, Option.bind_some, e1, f1]
  · unfold Ds_wChances
    rw [if_pos (by decide), if_pos hw.1, e0, Option.bind_some, e1, f2]
theorem follow_loop {c : Gi_Climate} (h : wG c = true) {w v : Int} (hw : 0 ≤ w ∧ w ≤ 2) (hv : 0 ≤ v ∧ v ≤ 2) : ∀ (m : Nat) (n : Int), 1 ≤ n → n + m = 4 → ∃ r, loop Bi_CanFollow (.h1 w v n c) = some r ∧ loop Bs_CanFollow (.h1 w v n c) = some r
  | 0, n, h1, h2 => by
    refine ⟨(false, true), ?_, ?_⟩
    · rw [loop_eq]
      simp only [Bi_CanFollow]
      rw [if_neg (by omega)]
      rfl
    · rw [loop_eq]
      simp only [Bs_CanFollow]
      rw [if_neg (by omega)]
      rfl
  | m + 1, n, h1, h2 => by
    obtain ⟨x, y, z, e1, e2, hx, hy, hz⟩ := chances_both h hw (n := n) (by omega)
    have hlt : v.toNat < ([x, y, z] : List Int).length := by simp; omega
    have hg := List.getElem?_eq_getElem hlt
    obtain ⟨r, f1, f2⟩ := follow_loop h hw hv m (n + 1) (by omega) (by omega)
    rw [loop_eq, loop_eq]
    simp only [Bi_CanFollow, Bs_CanFollow]
    rw [if_pos (by omega), if_pos (by omega), e1, e2, Option.bind_some, Option.bind_some, if_pos hv.1, if_pos hv.1, hg, Option.bind_some, Option.bind_some, w64 (n := n + 1) (by omega)]
    by_cases c1 : ([x, y, z] : List Int)[v.toNat] > 0
    · rw [if_pos c1, if_pos c1]
      exact ⟨_, rfl, rfl⟩
    · rw [if_neg c1, if_neg c1]
      exact ⟨r, f1, f2⟩
theorem follow_both (c : Gi_Climate) (w v : Int) : ∃ r, Di_CanFollow c w v = some r ∧ Ds_CanFollow c w v = some r := by
  unfold Di_CanFollow Ds_CanFollow
  rw [weatherOf_i, asked_w, Option.bind_some, Option.bind_some, weather_i, kin_s]
  by_cases h : wAsk c w = true
  · obtain ⟨hg, hw⟩ := wAsk_iff.1 h
    rw [if_pos h, if_pos h, Option.bind_some, Option.bind_some]
    by_cases h2 : kIn v 0 2 = true
    · rw [if_pos h2, if_pos h2]
      exact follow_loop hg hw (kIn_iff.1 h2) 3 1 (by omega) (by omega)
    · rw [if_neg h2, if_neg h2]
      exact ⟨_, rfl, rfl⟩
  · rw [if_neg h, if_neg h]
    exact ⟨_, rfl, rfl⟩
theorem even_loop {c : Gi_Climate} (h : wG c = true) {w most : Int} (hw : 0 ≤ w ∧ w ≤ 2) (hm : most ≤ 6) : ∀ (m : Nat) (n : Int), 1 ≤ n → n + m = most + 1 → ∃ r, loop Bi_EvenTurn (.h1 w most n c) = some r ∧ loop Bs_EvenTurn (.h1 w most n c) = some r
  | 0, n, h1, h2 => by
    refine ⟨(0, false), ?_, ?_⟩
    · rw [loop_eq]
      simp only [Bi_EvenTurn]
      rw [if_neg (by omega)]
      rfl
    · rw [loop_eq]
      simp only [Bs_EvenTurn]
      rw [if_neg (by omega)]
      rfl
  | m + 1, n, h1, h2 => by
    obtain ⟨x, y, z, e1, e2, hx, hy, hz⟩ := chances_both h hw (n := n) (by omega)
    obtain ⟨r, f1, f2⟩ := even_loop h hw hm m (n + 1) (by omega) (by omega)
    rw [loop_eq, loop_eq]
    simp only [Bi_EvenTurn, Bs_EvenTurn]
    rw [if_pos (by omega), if_pos (by omega), e1, e2, Option.bind_some, Option.bind_some, contains_i (by simp), Option.bind_some, w64 (n := n + 1) (by omega)]
    simp only [show Int.toNat 0 = 0 from rfl, show Int.toNat 1 = 1 from rfl, show Int.toNat 2 = 2 from rfl, List.getElem?_cons_zero, List.getElem?_cons_succ, Option.bind_some]
    have hb : hasB [x, y, z] 0 = true ↔ x = 0 ∨ y = 0 ∨ z = 0 := by simp [hasB]
    by_cases c1 : hasB [x, y, z] 0 = true
    · rw [if_pos c1]
      have := hb.1 c1
      refine ⟨r, f1, ?_⟩
      by_cases d1 : x > 0
      · rw [if_pos d1]
        by_cases d2 : y > 0
        · rw [if_pos d2, if_neg (by omega)]; exact f2
        · rw [if_neg d2]; exact f2
      · rw [if_neg d1]; exact f2
    · rw [if_neg c1]
      have := mt hb.2 c1
      rw [if_pos (by omega), if_pos (by omega), if_pos (by omega)]
      exact ⟨_, rfl, rfl⟩
theorem even_both (c : Gi_Climate) (w n : Int) : ∃ r, Di_EvenTurn c w n = some r ∧ Ds_EvenTurn c w n = some r := by
  unfold Di_EvenTurn Ds_EvenTurn
  rw [weatherOf_i, asked_w, Option.bind_some, Option.bind_some, kin_i, kin_s]
  by_cases h : wAsk c w = true
  · obtain ⟨hg, hw⟩ := wAsk_iff.1 h
    rw [if_pos h, if_pos h, Option.bind_some, Option.bind_some]
    by_cases h2 : kIn n 1 6 = true
    · obtain ⟨n1, n2⟩ := kIn_iff.1 h2
      rw [if_pos h2, if_pos h2]
      exact even_loop hg hw n2 n.toNat 1 (by omega) (by omega)
    · rw [if_neg h2, if_neg h2]
      exact ⟨_, rfl, rfl⟩
  · rw [if_neg h, if_neg h]
    exact ⟨_, rfl, rfl⟩

theorem climRow {cur : Gs_l1Cur} {k : Int} (h : Cu cur k) (hk : k + 6 ≤ 1099511627776) : ∃ a b s c1 c2 c3 m row,
    Ds_l1Cur_among cur [0, 0, 6, 18, 36, 12] = some (a, c1) ∧ Ds_l1Cur_among c1 [0, 6, 18, 36] = some (b, c2) ∧ Ds_l1Least b (IntKind.wrap .i64 (36 - a)) = some m ∧ Ds_l1Cur_pick c2 3 = some (s, c3) ∧ 0 ≤ s ∧ s < 3 ∧ Cu c3 (k + 6) ∧
    Ds_l1Own (List.take (([a, m, (IntKind.wrap .i64 ((IntKind.wrap .i64 (36 - a)) - m))].length) - (Int.toNat s)) (List.drop (Int.toNat s) [a, m, (IntKind.wrap .i64 ((IntKind.wrap .i64 (36 - a)) - m))])) = some row ∧
    (row ++ (List.take ((Int.toNat s) - 0) (List.drop 0 [a, m, (IntKind.wrap .i64 ((IntKind.wrap .i64 (36 - a)) - m))]))).length = 3 := by
  obtain ⟨a, c1, e1, ha, hc1⟩ := cuAmong h (by omega) [0, 0, 6, 18, 36, 12] (by decide)
  obtain ⟨b, c2, e2, hb, hc2⟩ := cuAmong hc1 (by omega) [0, 6, 18, 36] (by decide)
  obtain ⟨s, c3, e3, hs, hc3⟩ := cuPick hc2 (by omega) 3
  have hs3 := hs.2.1 (by omega)
  obtain ⟨m, hm⟩ : ∃ m, Ds_l1Least b (IntKind.wrap .i64 (36 - a)) = some m := by
    unfold Ds_l1Least
    split <;> exact ⟨_, rfl⟩
  have : s = 0 ∨ s = 1 ∨ s = 2 := by omega
  refine ⟨a, b, s, c1, c2, c3, m, List.take (([a, m, (IntKind.wrap .i64 ((IntKind.wrap .i64 (36 - a)) - m))].length) - (Int.toNat s)) (List.drop (Int.toNat s) [a, m, (IntKind.wrap .i64 ((IntKind.wrap .i64 (36 - a)) - m))]), e1, e2, hm, e3, hs.1, hs3, hc3.mono (by omega) hk, ?_, ?_⟩
  · unfold Ds_l1Own
    rw [if_pos]
    rcases this with rfl | rfl | rfl <;> simp
  · rcases this with rfl | rfl | rfl <;> simp
/-- What a drawn climate is. -/
def KDc (W : List (List Int)) (n : Nat) : Prop := W.length = n ∧ ∀ x ∈ W, x.length = 3
theorem climLoop : ∀ (n i : Nat) (cur : Gs_l1Cur) (l : List (List Int)) (k : Int), i + n = 3 → 1 ≤ i → KDc l i → Cu cur k → k + 6 * n ≤ 1099511627776 → ∃ c cur', loop Bs_l1Cur_climate (.h2 (i : Int) cur l) = some (c, cur') ∧ KDc c.Weights 3 ∧ Cu cur' (k + 6 * n)
  | 0, i, cur, l, k, h, h1, hl, hc, hk => by
    rw [loop_eq]
    simp only [Bs_l1Cur_climate]
    rw [if_neg (by omega)]
    exact ⟨_, _, rfl, by rw [show 3 = i by omega]; exact hl, by simpa using hc⟩
  | n + 1, i, cur, l, k, h, h1, hl, hc, hk => by
    obtain ⟨a, b, s, c1, c2, c3, m, row, e1, e2, e3, e4, s0, s3, hc3, e5, e6⟩ := climRow hc (by omega)
    obtain ⟨c, cur', f1, f2, f3⟩ := climLoop n (i + 1) c3 (l ++ [row ++ (List.take ((Int.toNat s) - 0) (List.drop 0 [a, m, (IntKind.wrap .i64 ((IntKind.wrap .i64 (36 - a)) - m))]))]) (k + 6) (by omega) (by omega) ⟨by simp [hl.1], fun x hx => by
      rcases List.mem_append.1 hx with hx | hx
      · exact hl.2 x hx
      · rw [List.mem_singleton.1 hx]; exact e6⟩ hc3 (by omega)
    refine ⟨c, cur', ?_, f2, by rw [show k + 6 * ((n + 1 : Nat) : Int) = k + 6 + 6 * (n : Int) by omega]; exact f3⟩
    have hl1 := hl.1
    rw [loop_eq]
    simp only [Bs_l1Cur_climate]
    rw [if_pos (by omega), e1, Option.bind_some]
    simp only
    rw [e2, Option.bind_some, e3, Option.bind_some]
    simp only
    rw [e4, Option.bind_some]
    simp only
    rw [if_pos s0, if_pos (by simp only [List.length_cons, List.length_nil]; omega), e5, Option.bind_some, if_pos s0, if_pos (by simp only [List.length_cons, List.length_nil]; omega), if_pos (by omega), if_pos (by simp; omega), wsucc (by omega)]
    exact f1
theorem drawClim {cur : Gs_l1Cur} {k : Int} (hc : Cu cur k) (hk : k + 18 ≤ 1099511627776) : ∃ c cur', Ds_l1Cur_climate cur = some (c, cur') ∧ KDc c.Weights 3 ∧ Cu cur' (k + 18) := by
  obtain ⟨a, b, s, c1, c2, c3, m, row, e1, e2, e3, e4, s0, s3, hc3, e5, e6⟩ := climRow hc (by omega)
  obtain ⟨c, cur', f1, f2, f3⟩ := climLoop 2 1 c3 [row ++ (List.take ((Int.toNat s) - 0) (List.drop 0 [a, m, (IntKind.wrap .i64 ((IntKind.wrap .i64 (36 - a)) - m))]))] (k + 6) (by omega) (by omega) ⟨rfl, fun x hx => by
    rw [List.mem_singleton.1 hx]; exact e6⟩ hc3 (by omega)
  refine ⟨c, cur', ?_, f2, f3.mono (by omega) hk⟩
  unfold Ds_l1Cur_climate
  rw [loop_eq]
  simp only [Bs_l1Cur_climate]
  rw [if_pos (by decide), e1, Option.bind_some]
  simp only
  rw [e2, Option.bind_some, e3, Option.bind_some]
  simp only
  rw [e4, Option.bind_some]
  simp only
  rw [if_pos s0, if_pos (by simp only [List.length_cons, List.length_nil]; omega), e5, Option.bind_some, if_pos s0, if_pos (by simp only [List.length_cons, List.length_nil]; omega), if_pos (by omega), if_pos (by simp), wr01]
  exact f1
theorem drawAnyClim {cur : Gs_l1Cur} {k : Int} (hc : Cu cur k) (hk : k + 20 ≤ 1099511627776) : ∃ c cur', Ds_l1Cur_anyClimate cur = some (c, cur') ∧ Cu cur' (k + 20) := by
  obtain ⟨c, c1, e1, hW, hc1⟩ := drawClim hc (by omega)
  obtain ⟨v, c2, e2, hv, hc2⟩ := cuPick hc1 (by omega) 24
  have hl := hW.1
  have hx0 : c.Weights[0]? = some c.Weights[0] := List.getElem?_eq_getElem (by omega)
  have hx1 : c.Weights[1]? = some c.Weights[1] := List.getElem?_eq_getElem (by omega)
  have hl0 := hW.2 _ (List.mem_of_getElem? hx0)
  have hy : c.Weights[0][0]? = some c.Weights[0][0] := List.getElem?_eq_getElem (by omega)
  have hfin := hc2.mono (k' := k + 20) (by omega) hk
  unfold Ds_l1Cur_anyClimate
  rw [e1, Option.bind_some, e2, Option.bind_some]
  simp only [show Int.toNat 0 = 0 from rfl, show Int.toNat 1 = 1 from rfl]
  rw [hx0, hx1, Option.bind_some, hy, Option.bind_some, Option.bind_some, if_pos (show (1 : Int) ≤ ((c.Weights.length : Nat) : Int) by omega), Option.bind_some]
  by_cases a0 : v = 0
  · rw [if_pos a0]; exact ⟨_, _, rfl, hfin⟩
  · rw [if_neg a0]
    by_cases a1 : v = 1
    · rw [if_pos a1]; exact ⟨_, _, rfl, hfin⟩
    · rw [if_neg a1]
      by_cases a2 : v = 2
      · rw [if_pos a2]; exact ⟨_, _, rfl, hfin⟩
      · rw [if_neg a2]; exact ⟨_, _, rfl, hfin⟩
theorem drawWeather {cur : Gs_l1Cur} {k : Int} (hc : Cu cur k) (hk : k + 6 ≤ 1099511627776) : ∃ v cur', Ds_l1Cur_weatherOf cur = some (v, cur') ∧ Cu cur' (k + 6) := by
  obtain ⟨a, c1, e1, _, hc1⟩ := cuPick hc (by omega) 20
  obtain ⟨b, c2, e2, _, hc2⟩ := cuPick hc1 (by omega) (IntKind.wrap .i64 (3 + (IntKind.wrap .i64 (Int.tdiv a 19))))
  obtain ⟨d, c3, e3, _, hc3⟩ := cuPick hc2 (by omega) 30
  unfold Ds_l1Cur_weatherOf
  rw [e1, Option.bind_some]
  simp only
  rw [e2, Option.bind_some]
  simp only
  rw [e3]
  exact ⟨_, _, rfl, hc3.mono (by omega) hk⟩
theorem likeDraw {W : List (List Int)} : ∀ (n : Nat) (cur : Gs_l1Cur) (l : List Int) (k : Int), l.length + n ≤ 100000 → Cu cur k → k + 2 * n + 2 ≤ 1099511627776 → ∃ l', loop Bs_DrawLikelihoodOf (.h1 (n : Int) cur l W) = some (⟨W⟩, l')
  | 0, cur, l, k, h, hc, hk => by
    obtain ⟨v, c1, e1, hc1⟩ := cuOne hc (by omega) 24
    rw [loop_eq]
    simp only [Bs_DrawLikelihoodOf]
    rw [if_neg (by omega), e1, Option.bind_some]
    by_cases c : v = true
    · rw [if_pos c, if_pos (by simp; omega)]; exact ⟨_, rfl⟩
    · rw [if_neg c]; exact ⟨_, rfl⟩
  | n + 1, cur, l, k, h, hc, hk => by
    obtain ⟨v, c1, e1, _, hc1⟩ := cuPick hc (by omega) 3
    obtain ⟨l', f⟩ := likeDraw (W := W) n c1 (l ++ [v]) (k + 2) (by simp; omega) hc1 (by omega)
    refine ⟨l', ?_⟩
    rw [loop_eq]
    simp only [Bs_DrawLikelihoodOf]
    rw [if_pos (by omega), e1, Option.bind_some, if_pos (by simp; omega), w64 (by omega), show ((n + 1 : Nat) : Int) - 1 = n by omega]
    exact f
theorem mostLR_len (c : Gi_Climate) (w n : Int) : (mostLR c w n).1.length ≤ 1048577 := by
  unfold mostLR
  split
  · rename_i h
    simp only [Bool.and_eq_true] at h
    obtain ⟨hg, hw⟩ := wAsk_iff.1 h.1
    obtain ⟨n1, n2⟩ := kIn_iff.1 h.2
    have := (best_ok hg hw (n := n.toNat)).2.1
    simp only
    omega
  · simp
theorem likeR_cons (c : Gi_Climate) (a : Int) (l : List Int) : likeR c (a :: l) = if likeOk c (a :: l) = true then (likeP c.Weights a l, true) else (0, false) := rfl
theorem lawForecasts (code more : List Int) (hc : code.length < 9223372036854775808) (hm : more.length < 9223372036854775808) (h1 : ∀ x ∈ code, 0 ≤ x ∧ x < 256) (h2 : ∀ x ∈ more, 0 ≤ x ∧ x < 256) : Dw_FnForecasts code more = some true := by
  unfold Dw_FnForecasts
  rw [eBig code more hc hm, Option.bind_some]
  by_cases hb : 1048576 < code.length + more.length
  · rw [if_pos (decide_eq_true hb)]
  · rw [if_neg (by simpa using hb)]
    obtain ⟨c, c1, e1, hc1⟩ := drawAnyClim (cu1 h1 hc) (by omega)
    have d1 : ∃ w n, Ds_DrawMostLikely code = some (c, w, n) := by
      obtain ⟨w, c2, f1, hc2⟩ := drawWeather hc1 (by omega)
      obtain ⟨a, c3, f2, _, hc3⟩ := cuPick hc2 (by omega) 8
      obtain ⟨b, c4, f3, _, hc4⟩ := cuPick hc3 (by omega) 20
      unfold Ds_DrawMostLikely Ds_DrawChancesAfter
      rw [e1, Option.bind_some, f1, Option.bind_some, f2, Option.bind_some, f3]
      exact ⟨_, _, rfl⟩
    obtain ⟨d, c1', e2, hc2⟩ := drawAnyClim (cu1 h2 hm) (by omega)
    have d2 : ∃ l, Ds_DrawLikelihoodOf more = some (d, l) := by
      obtain ⟨a, c3, f2, ha, hc3⟩ := cuPick hc2 (by omega) 9
      obtain ⟨n, rfl⟩ : ∃ n : Nat, a = n := ⟨a.toNat, by omega⟩
      obtain ⟨l', f⟩ := likeDraw (W := d.Weights) n c3 [] (0 + 20 + 2) (by simp; omega) hc3 (by omega)
      unfold Ds_DrawLikelihoodOf
      rw [e2, Option.bind_some, f2, Option.bind_some]
      exact ⟨l', f⟩
    have d3 : ∃ x y, Ds_DrawCanFollow more = some (d, x, y) := by
      obtain ⟨a, c3, f2, hc3⟩ := drawWeather hc2 (by omega)
      obtain ⟨b, c4, f3, hc4⟩ := drawWeather hc3 (by omega)
      unfold Ds_DrawCanFollow
      rw [e2, Option.bind_some, f2, Option.bind_some, f3]
      exact ⟨_, _, rfl⟩
    obtain ⟨w, n, d1⟩ := d1
    obtain ⟨l, d2⟩ := d2
    obtain ⟨x, y, d3⟩ := d3
    obtain ⟨m1, m2⟩ := mostLikely_both c w n
    obtain ⟨l1, l2⟩ := likelihood_both d l
    obtain ⟨r3, g1, g2⟩ := follow_both d x y
    obtain ⟨r4, g3, g4⟩ := even_both c w n
    rw [d1, Option.bind_some]
    simp only
    rw [m1, m2, d2, d3, g3, g4]
    simp only [Option.bind_some, BEq.rfl, Bool.not_true, Bool.false_eq_true, if_false]
    rw [l1, l2, g1, g2, eSameInts _ (mostLR_len c w n)]
    simp only [Option.bind_some, if_true, BEq.rfl, Bool.not_true, Bool.false_eq_true, if_false]
    by_cases k : (likeR d l).2 = true
    · rw [if_pos k, k]
      simp only [BEq.rfl, Bool.not_true, Bool.false_eq_true, if_false]
      cases l with
      | nil => cases k
      | cons a r =>
        have hk : likeOk d (a :: r) = true := by
          rw [likeR_cons] at k
          split at k
          · rename_i h; exact h
          · cases k
        obtain ⟨hg, hlen, hin⟩ := likeOk_iff.1 hk
        simp only [List.length_cons] at hlen
        have ha := hin a (List.mem_cons_self ..)
        have hr : InW r := fun z hz => hin z (List.mem_cons_of_mem _ hz)
        have hv : (likeR d (a :: r)).1 = likeP d.Weights a r := by
          rw [likeR_cons, if_pos hk]
        obtain ⟨b1, b2, b3, b4⟩ := best_ok hg ha (n := r.length)
        have hM : mostLR d a (IntKind.wrap .i64 ((((a :: r).length : Nat) : Int) - 1)) = ((bestOf d a r.length).1, true) := by
          simp only [List.length_cons]
          rw [w64 (by omega)]
          unfold mostLR
          rw [if_pos (by rw [wAsk_iff.2 ⟨hg, ha⟩, kIn_iff.2 ⟨by omega, by omega⟩]; rfl), show (((r.length + 1 : Nat) : Int) - 1).toNat = r.length by omega]
        have hB : likeOk d (a :: (bestOf d a r.length).1) = true := likeOk_iff.2 ⟨hg, by simp only [List.length_cons, b2]; omega, fun z hz => by
          rcases List.mem_cons.1 hz with rfl | hz
          · exact ha
          · exact b3 z hz⟩
        have hL : likeR d (a :: (bestOf d a r.length).1) = (likeP d.Weights a (bestOf d a r.length).1, true) := by
          rw [likeR_cons, if_pos hB]
        simp only [show Int.toNat 0 = 0 from rfl, List.getElem?_cons_zero, Option.bind_some]
        rw [(mostLikely_both d a _).1, hM, Option.bind_some]
        simp only [if_true]
        rw [if_pos (by simp [b2]; omega), List.singleton_append, (likelihood_both d _).1, hL, Option.bind_some]
        simp only [if_true]
        rw [hv, if_neg (by have := b4 r rfl hr; omega)]
    · rw [if_neg k]
      simp only [Bool.not_eq_true] at k
      rw [k]
      simp only [BEq.rfl, Bool.not_true, Bool.false_eq_true, if_false]

end Go.Proofs.Ytfnhclmdobdkbaa.Ab
