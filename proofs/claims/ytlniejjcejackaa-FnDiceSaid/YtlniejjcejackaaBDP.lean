/- Part of the proof of FnDice: no condition of its own. -/
import Derived.Test.YtlniejjcejackaaBDD
import Derived.Test.YtlniejjcejackaaPuA
set_option linter.unusedVariables false
set_option linter.unusedSimpArgs false
open Go
namespace Go.Proofs.Ytlniejjcejackaa.Ab
def inr3 (n a b : Int) : Bool := decide (a ≤ n) && decide (n ≤ b)
theorem inr3_iff {n a b : Int} : inr3 n a b = true ↔ a ≤ n ∧ n ≤ b := by simp [inr3]
theorem th51 (n a b : Int) : Ds_l1In n a b = some (inr3 n a b) := by
  unfold Ds_l1In inr3; by_cases h : a ≤ n <;> simp [h]
theorem th38 (n a b : Int) : Di_inRange n a b = some (inr3 n a b) := by
  unfold Di_inRange inr3; by_cases h : a ≤ n <;> simp [h]
theorem th48 (n : Int) : Ds_dSeed n = some (inr3 n 0 4611686016279904236) := by simp [Ds_dSeed, th51]
theorem th33 (n : Int) : Di_isSeed n = some (inr3 n 0 4611686016279904236) := by simp [Di_isSeed, th38]
structure Cu (c : Gs_l1Cur) (k : Int) : Prop where
  at0 : 0 ≤ c.at_
  atk : c.at_ ≤ k
  kk : k ≤ 1099511627776
  code : ∀ x ∈ c.code, 0 ≤ x ∧ x < 256
  len : c.code.length ≤ 1048576

theorem Cu.mono {c : Gs_l1Cur} {k k' : Int} (h : Cu c k) (hk : k ≤ k') (hb : k' ≤ 1099511627776) : Cu c k' := ⟨h.at0, by have := h.atk; omega, hb, h.code, h.len⟩

theorem and255 (x : Int) : 0 ≤ IntKind.wrap .i64 (IntKind.wrap .u64 ((BitVec.toNat (BitVec.ofInt (IntKind.bits .u64) x &&& BitVec.ofInt (IntKind.bits .u64) 255) : Nat) : Int)) ∧ IntKind.wrap .i64 (IntKind.wrap .u64 ((BitVec.toNat (BitVec.ofInt (IntKind.bits .u64) x &&& BitVec.ofInt (IntKind.bits .u64) 255) : Nat) : Int)) < 256 := by
  have h : (BitVec.ofInt (IntKind.bits .u64) x &&& BitVec.ofInt (IntKind.bits .u64) 255).toNat ≤ 255 := by
    rw [BitVec.toNat_and]
    have e : (BitVec.ofInt (IntKind.bits .u64) 255).toNat = 255 := by decide
    rw [e]
    exact Nat.and_le_right
  generalize (BitVec.ofInt (IntKind.bits .u64) x &&& BitVec.ofInt (IntKind.bits .u64) 255).toNat = n at h
  have h2 : IntKind.wrap .u64 (n : Int) = (n : Int) := by
    simp only [IntKind.wrap, IntKind.bits, IntKind.signed]
    simp
    omega
  rw [h2, w64 (by omega)]
  omega

theorem cuNext {c : Gs_l1Cur} {k : Int} (h : Cu c k) (hk : k + 1 ≤ 1099511627776) : ∃ v c', Ds_l1Cur_next c = some (v, c') ∧ (0 ≤ v ∧ v < 256) ∧ Cu c' (k + 1) := by
  have h0 := h.at0
  have h1 := h.atk
  have mk : ∀ s, Cu ⟨c.code, c.at_ + 1, s⟩ (k + 1) := fun s => ⟨by simp only; omega, by simp only; omega, hk, h.code, h.len⟩
  unfold Ds_l1Cur_next
  rw [w64 (n := c.at_ + 1) (by omega)]
  by_cases ha : c.at_ < (c.code.length : Int)
  · have hlt : c.at_.toNat < c.code.length := by omega
    have hx := List.getElem?_eq_getElem hlt
    have hv := h.code _ (List.mem_of_getElem? hx)
    rw [if_pos ha, if_pos h0, hx]
    simp only [Option.bind_some]
    split
    · exact ⟨_, _, rfl, by rw [w64 (by omega)]; exact hv, mk _⟩
    · exact ⟨_, _, rfl, and255 _, mk _⟩
  · rw [if_neg ha]
    split
    · exact ⟨_, _, rfl, by omega, mk _⟩
    · exact ⟨_, _, rfl, and255 _, mk _⟩

theorem cuPick {c : Gs_l1Cur} {k : Int} (h : Cu c k) (hk : k + 2 ≤ 1099511627776) (n : Int) : ∃ v c', Ds_l1Cur_pick c n = some (v, c') ∧ (0 ≤ v ∧ (1 ≤ n → v < n) ∧ v ≤ 65535) ∧ Cu c' (k + 2) := by
  unfold Ds_l1Cur_pick
  by_cases h1 : n ≤ 1
  · rw [if_pos h1]
    exact ⟨_, _, rfl, by omega, h.mono (by omega) hk⟩
  · rw [if_neg h1]
    obtain ⟨v, c1, e1, hv, hc1⟩ := cuNext h (by omega)
    rw [e1]
    simp only [Option.bind_some]
    by_cases h2 : n > 200
    · rw [if_pos h2]
      obtain ⟨u, c2, e2, hu, hc2⟩ := cuNext hc1 (by omega)
      rw [e2]
      simp only [Option.bind_some]
      rw [if_pos (by omega), w64 (n := v * 256) (by omega), w64 (by omega)]
      have a1 := Int.tmod_nonneg n (show 0 ≤ v * 256 + u by omega)
      have a2 := Int.tmod_lt_of_pos (v * 256 + u) (show 0 < n by omega)
      have a3 : Int.tmod (v * 256 + u) n ≤ v * 256 + u := by
        have b1 := Int.mul_tdiv_add_tmod (v * 256 + u) n
        have b2 := Int.mul_nonneg (show 0 ≤ n by omega) (Int.tdiv_nonneg (show 0 ≤ v * 256 + u by omega) (show 0 ≤ n by omega))
        omega
      exact ⟨_, _, rfl, ⟨a1, fun _ => a2, by omega⟩, by have := hc2; rw [Int.add_assoc] at this; exact this⟩
    · rw [if_neg h2, if_pos (by omega)]
      have a1 := Int.tmod_nonneg n hv.1
      have a2 := Int.tmod_lt_of_pos v (show 0 < n by omega)
      exact ⟨_, _, rfl, ⟨a1, fun _ => a2, by omega⟩, hc1.mono (by omega) hk⟩

theorem cuOne {c : Gs_l1Cur} {k : Int} (h : Cu c k) (hk : k + 2 ≤ 1099511627776) (n : Int) : ∃ v c', Ds_l1Cur_one c n = some (v, c') ∧ Cu c' (k + 2) := by
  obtain ⟨v, c1, e1, _, hc1⟩ := cuPick h hk n
  unfold Ds_l1Cur_one
  rw [e1]
  exact ⟨_, _, rfl, hc1⟩

theorem cuAmong {c : Gs_l1Cur} {k : Int} (h : Cu c k) (hk : k + 2 ≤ 1099511627776) (l : List Int) (hl : 0 < l.length) : ∃ v c', Ds_l1Cur_among c l = some (v, c') ∧ v ∈ l ∧ Cu c' (k + 2) := by
  obtain ⟨v, c1, e1, hv, hc1⟩ := cuPick h hk l.length
  unfold Ds_l1Cur_among
  rw [e1]
  have hlt : v.toNat < l.length := by have := hv.2.1 (by omega); omega
  have hx := List.getElem?_eq_getElem hlt
  simp only [Option.bind_some]
  rw [if_pos hv.1, hx]
  exact ⟨_, _, rfl, List.mem_of_getElem? hx, hc1⟩

theorem cuSeedOf {c : Gs_l1Cur} {k : Int} (h : Cu c k) (hk : k + 4 ≤ 1099511627776) : ∃ v c', Ds_l1Cur_seedOf c = some (v, c') ∧ Cu c' (k + 4) := by
  obtain ⟨v, c1, e1, _, hc1⟩ := cuPick h (by omega) 12
  unfold Ds_l1Cur_seedOf
  rw [e1]
  simp only [Option.bind_some]
  split
  · exact ⟨_, _, rfl, hc1.mono (by omega) hk⟩
  · split
    · obtain ⟨u, c2, e2, _, hc2⟩ := cuAmong hc1 (by omega) [4611686016279904236, 123456789012] (by decide)
      rw [e2]
      exact ⟨_, _, rfl, hc2.mono (by omega) hk⟩
    · obtain ⟨u, c2, e2, _, hc2⟩ := cuPick hc1 (by omega) 60000
      rw [e2]
      exact ⟨_, _, rfl, hc2.mono (by omega) hk⟩

theorem cuAnySeed {c : Gs_l1Cur} {k : Int} (h : Cu c k) (hk : k + 6 ≤ 1099511627776) : ∃ v c', Ds_l1Cur_anySeed c = some (v, c') ∧ Cu c' (k + 6) := by
  obtain ⟨v, c1, e1, hc1⟩ := cuOne h (by omega) 24
  unfold Ds_l1Cur_anySeed
  rw [e1]
  simp only [Option.bind_some]
  split
  · obtain ⟨u, c2, e2, _, hc2⟩ := cuAmong hc1 (by omega) [(-1), 4611686016279904237] (by decide)
    rw [e2]
    exact ⟨_, _, rfl, hc2.mono (by omega) hk⟩
  · obtain ⟨u, c2, e2, hc2⟩ := cuSeedOf hc1 (by omega)
    rw [e2]
    exact ⟨_, _, rfl, hc2.mono (by omega) hk⟩

theorem cu0 {code : List Int} (h : ∀ x ∈ code, 0 ≤ x ∧ x < 256) (hl : code.length ≤ 1048576) : Cu ⟨code, 0, 0⟩ 0 := ⟨Int.le_refl _, Int.le_refl _, by decide, h, hl⟩

theorem drawDiceFrom {code : List Int} (h : ∀ x ∈ code, 0 ≤ x ∧ x < 256) (hl : code.length ≤ 1048576) : ∃ r, Ds_DrawDiceFrom code = some r := by
  unfold Ds_DrawDiceFrom
  obtain ⟨v, c1, e1, hc1⟩ := cuAnySeed (cu0 h hl) (by decide)
  obtain ⟨u, c2, e2, _, hc2⟩ := cuAmong hc1 (by decide) [0, 3, 999995, 1000000, 1000001] (by decide)
  obtain ⟨w, c3, e3, _, hc3⟩ := cuPick hc2 (by decide) 10
  obtain ⟨x, c4, e4, _, hc4⟩ := cuPick hc3 (by decide) 20
  rw [e1]; simp only [Option.bind_some]
  rw [e2]; simp only [Option.bind_some]
  rw [e3]; simp only [Option.bind_some]
  rw [e4]
  exact ⟨_, rfl⟩
theorem drawShuffleBy {code : List Int} (h : ∀ x ∈ code, 0 ≤ x ∧ x < 256) (hl : code.length ≤ 1048576) : ∃ r, Ds_DrawShuffleBy code = some r := by
  unfold Ds_DrawShuffleBy
  obtain ⟨v, c1, e1, hc1⟩ := cuAnySeed (cu0 h hl) (by decide)
  obtain ⟨u, c2, e2, _, hc2⟩ := cuAmong hc1 (by decide) [0, 1, 2, 3, 7, 12, 40, 41, (-1)] (by decide)
  rw [e1]; simp only [Option.bind_some]
  rw [e2]
  exact ⟨_, rfl⟩
theorem drawNumberBelow {code : List Int} (h : ∀ x ∈ code, 0 ≤ x ∧ x < 256) (hl : code.length ≤ 1048576) : ∃ r, Ds_DrawNumberBelow code = some r := by
  unfold Ds_DrawNumberBelow
  obtain ⟨v, c1, e1, hc1⟩ := cuAnySeed (cu0 h hl) (by decide)
  obtain ⟨w, c3, e3, _, hc3⟩ := cuPick hc1 (by decide) 100
  obtain ⟨u, c2, e2, _, hc2⟩ := cuAmong hc3 (by decide) [1, 2, 7, 100, 1000000, 1000001, 0] (by decide)
  rw [e1]; simp only [Option.bind_some]
  rw [e3]; simp only [Option.bind_some]
  rw [e2]
  exact ⟨_, rfl⟩
theorem drawFacesOf {code : List Int} (h : ∀ x ∈ code, 0 ≤ x ∧ x < 256) (hl : code.length ≤ 1048576) : ∃ r, Ds_DrawFacesOf code = some r := by
  unfold Ds_DrawFacesOf
  obtain ⟨v, c1, e1, hc1⟩ := cuAnySeed (cu0 h hl) (by decide)
  obtain ⟨u, c2, e2, _, hc2⟩ := cuAmong hc1 (by decide) [0, 1, 6, 60, 600, 601, (-1)] (by decide)
  rw [e1]; simp only [Option.bind_some]
  rw [e2]
  exact ⟨_, rfl⟩

def md (x m : Int) : Int := Int.tmod (IntKind.wrap .i64 (Int.tmod x m + m)) m
def mx (x : Int) (s : Int × Int) : Int × Int :=
  (Int.tmod (IntKind.wrap .i64 (IntKind.wrap .i64 (IntKind.wrap .i64 (16807 * s.1) + md x 2147483647) + s.2)) 2147483647,
   Int.tmod (IntKind.wrap .i64 (IntKind.wrap .i64 (IntKind.wrap .i64 (39373 * s.2) + md x 2147483629) + Int.tmod (IntKind.wrap .i64 (IntKind.wrap .i64 (IntKind.wrap .i64 (16807 * s.1) + md x 2147483647) + s.2)) 2147483647)) 2147483629)
def mixR (l : List Int) : Int × Int := mx 1 (mx 1 (mx 1 (l.foldl (fun s x => mx x s) (7, (l.length : Int) + 1))))

theorem md_lim (x m : Int) (h : 1 < m) (hm : m ≤ 2147483647) : 0 ≤ md x m ∧ md x m < m := by
  unfold md
  have h1 := Int.lt_tmod_of_pos x (show 0 < m by omega)
  have h2 := Int.tmod_lt_of_pos x (show 0 < m by omega)
  rw [w64 (by omega)]
  exact ⟨Int.tmod_nonneg m (by omega), Int.tmod_lt_of_pos _ (by omega)⟩
theorem mx_lim (x : Int) (s : Int × Int) (h : 0 ≤ s.1 ∧ s.1 < 2147483647 ∧ 0 ≤ s.2 ∧ s.2 < 2147483647) : 0 ≤ (mx x s).1 ∧ (mx x s).1 < 2147483647 ∧ 0 ≤ (mx x s).2 ∧ (mx x s).2 < 2147483647 := by
  unfold mx
  have h1 := md_lim x 2147483647 (by decide) (by decide)
  have h2 := md_lim x 2147483629 (by decide) (by decide)
  simp only
  rw [w64 (n := 16807 * s.1) (by omega), w64 (n := 16807 * s.1 + md x 2147483647) (by omega), w64 (n := 16807 * s.1 + md x 2147483647 + s.2) (by omega)]
  have a1 := Int.tmod_nonneg 2147483647 (show 0 ≤ 16807 * s.1 + md x 2147483647 + s.2 by omega)
  have a2 := Int.tmod_lt_of_pos (16807 * s.1 + md x 2147483647 + s.2) (show 0 < (2147483647 : Int) by decide)
  generalize Int.tmod (16807 * s.1 + md x 2147483647 + s.2) 2147483647 = a at *
  rw [w64 (n := 39373 * s.2) (by omega), w64 (n := 39373 * s.2 + md x 2147483629) (by omega), w64 (n := 39373 * s.2 + md x 2147483629 + a) (by omega)]
  have b1 := Int.tmod_nonneg 2147483629 (show 0 ≤ 39373 * s.2 + md x 2147483629 + a by omega)
  have b2 := Int.tmod_lt_of_pos (39373 * s.2 + md x 2147483629 + a) (show 0 < (2147483629 : Int) by decide)
  omega
theorem mixR_lim (l : List Int) (hl : l.length ≤ 1000000) : 0 ≤ (mixR l).1 ∧ (mixR l).1 < 2147483647 ∧ 0 ≤ (mixR l).2 ∧ (mixR l).2 < 2147483647 := by
  have key : ∀ (l : List Int) (s : Int × Int), (0 ≤ s.1 ∧ s.1 < 2147483647 ∧ 0 ≤ s.2 ∧ s.2 < 2147483647) → (0 ≤ (l.foldl (fun s x => mx x s) s).1 ∧ (l.foldl (fun s x => mx x s) s).1 < 2147483647 ∧ 0 ≤ (l.foldl (fun s x => mx x s) s).2 ∧ (l.foldl (fun s x => mx x s) s).2 < 2147483647) := by
    intro l
    induction l with
    | nil => intro s h; exact h
    | cons x l ih => intro s h; exact ih _ (mx_lim x s h)
  exact mx_lim _ _ (mx_lim _ _ (mx_lim _ _ (key l _ (by simp only; omega))))

theorem eResidue (x m : Int) (h : m ≠ 0) : Di_residue x m = some (md x m) := by unfold Di_residue; rw [if_pos h, if_pos h]; rfl
theorem eDMod (x m : Int) (h : m ≠ 0) : Ds_dMod x m = some (md x m) := by unfold Ds_dMod; rw [if_pos h, if_pos h]; rfl
theorem eMixParts1 (x a b : Int) : Di_mixParts_1 x a b = some (mx x (a, b)) := by
  unfold Di_mixParts_1
  rw [eResidue x _ (by decide), eResidue x _ (by decide)]
  rfl
theorem eMixParts (l : List Int) (hl : l.length ≤ 1000000) : Di_mixParts l = some (mixR l) := by
  have k2 : ∀ a b, loop Bi_mixParts (.h2 0 a b) = some (mx 1 (mx 1 (mx 1 (a, b)))) := by
    intro a b
    rw [loop_eq]; simp only [Bi_mixParts]; rw [if_pos (by decide), eMixParts1]; simp only [Option.bind_some, goOn]; rw [w64 (n := (0 : Int) + 1) (by decide)]
    rw [loop_eq]; simp only [Bi_mixParts]; rw [if_pos (by decide), eMixParts1]; simp only [Option.bind_some, goOn]; rw [w64 (n := (0 : Int) + 1 + 1) (by decide)]
    rw [loop_eq]; simp only [Bi_mixParts]; rw [if_pos (by decide), eMixParts1]; simp only [Option.bind_some, goOn]; rw [w64 (n := (0 : Int) + 1 + 1 + 1) (by decide)]
    rw [loop_eq]; simp only [Bi_mixParts]; rw [if_neg (by decide)]; rfl
  have key : ∀ (k i : Nat) (a b : Int), i + k = l.length → loop Bi_mixParts (.h1 l (l.length : Int) (i : Int) a b) = some (mx 1 (mx 1 (mx 1 ((l.drop i).foldl (fun s x => mx x s) (a, b))))) := by
    intro k
    induction k with
    | zero =>
      intro i a b h
      rw [loop_eq]
      simp only [Bi_mixParts]
      rw [if_neg (by omega), List.drop_of_length_le (show l.length ≤ i by omega)]
      exact k2 a b
    | succ k ih =>
      intro i a b h
      have hlt : i < l.length := by omega
      rw [loop_eq, List.drop_eq_getElem_cons hlt]
      simp only [Bi_mixParts]
      rw [if_pos (by omega), if_pos (by omega), Int.toNat_natCast, List.getElem?_eq_getElem hlt]
      simp only [Option.bind_some]
      rw [eMixParts1, wsucc (by omega)]
      exact ih (i + 1) _ _ (by omega)
  unfold Di_mixParts mixR
  rw [w64 (by omega)]
  exact key l.length 0 _ _ (by omega)
def mx1 : Nat → Int × Int → Int × Int
  | 0, s => s
  | n + 1, s => mx1 n (mx 1 s)
theorem eDMix (l : List Int) (hl : l.length ≤ 1000000) : Ds_dMix l = some (mixR l) := by
  have tail : ∀ (m i : Nat) (a b : Int), l.length ≤ i → i + m = l.length + 3 → loop Bs_dMix (.h1 l a b (i : Int)) = some (mx1 m (a, b)) := by
    intro m
    induction m with
    | zero =>
      intro i a b h1 h2
      rw [loop_eq]
      simp only [Bs_dMix]
      rw [w64 (by omega), if_neg (by omega)]
      rfl
    | succ m ih =>
      intro i a b h1 h2
      rw [loop_eq]
      simp only [Bs_dMix]
      rw [w64 (n := (l.length : Int) + 3) (by omega), if_pos (by omega), if_neg (by omega), eDMod 1 _ (by decide), eDMod 1 _ (by decide)]
      simp only [Option.bind_some]
      rw [wsucc (by omega)]
      exact ih (i + 1) _ _ (by omega) (by omega)
  have key : ∀ (k i : Nat) (a b : Int), i + k = l.length → loop Bs_dMix (.h1 l a b (i : Int)) = some (mx 1 (mx 1 (mx 1 ((l.drop i).foldl (fun s x => mx x s) (a, b))))) := by
    intro k
    induction k with
    | zero =>
      intro i a b h
      rw [List.drop_of_length_le (show l.length ≤ i by omega)]
      exact tail 3 i a b (by omega) (by omega)
    | succ k ih =>
      intro i a b h
      have hlt : i < l.length := by omega
      rw [loop_eq, List.drop_eq_getElem_cons hlt]
      simp only [Bs_dMix]
      rw [w64 (n := (l.length : Int) + 3) (by omega), if_pos (by omega), if_pos (by omega), if_pos (by omega), Int.toNat_natCast, List.getElem?_eq_getElem hlt]
      simp only [Option.bind_some]
      rw [eDMod _ _ (by decide), eDMod _ _ (by decide)]
      simp only [Option.bind_some]
      rw [wsucc (by omega)]
      exact ih (i + 1) _ _ (by omega)
  unfold Ds_dMix mixR
  rw [w64 (by omega)]
  exact key l.length 0 _ _ (by omega)


theorem ePlace (n : Int) : Di_isPlaceOfDie n = some (inr3 n 0 1000000) := by simp [Di_isPlaceOfDie, th38]
theorem eAsked (s n : Int) : Ds_dAsked s n = some (inr3 s 0 4611686016279904236 && inr3 n 0 1000000) := by
  unfold Ds_dAsked
  rw [th48, th51]
  simp only [Option.bind_some]
  cases inr3 s 0 4611686016279904236 <;> rfl

def die (s i : Int) : Int := 1 + Int.tmod (mixR [s, i]).1 6
theorem die_lim (s i : Int) : 1 ≤ die s i ∧ die s i ≤ 6 := by
  have h := mixR_lim [s, i] (by simp)
  unfold die
  have h1 := Int.tmod_nonneg 6 h.1
  have h2 := Int.tmod_lt_of_pos (mixR [s, i]).1 (show 0 < (6 : Int) by decide)
  omega
theorem eDieAt (s i : Int) : Di_dieAt s i = some (die s i) := by
  have := die_lim s i
  unfold die at this
  unfold Di_dieAt die
  rw [eMixParts _ (by simp)]
  simp only [Option.bind_some]
  rw [w64 (by omega)]
theorem eDDie (s i : Int) : Ds_dDie s i = some (die s i) := by
  have := die_lim s i
  unfold die at this
  unfold Ds_dDie die
  rw [eDMix _ (by simp)]
  simp only [Option.bind_some]
  rw [w64 (by omega)]

def diceL (s i : Int) (n : Nat) : List Int := (List.range n).map fun k : Nat => die s (i + k)
theorem diceL_succ (s i : Int) (n : Nat) : diceL s i (n + 1) = diceL s i n ++ [die s (i + n)] := by
  simp [diceL, List.range_succ]
theorem diceL_len (s i : Int) (n : Nat) : (diceL s i n).length = n := by simp [diceL]
def diceOk (s i n : Int) : Bool := inr3 s 0 4611686016279904236 && inr3 i 0 1000000 && inr3 n 0 8 && decide (i + n ≤ 1000001)
def diceR (s i n : Int) : List Int × Bool := if diceOk s i n = true then (diceL s i n.toNat, true) else ([], false)

theorem eIDiceFrom (s i n : Int) : Di_DiceFrom s i n = some (diceR s i n) := by
  unfold Di_DiceFrom diceR diceOk
  rw [th33, ePlace, th38]
  simp only [Option.bind_some]
  by_cases h1 : inr3 s 0 4611686016279904236 = true
  · by_cases h2 : inr3 i 0 1000000 = true
    · by_cases h3 : inr3 n 0 8 = true
      · have hi := inr3_iff.1 h2
        have hn := inr3_iff.1 h3
        rw [if_pos h1, if_pos h2, if_pos h3, w64 (by omega)]
        by_cases h4 : i + n ≤ 1000001
        · rw [if_neg (by omega), if_pos (by simp [h1, h2, h3, h4])]
          have key : ∀ (m k : Nat), k + m = n.toNat → loop Bi_DiceFrom (.h1 s i n (k : Int) (diceL s i k)) = some (diceL s i n.toNat, true) := by
            intro m
            induction m with
            | zero =>
              intro k h
              rw [loop_eq]
              simp only [Bi_DiceFrom]
              rw [if_neg (by omega), show n.toNat = k by omega]
              rfl
            | succ m ih =>
              intro k h
              rw [loop_eq]
              simp only [Bi_DiceFrom]
              rw [if_pos (by omega), w64 (n := i + k) (by omega), eDieAt]
              simp only [Option.bind_some]
              rw [if_pos (by simp [diceL_len]; omega), wsucc (by omega), ← diceL_succ]
              exact ih (k + 1) (by omega)
          exact key n.toNat 0 (by omega)
        · rw [if_pos (by omega), if_neg (by simp [h4])]
      · simp [h1, h2, h3]
    · simp [h1, h2]
  · simp [h1]
theorem eSDiceFrom (s i n : Int) : Ds_DiceFrom s i n = some (diceR s i n) := by
  unfold Ds_DiceFrom diceR diceOk
  rw [eAsked, th51]
  simp only [Option.bind_some]
  by_cases h1 : inr3 s 0 4611686016279904236 = true
  · by_cases h2 : inr3 i 0 1000000 = true
    · by_cases h3 : inr3 n 0 8 = true
      · have hi := inr3_iff.1 h2
        have hn := inr3_iff.1 h3
        rw [if_pos (by simp [h1, h2]), if_pos h3, w64 (by omega)]
        by_cases h4 : i + n ≤ 1000001
        · rw [if_neg (by omega), if_pos (by simp [h1, h2, h3, h4])]
          have key : ∀ (m k : Nat), k + m = n.toNat → loop Bs_DiceFrom (.h1 s i n (k : Int) (diceL s i k)) = some (diceL s i n.toNat, true) := by
            intro m
            induction m with
            | zero =>
              intro k h
              rw [loop_eq]
              simp only [Bs_DiceFrom]
              rw [if_neg (by omega), show n.toNat = k by omega]
              rfl
            | succ m ih =>
              intro k h
              rw [loop_eq]
              simp only [Bs_DiceFrom]
              rw [if_pos (by omega), w64 (n := i + k) (by omega), eDDie]
              simp only [Option.bind_some]
              rw [if_pos (by simp [diceL_len]; omega), wsucc (by omega), ← diceL_succ]
              exact ih (k + 1) (by omega)
          exact key n.toNat 0 (by omega)
        · rw [if_pos (by omega), if_neg (by simp [h4])]
      · simp [h1, h2, h3]
    · simp [h1, h2]
  · simp [h1]
theorem diceR_len (s i n : Int) : (diceR s i n).1.length ≤ 8 := by
  unfold diceR
  split
  · rename_i h
    simp only [diceOk, Bool.and_eq_true, inr3_iff] at h
    simp only [diceL_len]
    omega
  · simp

theorem eSameInts (l : List Int) (hl : l.length ≤ 1048577) : Dw_sameInts l l = some true := by
  unfold Dw_sameInts
  rw [if_pos rfl]
  refine true_loop (S := fun i => Sw_sameInts.h1 l l (l.length : Int) (i : Int)) (n := l.length) (fun i hi => ?_) ?_
  · simp [Bw_sameInts, hi, wsucc (show i < 9223372036854775807 by omega)]
  · simp [Bw_sameInts]

def dieR (s i : Int) : Int × Bool := if (inr3 s 0 4611686016279904236 && inr3 i 0 1000000) = true then (die s i, true) else (0, false)
theorem eIDieAt (s i : Int) : Di_DieAt s i = some (dieR s i) := by
  unfold Di_DieAt dieR
  rw [th33, ePlace, eDieAt]
  simp only [Option.bind_some]
  cases inr3 s 0 4611686016279904236 <;> cases inr3 i 0 1000000 <;> rfl

def below (s k n : Int) : Int := Int.tmod (mixR [s, k, n]).1 n
theorem below_lim (s k n : Int) (h : 1 ≤ n) : 0 ≤ below s k n ∧ below s k n < n := by
  have hm := mixR_lim [s, k, n] (by simp)
  exact ⟨Int.tmod_nonneg n hm.1, Int.tmod_lt_of_pos _ (by omega)⟩
theorem eIBelow (s k n : Int) (h : 1 ≤ n) : Di_numberBelow s k n = some (below s k n) := by
  unfold Di_numberBelow
  rw [eMixParts _ (by simp)]
  simp only [Option.bind_some]
  rw [if_pos (by omega)]
  rfl
theorem eSBelow (s k n : Int) (h : 1 ≤ n) : Ds_dBelow s k n = some (below s k n) := by
  unfold Ds_dBelow
  rw [eDMix _ (by simp)]
  simp only [Option.bind_some]
  rw [if_pos (by omega)]
  rfl
def belowR (s k n : Int) : Int × Bool := if (inr3 s 0 4611686016279904236 && inr3 k 0 1000000 && inr3 n 1 1000000) = true then (below s k n, true) else (0, false)
theorem eINumberBelow (s k n : Int) : Di_NumberBelow s k n = some (belowR s k n) := by
  unfold Di_NumberBelow belowR
  rw [th33, ePlace, th38]
  simp only [Option.bind_some]
  by_cases h3 : inr3 n 1 1000000 = true
  · rw [eIBelow s k n (inr3_iff.1 h3).1, h3]
    cases inr3 s 0 4611686016279904236 <;> cases inr3 k 0 1000000 <;> rfl
  · simp [h3]
theorem eSNumberBelow (s k n : Int) : Ds_NumberBelow s k n = some (belowR s k n) := by
  unfold Ds_NumberBelow belowR
  rw [eAsked, th51]
  simp only [Option.bind_some]
  by_cases h3 : inr3 n 1 1000000 = true
  · rw [eSBelow s k n (inr3_iff.1 h3).1, h3]
    cases inr3 s 0 4611686016279904236 <;> cases inr3 k 0 1000000 <;> rfl
  · simp [h3]

def swp (l : List Int) (a b : Nat) : List Int := match l[a]?, l[b]? with
  | some x, some y => (l.set a y).set b x
  | _, _ => l
def shf (s : Int) : Nat → List Int → List Int
  | 0, l => l
  | k + 1, l => shf s k (swp l (k + 1) (below s ((k + 1 : Nat) : Int) ((k + 2 : Nat) : Int)).toNat)
theorem swp_perm (l : List Int) (a b : Nat) : (swp l a b).Perm l := by
  unfold swp
  split
  · rename_i x y hx hy
    obtain ⟨ha, rfl⟩ := List.getElem?_eq_some_iff.1 hx
    obtain ⟨hb, rfl⟩ := List.getElem?_eq_some_iff.1 hy
    exact List.set_set_perm ha hb
  · exact .refl _
theorem swp_eq {l : List Int} {a b : Nat} {x y : Int} (hx : l[a]? = some x) (hy : l[b]? = some y) : (l.set a y).set b x = swp l a b := by unfold swp; rw [hx, hy]
theorem get_set {l : List Int} {a b : Nat} {x y : Int} (hy : l[b]? = some y) : ∃ z, (l.set a x)[b]? = some z := ⟨_, List.getElem?_eq_getElem (by rw [List.length_set]; exact (List.getElem?_eq_some_iff.1 hy).1)⟩
theorem shf_perm (s : Int) : ∀ k l, (shf s k l).Perm l
  | 0, l => .refl _
  | k + 1, l => (shf_perm s k _).trans (swp_perm l _ _)
def upto (n : Nat) : List Int := (List.range n).map fun i : Nat => (i : Int)
def shufR (s n : Int) : List Int × Bool := if (inr3 s 0 4611686016279904236 && inr3 n 0 40) = true then (shf s (n.toNat - 1) (upto n.toNat), true) else ([], false)
theorem upto_succ (n : Nat) : upto (n + 1) = upto n ++ [(n : Int)] := by simp [upto, List.range_succ]
theorem upto_len (n : Nat) : (upto n).length = n := by simp [upto]

theorem eShufI (s : Int) : ∀ (k : Nat) (l : List Int), k < l.length ∨ k = 0 → l.length ≤ 40 → loop Bi_ShuffleBy (.h2 s (k : Int) l) = some (shf s k l, true) := by
  intro k
  induction k with
  | zero =>
    intro l h hl
    rw [loop_eq]
    simp only [Bi_ShuffleBy]
    rw [if_neg (by omega)]
    rfl
  | succ k ih =>
    intro l h hl
    have hb := below_lim s ((k + 1 : Nat) : Int) ((k + 2 : Nat) : Int) (by omega)
    have h1 : k + 1 < l.length := by omega
    have h2 : (below s ((k + 1 : Nat) : Int) ((k + 2 : Nat) : Int)).toNat < l.length := by omega
    have g1 := List.getElem?_eq_getElem h1
    have g2 := List.getElem?_eq_getElem h2
    obtain ⟨z, g3⟩ := get_set (a := k + 1) (x := l[(below s ((k + 1 : Nat) : Int) ((k + 2 : Nat) : Int)).toNat]) g2
    have hp := (swp_perm l (k + 1) (below s ((k + 1 : Nat) : Int) ((k + 2 : Nat) : Int)).toNat).length_eq
    have e := swp_eq g1 g2
    rw [loop_eq]
    simp only [Bi_ShuffleBy]
    rw [if_pos (by omega), wsucc (by omega), show ((k + 1 + 1 : Nat) : Int) = ((k + 2 : Nat) : Int) from rfl, eIBelow _ _ _ (by omega)]
    simp only [Option.bind_some]
    rw [if_pos (by omega), Int.toNat_natCast, g1]
    simp only [Option.bind_some]
    rw [if_pos hb.1, g2]
    simp only [Option.bind_some]
    rw [if_pos (by omega), if_pos hb.1, g3]
    simp only [Option.bind_some, goOn]
    rw [w64 (by omega), show ((k + 1 : Nat) : Int) - 1 = (k : Int) by omega, e]
    exact ih _ (by omega) (by omega)
theorem eShufS (s : Int) : ∀ (k : Nat) (l : List Int), k < l.length ∨ k = 0 → l.length ≤ 40 → loop Bs_dShuffle (.h2 s (k : Int) l) = some (shf s k l) := by
  intro k
  induction k with
  | zero =>
    intro l h hl
    rw [loop_eq]
    simp only [Bs_dShuffle]
    rw [if_neg (by omega)]
    rfl
  | succ k ih =>
    intro l h hl
    have hb := below_lim s ((k + 1 : Nat) : Int) ((k + 2 : Nat) : Int) (by omega)
    have h1 : k + 1 < l.length := by omega
    have h2 : (below s ((k + 1 : Nat) : Int) ((k + 2 : Nat) : Int)).toNat < l.length := by omega
    have g1 := List.getElem?_eq_getElem h1
    have g2 := List.getElem?_eq_getElem h2
    obtain ⟨z, g3⟩ := get_set (a := k + 1) (x := l[(below s ((k + 1 : Nat) : Int) ((k + 2 : Nat) : Int)).toNat]) g2
    have hp := (swp_perm l (k + 1) (below s ((k + 1 : Nat) : Int) ((k + 2 : Nat) : Int)).toNat).length_eq
    have e := swp_eq g1 g2
    rw [loop_eq]
    simp only [Bs_dShuffle]
    rw [if_pos (by omega), wsucc (by omega), show ((k + 1 + 1 : Nat) : Int) = ((k + 2 : Nat) : Int) from rfl, eSBelow _ _ _ (by omega)]
    simp only [Option.bind_some]
    rw [if_pos (by omega), Int.toNat_natCast, g1]
    simp only [Option.bind_some]
    rw [if_pos hb.1, g2]
    simp only [Option.bind_some]
    rw [if_pos (by omega), if_pos hb.1, g3]
    simp only [Option.bind_some, goOn]
    rw [w64 (by omega), show ((k + 1 : Nat) : Int) - 1 = (k : Int) by omega, e]
    exact ih _ (by omega) (by omega)

theorem shf_neg (s : Int) : loop Bi_ShuffleBy (.h2 s (-1) []) = some ([], true) ∧ loop Bs_dShuffle (.h2 s (-1) []) = some [] := by
  constructor
  · rw [loop_eq]; simp only [Bi_ShuffleBy]; rw [if_neg (by decide)]; rfl
  · rw [loop_eq]; simp only [Bs_dShuffle]; rw [if_neg (by decide)]; rfl

theorem eIShuffleBy (s n : Int) : Di_ShuffleBy s n = some (shufR s n) := by
  unfold Di_ShuffleBy shufR
  rw [th33, th38]
  simp only [Option.bind_some]
  by_cases h1 : inr3 s 0 4611686016279904236 = true
  · by_cases h2 : inr3 n 0 40 = true
    · have hn := inr3_iff.1 h2
      rw [if_pos h1, if_pos h2, if_pos (by simp [h1, h2])]
      have key : ∀ (m k : Nat), k + m = n.toNat → loop Bi_ShuffleBy (.h1 s n n (k : Int) (upto k)) = some (shf s (n.toNat - 1) (upto n.toNat), true) := by
        intro m
        induction m with
        | zero =>
          intro k h
          rw [loop_eq]
          simp only [Bi_ShuffleBy]
          rw [if_neg (by omega), w64 (by omega)]
          simp only [goOn]
          have hk : k = n.toNat := by omega
          subst hk
          by_cases h0 : n = 0
          · subst h0
            exact (shf_neg s).1
          · rw [show n - 1 = ((n.toNat - 1 : Nat) : Int) by omega]
            exact eShufI s _ _ (by rw [upto_len]; omega) (by rw [upto_len]; omega)
        | succ m ih =>
          intro k h
          rw [loop_eq]
          simp only [Bi_ShuffleBy]
          rw [if_pos (by omega), if_pos (by simp [upto_len]; omega), wsucc (by omega), ← upto_succ]
          exact ih (k + 1) (by omega)
      exact key n.toNat 0 (by omega)
    · simp [h1, h2]
  · simp [h1]
theorem eSShuffleBy (s n : Int) : Ds_ShuffleBy s n = some (shufR s n) := by
  unfold Ds_ShuffleBy shufR
  rw [th48, th51]
  simp only [Option.bind_some]
  by_cases h1 : inr3 s 0 4611686016279904236 = true
  · by_cases h2 : inr3 n 0 40 = true
    · have hn := inr3_iff.1 h2
      rw [if_pos h1, if_pos h2, if_pos (by simp [h1, h2])]
      have key : ∀ (m k : Nat), k + m = n.toNat → loop Bs_dShuffle (.h1 s n (k : Int) (upto k)) = some (shf s (n.toNat - 1) (upto n.toNat)) := by
        intro m
        induction m with
        | zero =>
          intro k h
          rw [loop_eq]
          simp only [Bs_dShuffle]
          rw [if_neg (by omega), w64 (by omega)]
          simp only [goOn]
          have hk : k = n.toNat := by omega
          subst hk
          by_cases h0 : n = 0
          · subst h0
            exact (shf_neg s).2
          · rw [show n - 1 = ((n.toNat - 1 : Nat) : Int) by omega]
            exact eShufS s _ _ (by rw [upto_len]; omega) (by rw [upto_len]; omega)
        | succ m ih =>
          intro k h
          rw [loop_eq]
          simp only [Bs_dShuffle]
          rw [if_pos (by omega), if_pos (by simp [upto_len]; omega), wsucc (by omega), ← upto_succ]
          exact ih (k + 1) (by omega)
      unfold Ds_dShuffle
      have := key n.toNat 0 (by omega)
      rw [show ((0 : Nat) : Int) = 0 from rfl, show upto 0 = [] from rfl] at this
      rw [this]
      rfl
    · simp [h1, h2]
  · simp [h1]

theorem shufR_ok (s n : Int) : (shufR s n).1.length ≤ 40 ∧ (shufR s n).1.Nodup ∧ ∀ x ∈ (shufR s n).1, 0 ≤ x ∧ x < (shufR s n).1.length := by
  unfold shufR
  split
  · rename_i h
    simp only [Bool.and_eq_true, inr3_iff] at h
    have hp := shf_perm s (n.toNat - 1) (upto n.toNat)
    have hl := hp.length_eq
    rw [upto_len] at hl
    refine ⟨by simp only; omega, ?_, fun x hx => ?_⟩
    · simp only
      rw [hp.nodup_iff]
      unfold upto
      exact List.pairwise_map.2 (List.nodup_range.imp fun h e => h (by omega))
    · simp only at hx ⊢
      have := hp.mem_iff.1 hx
      simp only [upto, List.mem_map, List.mem_range] at this
      obtain ⟨a, ha, rfl⟩ := this
      omega
  · simp

def incAt (l : List Int) (j : Nat) : List Int := match l[j]? with
  | some x => l.set j (x + 1)
  | none => l
def fcs (s : Int) : Nat → Nat → List Int → List Int
  | 0, _, l => l
  | m + 1, k, l => fcs s m (k + 1) (incAt l (die s k - 1).toNat)
def facesR (s n : Int) : List Int × Bool := if (inr3 s 0 4611686016279904236 && inr3 n 0 600) = true then (fcs s n.toNat 0 (List.replicate 6 0), true) else ([], false)
structure FcI (l : List Int) (k : Nat) : Prop where
  hlen : l.length = 6
  hsum : l.sum = k
  hnn : ∀ x ∈ l, 0 ≤ x

theorem sum_set : ∀ (l : List Int) (j : Nat) (x : Int), l[j]? = some x → (l.set j (x + 1)).sum = l.sum + 1
  | [], j, x, h => by simp at h
  | a :: l, 0, x, h => by simp at h; subst h; simp; omega
  | a :: l, j + 1, x, h => by
    simp at h
    have := sum_set l j x (by simpa using h)
    simp [this]
    omega
theorem sum_ge : ∀ (l : List Int), (∀ x ∈ l, 0 ≤ x) → 0 ≤ l.sum ∧ ∀ x ∈ l, x ≤ l.sum
  | [], h => by simp
  | a :: l, h => by
    obtain ⟨h1, h2⟩ := sum_ge l fun x hx => h x (List.mem_cons_of_mem _ hx)
    have ha := h a (List.mem_cons_self ..)
    simp only [List.sum_cons]
    refine ⟨by omega, fun x hx => ?_⟩
    rcases List.mem_cons.1 hx with rfl | hx
    · omega
    · have := h2 x hx; omega
theorem FcI.step {l : List Int} {k : Nat} (h : FcI l k) (s i : Int) : ∃ x, l[(die s i - 1).toNat]? = some x ∧ incAt l (die s i - 1).toNat = l.set (die s i - 1).toNat (x + 1) ∧ 0 ≤ x ∧ x ≤ k ∧ FcI (incAt l (die s i - 1).toNat) (k + 1) := by
  have hd := die_lim s i
  have hlt : (die s i - 1).toNat < l.length := by rw [h.hlen]; omega
  have hx := List.getElem?_eq_getElem hlt
  have hm := List.mem_of_getElem? hx
  have e : incAt l (die s i - 1).toNat = l.set (die s i - 1).toNat (l[(die s i - 1).toNat] + 1) := by unfold incAt; rw [hx]
  have hs := (sum_ge l h.hnn).2 _ hm
  refine ⟨_, hx, e, h.hnn _ hm, by rw [h.hsum] at hs; exact hs, ?_⟩
  rw [e]
  refine ⟨by simpa using h.hlen, by rw [sum_set l _ _ hx, h.hsum]; omega, fun y hy => ?_⟩
  rcases List.mem_or_eq_of_mem_set hy with hy | rfl
  · exact h.hnn y hy
  · have := h.hnn _ hm; omega
theorem fcs_I (s : Int) : ∀ m k l, FcI l k → FcI (fcs s m k l) (k + m)
  | 0, k, l, h => h
  | m + 1, k, l, h => by
    obtain ⟨x, _, _, _, _, h'⟩ := h.step s k
    have := fcs_I s m (k + 1) _ h'
    rw [show k + (m + 1) = k + 1 + m by omega]
    exact this
theorem fc0 : FcI (List.replicate 6 0) 0 := ⟨rfl, rfl, fun x hx => by rw [List.eq_of_mem_replicate hx]; exact Int.le_refl _⟩

theorem eIFacesOf (s n : Int) : Di_FacesOf s n = some (facesR s n) := by
  unfold Di_FacesOf facesR
  rw [th33, th38]
  simp only [Option.bind_some]
  by_cases h1 : inr3 s 0 4611686016279904236 = true
  · by_cases h2 : inr3 n 0 600 = true
    · have hn := inr3_iff.1 h2
      rw [if_pos h1, if_pos h2, if_pos (by decide), if_pos (by simp [h1, h2])]
      have key : ∀ (m k : Nat) (l : List Int), k + m = n.toNat → FcI l k → loop Bi_FacesOf (.h1 s n (k : Int) l) = some (fcs s m k l, true) := by
        intro m
        induction m with
        | zero =>
          intro k l h hI
          rw [loop_eq]
          simp only [Bi_FacesOf]
          rw [if_neg (by omega)]
          rfl
        | succ m ih =>
          intro k l h hI
          have hd := die_lim s k
          obtain ⟨x, hx, he, h0, hk, hI'⟩ := hI.step s k
          rw [loop_eq]
          simp only [Bi_FacesOf]
          rw [if_pos (by omega), eDieAt]
          simp only [Option.bind_some]
          rw [w64 (n := die s k - 1) (by omega), if_pos (by omega), hx]
          simp only [Option.bind_some]
          rw [if_pos (by omega), wsucc (by omega), w64 (n := x + 1) (by omega), ← he]
          exact ih (k + 1) _ (by omega) hI'
      exact key n.toNat 0 _ (by omega) fc0
    · simp [h1, h2]
  · simp [h1]
theorem eSFacesOf (s n : Int) : Ds_FacesOf s n = some (facesR s n) := by
  unfold Ds_FacesOf facesR
  rw [th48, th51]
  simp only [Option.bind_some]
  by_cases h1 : inr3 s 0 4611686016279904236 = true
  · by_cases h2 : inr3 n 0 600 = true
    · have hn := inr3_iff.1 h2
      rw [if_pos h1, if_pos h2, if_pos (by decide), if_pos (by simp [h1, h2])]
      have key : ∀ (m k : Nat) (l : List Int), k + m = n.toNat → FcI l k → loop Bs_FacesOf (.h1 s n (k : Int) l) = some (fcs s m k l, true) := by
        intro m
        induction m with
        | zero =>
          intro k l h hI
          rw [loop_eq]
          simp only [Bs_FacesOf]
          rw [if_neg (by omega)]
          rfl
        | succ m ih =>
          intro k l h hI
          have hd := die_lim s k
          obtain ⟨x, hx, he, h0, hk, hI'⟩ := hI.step s k
          rw [loop_eq]
          simp only [Bs_FacesOf]
          rw [if_pos (by omega), eDDie]
          simp only [Option.bind_some]
          rw [w64 (n := die s k - 1) (by omega), if_pos (by omega), hx]
          simp only [Option.bind_some]
          rw [if_pos (by omega), wsucc (by omega), w64 (n := x + 1) (by omega), ← he]
          exact ih (k + 1) _ (by omega) hI'
      exact key n.toNat 0 _ (by omega) fc0
    · simp [h1, h2]
  · simp [h1]


theorem ePSum (l : List Int) (h : ∀ x ∈ l, 0 ≤ x) (hs : l.sum ≤ 1099511627776) (hl : l.length ≤ 1048577) : Dw_pSum l = some l.sum := by
  unfold Dw_pSum
  have key : ∀ (k i : Nat), i + k = l.length → loop Bw_pSum (.h1 (l.take i).sum l (l.length : Int) (i : Int)) = some l.sum := by
    intro k
    induction k with
    | zero =>
      intro i hi
      rw [loop_eq]
      simp only [Bw_pSum]
      rw [if_neg (by omega), List.take_of_length_le (by omega)]
      rfl
    | succ k ih =>
      intro i hi
      have hlt : i < l.length := by omega
      have hx := List.getElem?_eq_getElem hlt
      have e : (l.take (i + 1)).sum = (l.take i).sum + l[i] := by
        rw [List.take_add_one, hx, List.sum_append]
        simp
      have a1 := (sum_ge (l.take i) fun x hx => h x (List.mem_of_mem_take hx)).1
      have a2 := h _ (List.mem_of_getElem? hx)
      have a3 : (l.take (i + 1)).sum + (l.drop (i + 1)).sum = l.sum := by rw [← List.sum_append, List.take_append_drop]
      have a4 := (sum_ge (l.drop (i + 1)) fun x hx => h x (List.mem_of_mem_drop hx)).1
      rw [loop_eq]
      simp only [Bw_pSum]
      rw [if_pos (by omega), if_pos (by omega), Int.toNat_natCast, hx]
      simp only [Option.bind_some]
      rw [w64 (by omega), wsucc (by omega), ← e]
      exact ih (i + 1) (by omega)
  exact key l.length 0 (by omega)

theorem facesR_ok (s n : Int) : (facesR s n).1.length ≤ 6 ∧ ((facesR s n).2 = true → (∀ x ∈ (facesR s n).1, 0 ≤ x) ∧ (facesR s n).1.sum = n ∧ n ≤ 600) := by
  unfold facesR
  split
  · rename_i h
    simp only [Bool.and_eq_true, inr3_iff] at h
    have hI := fcs_I s n.toNat 0 _ fc0
    simp only [Nat.zero_add] at hI
    refine ⟨Nat.le_of_eq hI.hlen, fun _ => ⟨hI.hnn, ?_, by omega⟩⟩
    rw [hI.hsum]
    omega
  · simp

theorem belowR_ok (s k n : Int) : (belowR s k n).2 = true → 0 ≤ (belowR s k n).1 ∧ (belowR s k n).1 < n := by
  unfold belowR
  split
  · rename_i h
    simp only [Bool.and_eq_true, inr3_iff] at h
    intro _
    simp only
    exact below_lim s k n h.2.1
  · intro h; exact absurd h (by decide)

/-- The law's last part. -/
theorem dice3 {more : List Int} (h : ∀ x ∈ more, 0 ≤ x ∧ x < 256) (hl : more.length ≤ 1048576) {t1 t2 : Int} (ht : ¬ t2 < t1) (l3 : List Int) (l4 : List Bool) : loop Bw_FnDice (.h2 more t1 t2 l3 l4) = some true := by
  obtain ⟨⟨s, k, n⟩, e1⟩ := drawNumberBelow h hl
  obtain ⟨⟨f, c⟩, e2⟩ := drawFacesOf h hl
  have hb := belowR_ok s k n
  obtain ⟨hf, hf'⟩ := facesR_ok f c
  rw [loop_eq]
  simp only [Bw_FnDice]
  rw [if_neg ht, e1, e2]
  simp only [Option.bind_some, eINumberBelow, eSNumberBelow, eIFacesOf, eSFacesOf, eSameInts _ (show (facesR f c).1.length ≤ 1048577 by omega)]
  by_cases h1 : (belowR s k n).2 = true
  · by_cases h2 : (facesR f c).2 = true
    · obtain ⟨f1, f2, f3⟩ := hf' h2
      have hp := ePSum _ f1 (by omega) (show (facesR f c).1.length ≤ 1048577 by omega)
      have hb' := hb h1
      simp [h1, h2, hp, hb', f2, goOn]
    · have hb' := hb h1
      simp [h1, h2, hb', goOn]
  · by_cases h2 : (facesR f c).2 = true
    · obtain ⟨f1, f2, f3⟩ := hf' h2
      have hp := ePSum _ f1 (by omega) (show (facesR f c).1.length ≤ 1048577 by omega)
      simp [h1, h2, hp, f2, goOn]
    · simp [h1, h2, goOn]

theorem dice2 {more : List Int} (h : ∀ x ∈ more, 0 ≤ x ∧ x < 256) (hl : more.length ≤ 1048576) (l : List Int) (h40 : l.length ≤ 40) (hnd : l.Nodup) (hb : ∀ x ∈ l, 0 ≤ x ∧ x < l.length) : ∀ (k i : Nat) (seen : List Bool), i + k = l.length → seen.length = l.length → (∀ j : Nat, j < l.length → seen[j]? = some (decide ((j : Int) ∈ l.take i))) → loop Bw_FnDice (.h2 more (l.length : Int) (i : Int) l seen) = some true := by
  intro k
  induction k with
  | zero => intro i seen hi hs hj; exact dice3 h hl (by omega) _ _
  | succ k ih =>
    intro i seen hi hs hj
    have hlt : i < l.length := by omega
    have hx := List.getElem?_eq_getElem hlt
    have hm := hb _ (List.mem_of_getElem? hx)
    have hn : ¬ l[i] ∈ l.take i := fun hmem => by
      obtain ⟨j, hj1, hj2⟩ := List.getElem_of_mem hmem
      simp only [List.length_take] at hj1
      rw [List.getElem_take] at hj2
      exact absurd ((List.getElem_inj hnd).1 hj2) (by omega)
    have hsn := hj l[i].toNat (by omega)
    rw [show ((l[i].toNat : Nat) : Int) = l[i] by omega, decide_eq_false hn] at hsn
    rw [loop_eq]
    simp only [Bw_FnDice]
    rw [if_pos (by omega), if_pos (by omega), Int.toNat_natCast, hx]
    simp only [Option.bind_some]
    rw [if_neg (by omega), if_neg (by omega), if_pos hm.1, hsn]
    simp only [Option.bind_some]
    rw [if_neg (by decide), if_pos hm.1]
    simp only [goOn]
    rw [wsucc (by omega)]
    refine ih (i + 1) _ (by omega) (by simpa using hs) fun j hjl => ?_
    have hmem : ((j : Int) ∈ l.take (i + 1)) ↔ (j : Int) ∈ l.take i ∨ (j : Int) = l[i] := by
      rw [List.take_add_one, hx]
      simp only [List.mem_append, Option.toList_some, List.mem_singleton]
    rw [List.getElem?_set]
    by_cases e : l[i].toNat = j
    · rw [if_pos e, if_pos (by omega), decide_eq_true (hmem.2 (.inr (by omega)))]
    · rw [if_neg e, hj j hjl]
      have : ¬ (j : Int) = l[i] := by omega
      congr 1
      by_cases hc : (j : Int) ∈ l.take i
      · rw [decide_eq_true hc, decide_eq_true (hmem.2 (.inl hc))]
      · rw [decide_eq_false hc, decide_eq_false fun h => (hmem.1 h).elim hc this]

theorem dice1 {more : List Int} (h : ∀ x ∈ more, 0 ≤ x ∧ x < 256) (hl : more.length ≤ 1048576) (s i0 n : Int) : ∀ (k i : Nat), i + k = (diceR s i0 n).1.length → loop Bw_FnDice (.h1 more s i0 ((diceR s i0 n).1.length : Int) (i : Int) (diceR s i0 n).1) = some true := by
  have hlen := diceR_len s i0 n
  intro k
  induction k with
  | zero =>
    intro i hi
    obtain ⟨⟨a, b⟩, e1⟩ := drawShuffleBy h hl
    obtain ⟨s1, s2, s3⟩ := shufR_ok a b
    rw [loop_eq]
    simp only [Bw_FnDice]
    rw [if_neg (by omega), e1]
    simp only [Option.bind_some, eIShuffleBy, eSShuffleBy, eSameInts _ (show (shufR a b).1.length ≤ 1048577 by omega)]
    simp only [BEq.rfl, Bool.not_true, Bool.false_eq_true, if_false, if_true]
    rw [if_pos (by omega)]
    simp only [goOn]
    refine dice2 h hl _ s1 s2 s3 (shufR a b).1.length 0 _ (by omega) (by simp) fun j hj => ?_
    simp [hj]
  | succ k ih =>
    intro i hi
    have hlt : i < (diceR s i0 n).1.length := by omega
    have hok : diceOk s i0 n = true := by
      by_cases hok : diceOk s i0 n = true
      · exact hok
      · unfold diceR at hlt
        rw [if_neg hok] at hlt
        simp at hlt
    have e : diceR s i0 n = (diceL s i0 n.toNat, true) := by unfold diceR; rw [if_pos hok]
    have hx : (diceR s i0 n).1[i]? = some (die s (i0 + i)) := by
      rw [e] at hlt ⊢
      simp only [diceL_len] at hlt
      simp [diceL, hlt]
    have hd := die_lim s (i0 + i)
    simp only [diceOk, Bool.and_eq_true, inr3_iff, decide_eq_true_eq] at hok
    have hlt' : (i : Int) < n := by
      rw [e] at hlt
      simp only [diceL_len] at hlt
      omega
    have hdr : dieR s (i0 + i) = (die s (i0 + i), true) := by
      unfold dieR
      rw [if_pos]
      simp only [Bool.and_eq_true, inr3_iff]
      omega
    rw [loop_eq]
    simp only [Bw_FnDice]
    rw [if_pos (by omega), if_pos (by omega), Int.toNat_natCast, hx, w64 (n := i0 + i) (by omega), eIDieAt, hdr]
    simp only [Option.bind_some]
    rw [if_pos trivial, if_pos trivial, if_neg (by omega), if_neg (by omega), wsucc (by omega)]
    exact ih (i + 1) (by omega)

theorem eBig (a b : List Int) (ha : a.length < 9223372036854775808) (hb : b.length < 9223372036854775808) : Dw_big a b = some (decide (1048576 < a.length + b.length)) := by
  unfold Dw_big
  by_cases h : (a.length : Int) > 1048576
  · rw [if_pos h, decide_eq_true (by omega)]
  · rw [if_neg h, w64 (by omega)]
    congr 1
    by_cases h2 : 1048576 < a.length + b.length
    · rw [decide_eq_true h2]; exact decide_eq_true (by omega)
    · rw [decide_eq_false h2]; exact decide_eq_false (by omega)

theorem lawDice (code more : List Int) (hc : code.length < 9223372036854775808) (hm : more.length < 9223372036854775808) (h1 : ∀ x ∈ code, 0 ≤ x ∧ x < 256) (h2 : ∀ x ∈ more, 0 ≤ x ∧ x < 256) : Dw_FnDice code more = some true := by
  unfold Dw_FnDice
  rw [eBig code more hc hm]
  simp only [Option.bind_some]
  by_cases h : 1048576 < code.length + more.length
  · simp [h]
  · obtain ⟨⟨s, i, n⟩, e⟩ := drawDiceFrom h1 (by omega)
    have hl := diceR_len s i n
    rw [if_neg (by simpa using h), e]
    simp only [Option.bind_some, eIDiceFrom, eSDiceFrom, eSameInts _ (show (diceR s i n).1.length ≤ 1048577 by omega)]
    simp only [BEq.rfl, Bool.not_true, Bool.false_eq_true, if_false, if_true]
    exact dice1 h2 (by omega) s i n (diceR s i n).1.length 0 (by omega)


end Go.Proofs.Ytlniejjcejackaa.Ab
