/- Part of the proof of FnSums: no condition of its own. -/
import Derived.Test.YtlniejjcejackaaB1FnSumsD
import Derived.Test.YtlniejjcejackaaPuA
set_option linter.unusedVariables false
set_option linter.unusedSimpArgs false
open Go
namespace Go.Proofs.Ytlniejjcejackaa.Ab
def inr3 (n a b : Int) : Bool := decide (a ≤ n) && decide (n ≤ b)
theorem th51 (n a b : Int) : Ds_l1In n a b = some (inr3 n a b) := by
  unfold Ds_l1In inr3; by_cases h : a ≤ n <;> simp [h]
theorem th38 (n a b : Int) : Di_inRange n a b = some (inr3 n a b) := by
  unfold Di_inRange inr3; by_cases h : a ≤ n <;> simp [h]
theorem th48 (n : Int) : Ds_dSeed n = some (inr3 n 0 4611686016279904236) := by simp [Ds_dSeed, th51]
theorem th33 (n : Int) : Di_isSeed n = some (inr3 n 0 4611686016279904236) := by simp [Di_isSeed, th38]
structure Cu (c : Gs_l1Cur) (k : Int) : Prop where
  at0 : 0 ≤ c.at_
  atk : c.at_ ≤ k
  kk : k ≤ 1099511627776
  code : ∀ x ∈ c.code, 0 ≤ x ∧ x < 256
  len : c.code.length ≤ 1048576

theorem Cu.mono {c : Gs_l1Cur} {k k' : Int} (h : Cu c k) (hk : k ≤ k') (hb : k' ≤ 1099511627776) : Cu c k' := ⟨h.at0, by have := h.atk; omega, hb, h.code, h.len⟩

theorem and255 (x : Int) : 0 ≤ IntKind.wrap .i64 (IntKind.wrap .u64 ((BitVec.toNat (BitVec.ofInt (IntKind.bits .u64) x &&& BitVec.ofInt (IntKind.bits .u64) 255) : Nat) : Int)) ∧ IntKind.wrap .i64 (IntKind.wrap .u64 ((BitVec.toNat (BitVec.ofInt (IntKind.bits .u64) x &&& BitVec.ofInt (IntKind.bits .u64) 255) : Nat) : Int)) < 256 := by
  have h : (BitVec.ofInt (IntKind.bits .u64) x &&& BitVec.ofInt (IntKind.bits .u64) 255).toNat ≤ 255 := by
    rw [BitVec.toNat_and]
    have e : (BitVec.ofInt (IntKind.bits .u64) 255).toNat = 255 := by decide
    rw [e]
    exact Nat.and_le_right
  generalize (BitVec.ofInt (IntKind.bits .u64) x &&& BitVec.ofInt (IntKind.bits .u64) 255).toNat = n at h
  have h2 : IntKind.wrap .u64 (n : Int) = (n : Int) := by
    simp only [IntKind.wrap, IntKind.bits, IntKind.signed]
    simp
    omega
  rw [h2, w64 (by omega)]
  omega

theorem cuNext {c : Gs_l1Cur} {k : Int} (h : Cu c k) (hk : k + 1 ≤ 1099511627776) : ∃ v c', Ds_l1Cur_next c = some (v, c') ∧ (0 ≤ v ∧ v < 256) ∧ Cu c' (k + 1) := by
  have h0 := h.at0
  have h1 := h.atk
  have mk : ∀ s, Cu ⟨c.code, c.at_ + 1, s⟩ (k + 1) := fun s => ⟨by simp only; omega, by simp only; omega, hk, h.code, h.len⟩
  unfold Ds_l1Cur_next
  rw [w64 (n := c.at_ + 1) (by omega)]
  by_cases ha : c.at_ < (c.code.length : Int)
  · have hlt : c.at_.toNat < c.code.length := by omega
    have hx := List.getElem?_eq_getElem hlt
    have hv := h.code _ (List.mem_of_getElem? hx)
    rw [if_pos ha, if_pos h0, hx]
    simp only [Option.bind_some]
    split
    · exact ⟨_, _, rfl, by rw [w64 (by omega)]; exact hv, mk _⟩
    · exact ⟨_, _, rfl, and255 _, mk _⟩
  · rw [if_neg ha]
    split
    · exact ⟨_, _, rfl, by omega, mk _⟩
    · exact ⟨_, _, rfl, and255 _, mk _⟩

theorem cuPick {c : Gs_l1Cur} {k : Int} (h : Cu c k) (hk : k + 2 ≤ 1099511627776) (n : Int) : ∃ v c', Ds_l1Cur_pick c n = some (v, c') ∧ (0 ≤ v ∧ (1 ≤ n → v < n) ∧ v ≤ 65535) ∧ Cu c' (k + 2) := by
  unfold Ds_l1Cur_pick
  by_cases h1 : n ≤ 1
  · rw [if_pos h1]
    exact ⟨_, _, rfl, by omega, h.mono (by omega) hk⟩
  · rw [if_neg h1]
    obtain ⟨v, c1, e1, hv, hc1⟩ := cuNext h (by omega)
    rw [e1]
    simp only [Option.bind_some]
    by_cases h2 : n > 200
    · rw [if_pos h2]
      obtain ⟨u, c2, e2, hu, hc2⟩ := cuNext hc1 (by omega)
      rw [e2]
      simp only [Option.bind_some]
      rw [if_pos (by omega), w64 (n := v * 256) (by omega), w64 (by omega)]
      have a1 := Int.tmod_nonneg n (show 0 ≤ v * 256 + u by omega)
      have a2 := Int.tmod_lt_of_pos (v * 256 + u) (show 0 < n by omega)
      have a3 : Int.tmod (v * 256 + u) n ≤ v * 256 + u := by
        have b1 := Int.mul_tdiv_add_tmod (v * 256 + u) n
        have b2 := Int.mul_nonneg (show 0 ≤ n by omega) (Int.tdiv_nonneg (show 0 ≤ v * 256 + u by omega) (show 0 ≤ n by omega))
        omega
      exact ⟨_, _, rfl, ⟨a1, fun _ => a2, by omega⟩, by have := hc2; rw [Int.add_assoc] at this; exact this⟩
    · rw [if_neg h2, if_pos (by omega)]
      have a1 := Int.tmod_nonneg n hv.1
      have a2 := Int.tmod_lt_of_pos v (show 0 < n by omega)
      exact ⟨_, _, rfl, ⟨a1, fun _ => a2, by omega⟩, hc1.mono (by omega) hk⟩

theorem cuOne {c : Gs_l1Cur} {k : Int} (h : Cu c k) (hk : k + 2 ≤ 1099511627776) (n : Int) : ∃ v c', Ds_l1Cur_one c n = some (v, c') ∧ Cu c' (k + 2) := by
  obtain ⟨v, c1, e1, _, hc1⟩ := cuPick h hk n
  unfold Ds_l1Cur_one
  rw [e1]
  exact ⟨_, _, rfl, hc1⟩

theorem cuAmong {c : Gs_l1Cur} {k : Int} (h : Cu c k) (hk : k + 2 ≤ 1099511627776) (l : List Int) (hl : 0 < l.length) : ∃ v c', Ds_l1Cur_among c l = some (v, c') ∧ v ∈ l ∧ Cu c' (k + 2) := by
  obtain ⟨v, c1, e1, hv, hc1⟩ := cuPick h hk l.length
  unfold Ds_l1Cur_among
  rw [e1]
  have hlt : v.toNat < l.length := by have := hv.2.1 (by omega); omega
  have hx := List.getElem?_eq_getElem hlt
  simp only [Option.bind_some]
  rw [if_pos hv.1, hx]
  exact ⟨_, _, rfl, List.mem_of_getElem? hx, hc1⟩

theorem cuSeedOf {c : Gs_l1Cur} {k : Int} (h : Cu c k) (hk : k + 4 ≤ 1099511627776) : ∃ v c', Ds_l1Cur_seedOf c = some (v, c') ∧ Cu c' (k + 4) := by
  obtain ⟨v, c1, e1, _, hc1⟩ := cuPick h (by omega) 12
  unfold Ds_l1Cur_seedOf
  rw [e1]
  simp only [Option.bind_some]
  split
  · exact ⟨_, _, rfl, hc1.mono (by omega) hk⟩
  · split
    · obtain ⟨u, c2, e2, _, hc2⟩ := cuAmong hc1 (by omega) [4611686016279904236, 123456789012] (by decide)
      rw [e2]
      exact ⟨_, _, rfl, hc2.mono (by omega) hk⟩
    · obtain ⟨u, c2, e2, _, hc2⟩ := cuPick hc1 (by omega) 60000
      rw [e2]
      exact ⟨_, _, rfl, hc2.mono (by omega) hk⟩

theorem cuAnySeed {c : Gs_l1Cur} {k : Int} (h : Cu c k) (hk : k + 6 ≤ 1099511627776) : ∃ v c', Ds_l1Cur_anySeed c = some (v, c') ∧ Cu c' (k + 6) := by
  obtain ⟨v, c1, e1, hc1⟩ := cuOne h (by omega) 24
  unfold Ds_l1Cur_anySeed
  rw [e1]
  simp only [Option.bind_some]
  split
  · obtain ⟨u, c2, e2, _, hc2⟩ := cuAmong hc1 (by omega) [(-1), 4611686016279904237] (by decide)
    rw [e2]
    exact ⟨_, _, rfl, hc2.mono (by omega) hk⟩
  · obtain ⟨u, c2, e2, hc2⟩ := cuSeedOf hc1 (by omega)
    rw [e2]
    exact ⟨_, _, rfl, hc2.mono (by omega) hk⟩

theorem cu0 {code : List Int} (h : ∀ x ∈ code, 0 ≤ x ∧ x < 256) (hl : code.length ≤ 1048576) : Cu ⟨code, 0, 0⟩ 0 := ⟨Int.le_refl _, Int.le_refl _, by decide, h, hl⟩

def md (x m : Int) : Int := Int.tmod (IntKind.wrap .i64 (Int.tmod x m + m)) m
def mx (x : Int) (s : Int × Int) : Int × Int :=
  (Int.tmod (IntKind.wrap .i64 (IntKind.wrap .i64 (IntKind.wrap .i64 (16807 * s.1) + md x 2147483647) + s.2)) 2147483647,
   Int.tmod (IntKind.wrap .i64 (IntKind.wrap .i64 (IntKind.wrap .i64 (39373 * s.2) + md x 2147483629) + Int.tmod (IntKind.wrap .i64 (IntKind.wrap .i64 (IntKind.wrap .i64 (16807 * s.1) + md x 2147483647) + s.2)) 2147483647)) 2147483629)
def mixR (l : List Int) : Int × Int := mx 1 (mx 1 (mx 1 (l.foldl (fun s x => mx x s) (7, (l.length : Int) + 1))))

theorem eResidue (x m : Int) (h : m ≠ 0) : Di_residue x m = some (md x m) := by unfold Di_residue; rw [if_pos h, if_pos h]; rfl
theorem eDMod (x m : Int) (h : m ≠ 0) : Ds_dMod x m = some (md x m) := by unfold Ds_dMod; rw [if_pos h, if_pos h]; rfl
theorem eMixParts1 (x a b : Int) : Di_mixParts_1 x a b = some (mx x (a, b)) := by
  unfold Di_mixParts_1
  rw [eResidue x _ (by decide), eResidue x _ (by decide)]
  rfl
theorem eMixParts (l : List Int) (hl : l.length ≤ 1000000) : Di_mixParts l = some (mixR l) := by
  have k2 : ∀ a b, loop Bi_mixParts (.h2 0 a b) = some (mx 1 (mx 1 (mx 1 (a, b)))) := by
    intro a b
    rw [loop_eq]; simp only [Bi_mixParts]; rw [if_pos (by decide), eMixParts1]; simp only [Option.bind_some, goOn]; rw [w64 (n := (0 : Int) + 1) (by decide)]
    rw [loop_eq]; simp only [Bi_mixParts]; rw [if_pos (by decide), eMixParts1]; simp only [Option.bind_some, goOn]; rw [w64 (n := (0 : Int) + 1 + 1) (by decide)]
    rw [loop_eq]; simp only [Bi_mixParts]; rw [if_pos (by decide), eMixParts1]; simp only [Option.bind_some, goOn]; rw [w64 (n := (0 : Int) + 1 + 1 + 1) (by decide)]
    rw [loop_eq]; simp only [Bi_mixParts]; rw [if_neg (by decide)]; rfl
  have key : ∀ (k i : Nat) (a b : Int), i + k = l.length → loop Bi_mixParts (.h1 l (l.length : Int) (i : Int) a b) = some (mx 1 (mx 1 (mx 1 ((l.drop i).foldl (fun s x => mx x s) (a, b))))) := by
    intro k
    induction k with
    | zero =>
      intro i a b h
      rw [loop_eq]
      simp only [Bi_mixParts]
      rw [if_neg (by omega), List.drop_of_length_le (show l.length ≤ i by omega)]
      exact k2 a b
    | succ k ih =>
      intro i a b h
      have hlt : i < l.length := by omega
      rw [loop_eq, List.drop_eq_getElem_cons hlt]
      simp only [Bi_mixParts]
      rw [if_pos (by omega), if_pos (by omega), Int.toNat_natCast, List.getElem?_eq_getElem hlt]
      simp only [Option.bind_some]
      rw [eMixParts1, wsucc (by omega)]
      exact ih (i + 1) _ _ (by omega)
  unfold Di_mixParts mixR
  rw [w64 (by omega)]
  exact key l.length 0 _ _ (by omega)
def mx1 : Nat → Int × Int → Int × Int
  | 0, s => s
  | n + 1, s => mx1 n (mx 1 s)
theorem eDMix (l : List Int) (hl : l.length ≤ 1000000) : Ds_dMix l = some (mixR l) := by
  have tail : ∀ (m i : Nat) (a b : Int), l.length ≤ i → i + m = l.length + 3 → loop Bs_dMix (.h1 l a b (i : Int)) = some (mx1 m (a, b)) := by
    intro m
    induction m with
    | zero =>
      intro i a b h1 h2
      rw [loop_eq]
      simp only [Bs_dMix]
      rw [w64 (by omega), if_neg (by omega)]
      rfl
    | succ m ih =>
      intro i a b h1 h2
      rw [loop_eq]
      simp only [Bs_dMix]
      rw [w64 (n := (l.length : Int) + 3) (by omega), if_pos (by omega), if_neg (by omega), eDMod 1 _ (by decide), eDMod 1 _ (by decide)]
      simp only [Option.bind_some]
      rw [wsucc (by omega)]
      exact ih (i + 1) _ _ (by omega) (by omega)
  have key : ∀ (k i : Nat) (a b : Int), i + k = l.length → loop Bs_dMix (.h1 l a b (i : Int)) = some (mx 1 (mx 1 (mx 1 ((l.drop i).foldl (fun s x => mx x s) (a, b))))) := by
    intro k
    induction k with
    | zero =>
      intro i a b h
      rw [List.drop_of_length_le (show l.length ≤ i by omega)]
      exact tail 3 i a b (by omega) (by omega)
    | succ k ih =>
      intro i a b h
      have hlt : i < l.length := by omega
      rw [loop_eq, List.drop_eq_getElem_cons hlt]
      simp only [Bs_dMix]
      rw [w64 (n := (l.length : Int) + 3) (by omega), if_pos (by omega), if_pos (by omega), if_pos (by omega), Int.toNat_natCast, List.getElem?_eq_getElem hlt]
      simp only [Option.bind_some]
      rw [eDMod _ _ (by decide), eDMod _ _ (by decide)]
      simp only [Option.bind_some]
      rw [wsucc (by omega)]
      exact ih (i + 1) _ _ (by omega)
  unfold Ds_dMix mixR
  rw [w64 (by omega)]
  exact key l.length 0 _ _ (by omega)


theorem eBig (a b : List Int) (ha : a.length < 9223372036854775808) (hb : b.length < 9223372036854775808) : Dw_big a b = some (decide (1048576 < a.length + b.length)) := by
  unfold Dw_big
  by_cases h : (a.length : Int) > 1048576
  · rw [if_pos h, decide_eq_true (by omega)]
  · rw [if_neg h, w64 (by omega)]
    congr 1
    by_cases h2 : 1048576 < a.length + b.length
    · rw [decide_eq_true h2]; exact decide_eq_true (by omega)
    · rw [decide_eq_false h2]; exact decide_eq_false (by omega)

def wvSet (l : List Int) (i : Nat) (w : Int) : Option (List Int) := match l[i]? with
  | some x => some (l.set i (IntKind.wrap .i64 (x + w)))
  | none => none
def wvFaces (s : Nat) (w : Int) : Nat → Nat → List Int → Option (List Int)
  | 0, _, l => some l
  | n + 1, f, l => match wvSet l (s + f) w with
    | some l' => wvFaces s w n (f + 1) l'
    | none => none
def wvRow (o : List Int) : Nat → Nat → List Int → Option (List Int)
  | 0, _, l => some l
  | n + 1, i, l => match o[i]? with
    | some w => (match wvFaces i w 6 1 l with
      | some l' => wvRow o n (i + 1) l'
      | none => none)
    | none => none
def wvAll : Nat → List Int → Option (List Int)
  | 0, o => some o
  | n + 1, o => if o.length ≤ 1000 then (match wvRow o o.length 0 (List.replicate (o.length + 6) 0) with
      | some o' => wvAll n o'
      | none => none) else none
theorem wvSet_ok {l l' : List Int} {i : Nat} {w : Int} (h : wvSet l i w = some l') : ∃ x, l[i]? = some x ∧ l' = l.set i (IntKind.wrap .i64 (x + w)) := by
  unfold wvSet at h
  split at h
  · rename_i x hx; exact ⟨x, hx, (Option.some.inj h).symm⟩
  · cases h
theorem wvFaces_i {s : Nat} {w : Int} (hs : s ≤ 1000) {t3 t4 t5 t6 : Int} {o : List Int} : ∀ (n f : Nat) (l l' : List Int), f + n = 7 → wvFaces s w n f l = some l' →
    loop Bi_waysOf (.h3 s w f t3 t4 t5 t6 l o) = loop Bi_waysOf (.h2 t3 t4 t5 (IntKind.wrap .i64 (t6 + 1)) l' o)
  | 0, f, l, l', hf, h => by
    simp only [wvFaces, Option.some.injEq] at h
    subst h
    rw [loop_eq]
    simp only [Bi_waysOf]
    rw [if_neg (by omega)]
    rfl
  | n + 1, f, l, l', hf, h => by
    simp only [wvFaces] at h
    split at h
    · rename_i l1 h1
      obtain ⟨x, hx, rfl⟩ := wvSet_ok h1
      have ih := wvFaces_i hs (t3 := t3) (t4 := t4) (t5 := t5) (t6 := t6) (o := o) n (f + 1) _ l' (by omega) h
      have e : IntKind.wrap .i64 ((s : Int) + (f : Int)) = ((s + f : Nat) : Int) := by rw [w64 (by omega)]; omega
      rw [loop_eq]
      simp only [Bi_waysOf, e, Int.toNat_natCast, hx, Option.bind_some]
      rw [if_pos (by omega), if_pos (by omega), wsucc (by omega)]
      exact ih
    · cases h
theorem wvFaces_s {s : Nat} {w : Int} (hs : s ≤ 1000) {n0 t4 t5 : Int} {o : List Int} : ∀ (n f : Nat) (l l' : List Int), f + n = 7 → wvFaces s w n f l = some l' →
    loop Bs_dWays (.h3 n0 s w f t4 t5 l o) = loop Bs_dWays (.h2 n0 t4 (IntKind.wrap .i64 (t5 + 1)) l' o)
  | 0, f, l, l', hf, h => by
    simp only [wvFaces, Option.some.injEq] at h
    subst h
    rw [loop_eq]
    simp only [Bs_dWays]
    rw [if_neg (by omega)]
    rfl
  | n + 1, f, l, l', hf, h => by
    simp only [wvFaces] at h
    split at h
    · rename_i l1 h1
      obtain ⟨x, hx, rfl⟩ := wvSet_ok h1
      have ih := wvFaces_s hs (n0 := n0) (t4 := t4) (t5 := t5) (o := o) n (f + 1) _ l' (by omega) h
      have e : IntKind.wrap .i64 ((s : Int) + (f : Int)) = ((s + f : Nat) : Int) := by rw [w64 (by omega)]; omega
      rw [loop_eq]
      simp only [Bs_dWays, e, Int.toNat_natCast, hx, Option.bind_some]
      rw [if_pos (by omega), if_pos (by omega), wsucc (by omega)]
      exact ih
    · cases h
theorem wvRow_i {o : List Int} (ho : o.length ≤ 1000) {t0 t1 : Int} : ∀ (n i : Nat) (l l' : List Int), i + n = o.length → wvRow o n i l = some l' →
    loop Bi_waysOf (.h2 t0 t1 (o.length : Int) (i : Int) l o) = loop Bi_waysOf (.h1 t0 (IntKind.wrap .i64 (t1 + 1)) l')
  | 0, i, l, l', hi, h => by
    simp only [wvRow, Option.some.injEq] at h
    subst h
    rw [loop_eq]
    simp only [Bi_waysOf]
    rw [if_neg (by omega)]
    rfl
  | n + 1, i, l, l', hi, h => by
    simp only [wvRow] at h
    split at h
    · rename_i w hw
      split at h
      · rename_i l1 h1
        have i1 := wvFaces_i (s := i) (by omega) (t3 := t0) (t4 := t1) (t5 := (o.length : Int)) (t6 := (i : Int)) (o := o) 6 1 l l1 rfl h1
        have i2 := wvRow_i ho (t0 := t0) (t1 := t1) n (i + 1) l1 l' (by omega) h
        rw [wsucc (by omega)] at i1
        rw [loop_eq]
        simp only [Bi_waysOf]
        rw [if_pos (by omega), if_pos (by omega), Int.toNat_natCast, hw, Option.bind_some]
        exact (show loop Bi_waysOf (.h3 (i : Int) w 1 t0 t1 (o.length : Int) (i : Int) l o) = _ from i1).trans i2
      · cases h
    · cases h
theorem wvRow_s {o : List Int} (ho : o.length ≤ 1000) {n0 : Int} : ∀ (n i : Nat) (l l' : List Int), i + n = o.length → wvRow o n i l = some l' →
    loop Bs_dWays (.h2 n0 (o.length : Int) (i : Int) l o) = loop Bs_dWays (.h1 (IntKind.wrap .i64 (n0 - 1)) l')
  | 0, i, l, l', hi, h => by
    simp only [wvRow, Option.some.injEq] at h
    subst h
    rw [loop_eq]
    simp only [Bs_dWays]
    rw [if_neg (by omega)]
    rfl
  | n + 1, i, l, l', hi, h => by
    simp only [wvRow] at h
    split at h
    · rename_i w hw
      split at h
      · rename_i l1 h1
        have i1 := wvFaces_s (s := i) (by omega) (n0 := n0) (t4 := (o.length : Int)) (t5 := (i : Int)) (o := o) 6 1 l l1 rfl h1
        have i2 := wvRow_s ho (n0 := n0) n (i + 1) l1 l' (by omega) h
        rw [wsucc (by omega)] at i1
        rw [loop_eq]
        simp only [Bs_dWays]
        rw [if_pos (by omega), if_pos (by omega), Int.toNat_natCast, hw, Option.bind_some]
        exact (show loop Bs_dWays (.h3 n0 (i : Int) w 1 (o.length : Int) (i : Int) l o) = _ from i1).trans i2
      · cases h
    · cases h
theorem wvAll_i {N : Nat} (hN : N ≤ 1000) : ∀ (n k : Nat) (o r : List Int), k + n = N → wvAll n o = some r → loop Bi_waysOf (.h1 (N : Int) (k : Int) o) = some r
  | 0, k, o, r, hk, h => by
    simp only [wvAll, Option.some.injEq] at h
    subst h
    rw [loop_eq]
    simp only [Bi_waysOf]
    rw [if_neg (by omega)]
    rfl
  | n + 1, k, o, r, hk, h => by
    simp only [wvAll] at h
    split at h
    · rename_i ho
      split at h
      · rename_i o1 h1
        have i1 := wvRow_i ho (t0 := (N : Int)) (t1 := (k : Int)) o.length 0 _ o1 (by omega) h1
        have i2 := wvAll_i hN n (k + 1) o1 r (by omega) h
        rw [wsucc (by omega)] at i1
        have e : IntKind.wrap .i64 (((o.length : Nat) : Int) + 6) = ((o.length + 6 : Nat) : Int) := by rw [w64 (by omega)]; omega
        rw [loop_eq]
        simp only [Bi_waysOf, e, Int.toNat_natCast]
        rw [if_pos (by omega), if_pos (by omega), if_pos (by omega)]
        exact (show loop Bi_waysOf (.h2 (N : Int) (k : Int) (o.length : Int) 0 _ o) = _ from i1).trans i2
      · cases h
    · cases h
theorem wvAll_s : ∀ (n : Nat) (o r : List Int), n ≤ 1000 → wvAll n o = some r → loop Bs_dWays (.h1 (n : Int) o) = some r
  | 0, o, r, hk, h => by
    simp only [wvAll, Option.some.injEq] at h
    subst h
    rw [loop_eq]
    simp only [Bs_dWays]
    rw [if_neg (by omega)]
    rfl
  | n + 1, o, r, hk, h => by
    simp only [wvAll] at h
    split at h
    · rename_i ho
      split at h
      · rename_i o1 h1
        have i1 := wvRow_s ho (n0 := ((n + 1 : Nat) : Int)) o.length 0 _ o1 (by omega) h1
        have i2 := wvAll_s n o1 r (by omega) h
        rw [w64 (by omega), show (((n + 1 : Nat) : Int) - 1) = (n : Int) by omega] at i1
        have e : IntKind.wrap .i64 (((o.length : Nat) : Int) + 6) = ((o.length + 6 : Nat) : Int) := by rw [w64 (by omega)]; omega
        rw [loop_eq]
        simp only [Bs_dWays, e, Int.toNat_natCast]
        rw [if_pos (by omega), if_pos (by omega), if_pos (by omega)]
        exact (show loop Bs_dWays (.h2 ((n + 1 : Nat) : Int) (o.length : Int) 0 _ o) = _ from i1).trans i2
      · cases h
    · cases h
def wvL : Nat → List Int
  | 0 => [1]
  | 1 => [0, 1, 1, 1, 1, 1, 1]
  | 2 => [0, 0, 1, 2, 3, 4, 5, 6, 5, 4, 3, 2, 1]
  | 3 => [0, 0, 0, 1, 3, 6, 10, 15, 21, 25, 27, 27, 25, 21, 15, 10, 6, 3, 1]
  | 4 => [0, 0, 0, 0, 1, 4, 10, 20, 35, 56, 80, 104, 125, 140, 146, 140, 125, 104, 80, 56, 35, 20, 10, 4, 1]
  | 5 => [0, 0, 0, 0, 0, 1, 5, 15, 35, 70, 126, 205, 305, 420, 540, 651, 735, 780, 780, 735, 651, 540, 420, 305, 205, 126, 70, 35, 15, 5, 1]
  | 6 => [0, 0, 0, 0, 0, 0, 1, 6, 21, 56, 126, 252, 456, 756, 1161, 1666, 2247, 2856, 3431, 3906, 4221, 4332, 4221, 3906, 3431, 2856, 2247, 1666, 1161, 756, 456, 252, 126, 56, 21, 6, 1]
  | 7 => [0, 0, 0, 0, 0, 0, 0, 1, 7, 28, 84, 210, 462, 917, 1667, 2807, 4417, 6538, 9142, 12117, 15267, 18327, 20993, 22967, 24017, 24017, 22967, 20993, 18327, 15267, 12117, 9142, 6538, 4417, 2807, 1667, 917, 462, 210, 84, 28, 7, 1]
  | _ => [0, 0, 0, 0, 0, 0, 0, 0, 1, 8, 36, 120, 330, 792, 1708, 3368, 6147, 10480, 16808, 25488, 36688, 50288, 65808, 82384, 98813, 113688, 125588, 133288, 135954, 133288, 125588, 113688, 98813, 82384, 65808, 50288, 36688, 25488, 16808, 10480, 6147, 3368, 1708, 792, 330, 120, 36, 8, 1]
theorem wvL_ok {n : Nat} (h : n ≤ 8) : wvAll n [1] = some (wvL n) := by
  have : n = 0 ∨ n = 1 ∨ n = 2 ∨ n = 3 ∨ n = 4 ∨ n = 5 ∨ n = 6 ∨ n = 7 ∨ n = 8 := by omega
  rcases this with rfl | rfl | rfl | rfl | rfl | rfl | rfl | rfl | rfl <;> decide +kernel
theorem ways_i {n : Nat} (h : n ≤ 8) : Di_waysOf n = some (wvL n) := wvAll_i (by omega) n 0 [1] _ (by omega) (wvL_ok h)
theorem ways_s {n : Nat} (h : n ≤ 8) : Ds_dWays n = some (wvL n) := wvAll_s n [1] _ (by omega) (wvL_ok h)
theorem wvL_len {n : Nat} (h : n ≤ 8) : (wvL n).length ≤ 49 := by
  have : n = 0 ∨ n = 1 ∨ n = 2 ∨ n = 3 ∨ n = 4 ∨ n = 5 ∨ n = 6 ∨ n = 7 ∨ n = 8 := by omega
  rcases this with rfl | rfl | rfl | rfl | rfl | rfl | rfl | rfl | rfl <;> decide

def wvAt (l : List Int) (s : Int) : Int := if 0 ≤ s then (match l[s.toNat]? with | some x => x | none => 0) else 0
def wvMost (sum : Int) : List Int → Int → Int → Int
  | [], _, a => a
  | x :: r, i, a => wvMost sum r (i + 1) (if i ≥ sum then IntKind.wrap .i64 (a + x) else a)
def wvOk (n s : Int) : Bool := decide (0 ≤ n) && decide (n ≤ 8) && decide (-100 ≤ s) && decide (s ≤ 100)
def sumR (n s : Int) : Int × Bool := if wvOk n s = true then (wvAt (wvL n.toNat) s, true) else (0, false)
def mostR (n s : Int) : Int × Bool := if wvOk n s = true then (wvMost s (wvL n.toNat) 0 0, true) else (0, false)
theorem wvOk_iff {n s : Int} : wvOk n s = true ↔ 0 ≤ n ∧ n ≤ 8 ∧ -100 ≤ s ∧ s ≤ 100 := by
  simp only [wvOk, Bool.and_eq_true, decide_eq_true_eq]
  omega
theorem sum_i (n s : Int) : Di_SumWays n s = some (sumR n s) := by
  unfold Di_SumWays Di_inRange sumR
  by_cases c : wvOk n s = true
  · obtain ⟨c1, c2, c3, c4⟩ := wvOk_iff.1 c
    obtain ⟨m, rfl⟩ : ∃ m : Nat, n = m := ⟨n.toNat, by omega⟩
    have hl := wvL_len (n := m) (by omega)
    rw [if_pos c]
    simp only [c1, c2, c3, c4, if_true, Option.bind_some, decide_true, ways_i (n := m) (by omega), Int.toNat_natCast]
    unfold Di_isIndex Di_inRange wvAt
    rw [w64 (by omega)]
    by_cases z : 0 ≤ s
    · rw [if_pos z, if_pos z]
      simp only [Option.bind_some]
      by_cases y : s ≤ ((wvL m).length : Int) - 1
      · rw [if_pos (by simpa using y), if_pos z, List.getElem?_eq_getElem (by omega)]
        rfl
      · rw [if_neg (by simpa using y), List.getElem?_eq_none (by omega)]
        split <;> rfl
    · rw [if_neg z]
      simp
      intro h
      exact absurd h z
  · rw [if_neg c]
    by_cases c1 : 0 ≤ n <;> by_cases c2 : n ≤ 8 <;> by_cases c3 : -100 ≤ s <;> by_cases c4 : s ≤ 100 <;> first | exact absurd (wvOk_iff.2 ⟨c1, c2, c3, c4⟩) c | simp [c1, c2, c3, c4]
theorem asked_s (n s : Int) : Ds_dSumAsked n s = some (wvOk n s) := by
  unfold Ds_dSumAsked Ds_l1In wvOk
  by_cases c1 : 0 ≤ n <;> by_cases c2 : n ≤ 8 <;> by_cases c3 : -100 ≤ s <;> by_cases c4 : s ≤ 100 <;> simp [c1, c2, c3, c4]
theorem sum_s (n s : Int) : Ds_SumWays n s = some (sumR n s) := by
  unfold Ds_SumWays sumR
  rw [asked_s, Option.bind_some]
  by_cases c : wvOk n s = true
  · obtain ⟨c1, c2, c3, c4⟩ := wvOk_iff.1 c
    obtain ⟨m, rfl⟩ : ∃ m : Nat, n = m := ⟨n.toNat, by omega⟩
    have hl := wvL_len (n := m) (by omega)
    rw [if_pos c, if_pos c]
    simp only [Option.bind_some, ways_s (n := m) (by omega), Int.toNat_natCast]
    unfold Ds_l1In wvAt
    rw [w64 (by omega)]
    by_cases z : 0 ≤ s
    · rw [if_pos z, if_pos z]
      simp only [Option.bind_some]
      by_cases y : s ≤ ((wvL m).length : Int) - 1
      · rw [if_pos (by simpa using y), if_pos z, List.getElem?_eq_getElem (by omega)]
        rfl
      · rw [if_neg (by simpa using y), List.getElem?_eq_none (by omega)]
        split <;> rfl
    · rw [if_neg z]
      simp
      intro h
      exact absurd h z
  · rw [if_neg c, if_neg c]
theorem most_i {l : List Int} (hl : l.length ≤ 1000) {s : Int} : ∀ (n i : Nat) (a : Int), i + n = l.length → loop Bi_WaysAtLeast (.h1 s a (l.length : Int) (i : Int) l) = some (wvMost s (l.drop i) i a, true)
  | 0, i, a, h => by
    rw [loop_eq, List.drop_of_length_le (by omega)]
    simp only [Bi_WaysAtLeast, wvMost]
    rw [if_neg (by omega)]
    rfl
  | n + 1, i, a, h => by
    have hx : l[i]? = some l[i] := List.getElem?_eq_getElem (by omega)
    rw [loop_eq, List.drop_eq_getElem_cons (by omega)]
    simp only [Bi_WaysAtLeast, wvMost]
    rw [if_pos (by omega), if_pos (by omega), Int.toNat_natCast, hx, Option.bind_some, wsucc (by omega)]
    by_cases c : (i : Int) ≥ s
    · rw [if_pos c, if_pos c]; exact most_i hl n (i + 1) _ (by omega)
    · rw [if_neg c, if_neg c]; exact most_i hl n (i + 1) _ (by omega)
theorem most_s {l : List Int} (hl : l.length ≤ 1000) {s : Int} : ∀ (n i : Nat) (a : Int), i + n = l.length → loop Bs_WaysAtLeast (.h1 s a (l.length : Int) (i : Int) l) = some (wvMost s (l.drop i) i a, true)
  | 0, i, a, h => by
    rw [loop_eq, List.drop_of_length_le (by omega)]
    simp only [Bs_WaysAtLeast, wvMost]
    rw [if_neg (by omega)]
    rfl
  | n + 1, i, a, h => by
    have hx : l[i]? = some l[i] := List.getElem?_eq_getElem (by omega)
    rw [loop_eq, List.drop_eq_getElem_cons (by omega)]
    simp only [Bs_WaysAtLeast, wvMost]
    rw [if_pos (by omega), if_pos (by omega), Int.toNat_natCast, hx, Option.bind_some, wsucc (by omega)]
    by_cases c : (i : Int) ≥ s
    · rw [if_pos c, if_pos c]; exact most_s hl n (i + 1) _ (by omega)
    · rw [if_neg c, if_neg c]; exact most_s hl n (i + 1) _ (by omega)
theorem least_i (n s : Int) : Di_WaysAtLeast n s = some (mostR n s) := by
  unfold Di_WaysAtLeast Di_inRange mostR
  by_cases c : wvOk n s = true
  · obtain ⟨c1, c2, c3, c4⟩ := wvOk_iff.1 c
    obtain ⟨m, rfl⟩ : ∃ m : Nat, n = m := ⟨n.toNat, by omega⟩
    have hl := wvL_len (n := m) (by omega)
    have := most_i (l := wvL m) (by omega) (s := s) (wvL m).length 0 0 (by omega)
    rw [List.drop_zero] at this
    rw [if_pos c]
    simp only [c1, c2, c3, c4, if_true, Option.bind_some, decide_true, ways_i (n := m) (by omega), Int.toNat_natCast]
    exact this
  · rw [if_neg c]
    by_cases c1 : 0 ≤ n <;> by_cases c2 : n ≤ 8 <;> by_cases c3 : -100 ≤ s <;> by_cases c4 : s ≤ 100 <;> first | exact absurd (wvOk_iff.2 ⟨c1, c2, c3, c4⟩) c | simp [c1, c2, c3, c4]
theorem least_s (n s : Int) : Ds_WaysAtLeast n s = some (mostR n s) := by
  unfold Ds_WaysAtLeast mostR
  rw [asked_s, Option.bind_some]
  by_cases c : wvOk n s = true
  · obtain ⟨c1, c2, c3, c4⟩ := wvOk_iff.1 c
    obtain ⟨m, rfl⟩ : ∃ m : Nat, n = m := ⟨n.toNat, by omega⟩
    have hl := wvL_len (n := m) (by omega)
    have := most_s (l := wvL m) (by omega) (s := s) (wvL m).length 0 0 (by omega)
    rw [List.drop_zero] at this
    rw [if_pos c, if_pos c]
    simp only [Option.bind_some, ways_s (n := m) (by omega), Int.toNat_natCast]
    exact this
  · rw [if_neg c, if_neg c]
/-- What is asked of the sums, at one list. -/
def wvFine (n : Int) (l : List Int) : Bool := (List.range 201).all fun k => let s : Int := (k : Int) - 100
  (decide (7 * n - s < -100) || decide (7 * n - s > 100) || decide (wvAt l (7 * n - s) = wvAt l s)) && (decide (s ≥ 100) || decide (IntKind.wrap .i64 (wvMost s l 0 0 - wvMost (s + 1) l 0 0) = wvAt l s))
theorem wvFine_ok {n : Nat} (h : n ≤ 8) : wvFine n (wvL n) = true := by
  have : n = 0 ∨ n = 1 ∨ n = 2 ∨ n = 3 ∨ n = 4 ∨ n = 5 ∨ n = 6 ∨ n = 7 ∨ n = 8 := by omega
  rcases this with rfl | rfl | rfl | rfl | rfl | rfl | rfl | rfl | rfl <;> decide +kernel
theorem sum_fine {n s : Int} (h : wvOk n s = true) : (-100 ≤ 7 * n - s → 7 * n - s ≤ 100 → (sumR n (7 * n - s)) = (sumR n s)) ∧ (s < 100 → IntKind.wrap .i64 ((mostR n s).1 - (mostR n (s + 1)).1) = (sumR n s).1 ∧ (mostR n (s + 1)).2 = true) := by
  obtain ⟨c1, c2, c3, c4⟩ := wvOk_iff.1 h
  obtain ⟨m, rfl⟩ : ∃ m : Nat, n = m := ⟨n.toNat, by omega⟩
  have hf := List.all_eq_true.1 (wvFine_ok (n := m) (by omega)) (s + 100).toNat (List.mem_range.2 (by omega))
  have e : (((s + 100).toNat : Nat) : Int) - 100 = s := by omega
  simp only [e, Bool.and_eq_true, Bool.or_eq_true, decide_eq_true_eq] at hf
  refine ⟨fun h1 h2 => ?_, fun h1 => ?_⟩
  · have ho : wvOk m (7 * m - s) = true := wvOk_iff.2 ⟨c1, c2, h1, h2⟩
    unfold sumR
    rw [if_pos ho, if_pos h, Int.toNat_natCast]
    rcases hf.1 with (h3 | h3) | h3
    · omega
    · omega
    · rw [h3]
  · have ho : wvOk m (s + 1) = true := wvOk_iff.2 ⟨c1, c2, by omega, by omega⟩
    unfold sumR mostR
    rw [if_pos ho, if_pos h, if_pos h, Int.toNat_natCast]
    rcases hf.2 with h3 | h3
    · omega
    · exact ⟨h3, rfl⟩


def gtGo (x : Int) : Nat → Int → Int → Int
  | 0, a, b => IntKind.wrap .i64 (a - b)
  | k + 1, a, b => gtGo x k (IntKind.wrap .i64 (a * x)) (IntKind.wrap .i64 (b * IntKind.wrap .i64 (x - 1)))
theorem gt_i {x : Int} {N : Nat} (hN : N ≤ 1000) : ∀ (k i : Nat) (a b : Int), i + k = N → loop Bi_GreatestOf (.h1 x a b (N : Int) (i : Int)) = some (gtGo x k a b, true)
  | 0, i, a, b, h => by
    rw [loop_eq]
    simp only [Bi_GreatestOf]
    rw [if_neg (by omega)]
    rfl
  | k + 1, i, a, b, h => by
    rw [loop_eq]
    simp only [Bi_GreatestOf]
    rw [if_pos (by omega), wsucc (by omega)]
    exact gt_i hN k (i + 1) _ _ (by omega)
theorem gt_s {x : Int} : ∀ (k : Nat) (a b : Int), k ≤ 1000 → loop Bs_GreatestOf (.h1 (k : Int) x a b) = some (gtGo x k a b, true)
  | 0, a, b, h => by
    rw [loop_eq]
    simp only [Bs_GreatestOf]
    rw [if_neg (by omega)]
    rfl
  | k + 1, a, b, h => by
    rw [loop_eq]
    simp only [Bs_GreatestOf]
    rw [if_pos (by omega), w64 (n := ((k + 1 : Nat) : Int) - 1) (by omega), show (((k + 1 : Nat) : Int) - 1) = (k : Int) by omega]
    exact gt_s k _ _ (by omega)
def greatR (n x : Int) : Int × Bool := if 1 ≤ n ∧ n ≤ 8 ∧ 1 ≤ x ∧ x ≤ 6 then (gtGo x n.toNat 1 1, true) else (0, false)
theorem great_both (n x : Int) : Di_GreatestOf n x = some (greatR n x) ∧ Ds_GreatestOf n x = some (greatR n x) := by
  unfold Di_GreatestOf Ds_GreatestOf Di_inRange Ds_l1In greatR
  by_cases c1 : 1 ≤ n
  · by_cases c2 : n ≤ 8
    · by_cases c3 : 1 ≤ x
      · by_cases c4 : x ≤ 6
        · obtain ⟨m, rfl⟩ : ∃ m : Nat, n = m := ⟨n.toNat, by omega⟩
          have i1 := gt_i (x := x) (N := m) (by omega) m 0 1 1 (by omega)
          have i2 := gt_s (x := x) m 1 1 (by omega)
          simp only [c1, c2, c3, c4, Option.bind_some, decide_true, if_true, and_self, ge_iff_le, Int.toNat_natCast]
          exact ⟨i1, i2⟩
        · simp [c1, c2, c3, c4]
      · simp [c1, c2, c3]
    · simp [c1, c2]
  · simp [c1]

def hashR (l : List Int) : Int := IntKind.wrap .i64 ((IntKind.wrap .i64 ((mixR l).1 * 2 ^ min (Int.toNat 31) (IntKind.bits .i64))) + (mixR l).2)
theorem mix_i (l : List Int) (hl : l.length ≤ 1000000) : Di_mix l = some (hashR l) := by
  unfold Di_mix
  rw [eMixParts l hl]
  rfl
theorem hash_s (l : List Int) (hl : l.length ≤ 1000000) : Ds_dHash l = some (hashR l) := by
  unfold Ds_dHash
  rw [eDMix l hl]
  rfl
theorem mixNum_both (l : List Int) (hl : l.length ≤ 1000000) : ∃ r, Di_MixNumbers l = some r ∧ Ds_MixNumbers l = some r := by
  unfold Di_MixNumbers Ds_MixNumbers
  rw [mix_i l hl, hash_s l hl]
  split <;> exact ⟨_, rfl, rfl⟩
def bytesL (s : ByteArray) (i n : Nat) : List Int := (List.range' i n).map fun k : Nat => IntKind.wrap .i64 ((byteAt s k : Nat) : Int)
theorem bytesL_len (s : ByteArray) (i n : Nat) : (bytesL s i n).length = n := by simp [bytesL]
theorem bytesL_succ (s : ByteArray) (i n : Nat) : bytesL s i (n + 1) = IntKind.wrap .i64 ((byteAt s i : Nat) : Int) :: bytesL s (i + 1) n := rfl
theorem wb_i {s : ByteArray} (hs : s.size ≤ 1000) : ∀ (n i : Nat) (acc : List Int), i + n = s.size → acc.length + n ≤ 5000 → loop Bi_withBytes (.h1 s (i : Int) acc) = some (acc ++ bytesL s i n)
  | 0, i, acc, h, ha => by
    rw [loop_eq]
    simp only [Bi_withBytes, bytesL, List.range'_zero, List.map_nil, List.append_nil]
    rw [if_neg (by omega)]
    rfl
  | n + 1, i, acc, h, ha => by
    have ih := wb_i hs n (i + 1) (acc ++ [IntKind.wrap .i64 ((byteAt s i : Nat) : Int)]) (by omega) (by simp only [List.length_append, List.length_singleton]; omega)
    rw [loop_eq]
    simp only [Bi_withBytes, Int.toNat_natCast]
    rw [if_pos (by omega), if_pos (by omega), if_pos (by omega), if_pos (by simp only [List.length_append, List.length_singleton]; omega), wsucc (by omega), bytesL_succ]
    refine (show _ = _ from ih).trans ?_
    rw [List.append_assoc]
    rfl
theorem wb_s {s : ByteArray} (hs : s.size ≤ 1000) : ∀ (n i : Nat) (acc : List Int), i + n = s.size → acc.length + n ≤ 5000 → loop Bs_dBytes (.h1 s (i : Int) acc) = some (acc ++ bytesL s i n)
  | 0, i, acc, h, ha => by
    rw [loop_eq]
    simp only [Bs_dBytes, bytesL, List.range'_zero, List.map_nil, List.append_nil]
    rw [if_neg (by omega)]
    rfl
  | n + 1, i, acc, h, ha => by
    have ih := wb_s hs n (i + 1) (acc ++ [IntKind.wrap .i64 ((byteAt s i : Nat) : Int)]) (by omega) (by simp only [List.length_append, List.length_singleton]; omega)
    rw [loop_eq]
    simp only [Bs_dBytes, Int.toNat_natCast]
    rw [if_pos (by omega), if_pos (by omega), if_pos (by omega), if_pos (by simp only [List.length_append, List.length_singleton]; omega), wsucc (by omega), bytesL_succ]
    refine (show _ = _ from ih).trans ?_
    rw [List.append_assoc]
    rfl
theorem child_both (n : Int) (s : ByteArray) : ∃ r, Di_ChildSeed n s = some r ∧ Ds_ChildSeed n s = some r := by
  unfold Di_ChildSeed Ds_ChildSeed Ds_dChild
  rw [th33, th48]
  simp only [Option.bind_some]
  by_cases c : inr3 n 0 4611686016279904236 = true
  · rw [if_pos c, if_pos c]
    by_cases d : ((ByteArray.size s : Nat) : Int) > 40
    · rw [if_pos d, if_pos d]; exact ⟨_, rfl, rfl⟩
    · have w1 := wb_i (s := s) (by omega) s.size 0 [n] (by omega) (by simp; omega)
      have w2 := wb_s (s := s) (by omega) s.size 0 [] (by omega) (by simp; omega)
      have e1 : Di_withBytes [n] s = some ([n] ++ bytesL s 0 s.size) := w1
      have e2 : Ds_dBytes s = some (bytesL s 0 s.size) := w2
      have hl : ([n] ++ bytesL s 0 s.size).length ≤ 1000 := by rw [List.length_append, bytesL_len]; simp; omega
      rw [if_neg d, if_neg d, e1, e2]
      simp only [Option.bind_some]
      rw [mix_i _ (by omega), hash_s _ (by omega), if_pos (by omega)]
      exact ⟨_, rfl, rfl⟩
  · rw [if_neg c, if_neg c]; exact ⟨_, rfl, rfl⟩

theorem cuOf {c : Gs_l1Cur} {k : Int} (h : Cu c k) (hk : k + 2 ≤ 1099511627776) (l : List ByteArray) (hl : 0 < l.length) : ∃ v c', Ds_l1Cur_of c l = some (v, c') ∧ Cu c' (k + 2) := by
  obtain ⟨v, c1, e1, hv, hc1⟩ := cuPick h hk l.length
  have := hv.2.1 (by omega)
  unfold Ds_l1Cur_of
  rw [e1, Option.bind_some, if_pos hv.1, List.getElem?_eq_getElem (by omega), Option.bind_some]
  exact ⟨_, _, rfl, hc1⟩
theorem drawChildSeed {code : List Int} (h : ∀ x ∈ code, 0 ≤ x ∧ x < 256) (hl : code.length ≤ 1048576) : ∃ n s, Ds_DrawChildSeed code = some (n, s) := by
  obtain ⟨v1, c1, e1, g1⟩ := cuAnySeed (cu0 h hl) (by omega)
  unfold Ds_DrawChildSeed
  rw [e1, Option.bind_some]
  obtain ⟨v2, c2, e2, g2⟩ := cuOf g1 (by omega) [⟨#[]⟩, ⟨#[100, 105, 99, 101]⟩, ⟨#[119, 101, 97, 116, 104, 101, 114]⟩, ⟨#[48, 49, 50, 51, 52, 53, 54, 55, 56, 57, 48, 49, 50, 51, 52, 53, 54, 55, 56, 57, 48, 49, 50, 51, 52, 53, 54, 55, 56, 57, 48, 49, 50, 51, 52, 53, 54, 55, 56, 57]⟩, ⟨#[48, 49, 50, 51, 52, 53, 54, 55, 56, 57, 48, 49, 50, 51, 52, 53, 54, 55, 56, 57, 48, 49, 50, 51, 52, 53, 54, 55, 56, 57, 48, 49, 50, 51, 52, 53, 54, 55, 56, 57, 48]⟩] (by decide)
  simp only [e2, Option.bind_some]
  exact ⟨_, _, rfl⟩
theorem drawMixLoop : ∀ (n : Nat) {c : Gs_l1Cur} {k : Int} {l : List Int}, Cu c k → k + 2 * n + 10 ≤ 1099511627776 → l.length + n ≤ 100 → ∃ l', loop Bs_DrawMixNumbers (.h1 (n : Int) c l) = some l' ∧ l'.length ≤ 300
  | 0, c, k, l, h, hk, h2 => by
    obtain ⟨v1, c1, e1, _, g1⟩ := cuPick h (by omega) 24
    obtain ⟨v2, c2, e2, b2, g2⟩ := cuPick g1 (by omega) 2
    obtain ⟨v3, c3, e3, _, g3⟩ := cuAmong g1 (by omega) [(-9223372036854775808), 9223372036854775807] (by simp)
    have := b2.2.1 (by omega)
    rw [loop_eq]
    simp only [Bs_DrawMixNumbers]
    rw [if_neg (by omega), e1, Option.bind_some]
    by_cases z : v1 = 0
    · rw [if_pos z, e2, Option.bind_some, w64 (by omega), if_pos (by omega), if_pos (by omega)]
      exact ⟨_, rfl, by rw [List.length_replicate]; omega⟩
    · rw [if_neg z]
      by_cases z1 : v1 = 1
      · rw [if_pos z1, e3, Option.bind_some, if_pos (by simp only [List.length_append, List.length_singleton]; omega)]
        exact ⟨_, rfl, by simp only [List.length_append, List.length_singleton]; omega⟩
      · rw [if_neg z1]
        exact ⟨_, rfl, by omega⟩
  | n + 1, c, k, l, h, hk, h2 => by
    obtain ⟨v1, c1, e1, b1, g1⟩ := cuPick h (by omega) 60000
    rw [loop_eq]
    simp only [Bs_DrawMixNumbers]
    rw [if_pos (by omega), e1, Option.bind_some, if_pos (by simp only [List.length_append, List.length_singleton]; omega), w64 (n := ((n + 1 : Nat) : Int) - 1) (by omega), show (((n + 1 : Nat) : Int) - 1) = (n : Int) by omega]
    exact drawMixLoop n g1 (by omega) (by simp only [List.length_append, List.length_singleton]; omega)
theorem drawMixNumbers {code : List Int} (h : ∀ x ∈ code, 0 ≤ x ∧ x < 256) (hl : code.length ≤ 1048576) : ∃ l, Ds_DrawMixNumbers code = some l ∧ l.length ≤ 300 := by
  obtain ⟨v1, c1, e1, b1, g1⟩ := cuPick (cu0 h hl) (by omega) 6
  have := b1.2.1 (by omega)
  unfold Ds_DrawMixNumbers
  rw [e1, Option.bind_some]
  obtain ⟨l', e, y⟩ := drawMixLoop v1.toNat g1 (by omega) (l := []) (by simp; omega)
  rw [Int.toNat_of_nonneg b1.1] at e
  exact ⟨l', e, y⟩
theorem drawGreatestOf {code : List Int} (h : ∀ x ∈ code, 0 ≤ x ∧ x < 256) (hl : code.length ≤ 1048576) : ∃ r, Ds_DrawGreatestOf code = some r := by
  obtain ⟨v1, c1, e1, _, g1⟩ := cuPick (cu0 h hl) (by omega) 10
  obtain ⟨v2, c2, e2, _, g2⟩ := cuPick g1 (by omega) 8
  unfold Ds_DrawGreatestOf
  rw [e1, Option.bind_some, e2, Option.bind_some]
  exact ⟨_, rfl⟩
theorem drawSumWays {code : List Int} (h : ∀ x ∈ code, 0 ≤ x ∧ x < 256) (hl : code.length ≤ 1048576) : ∃ n s, Ds_DrawSumWays code = some (n, s) ∧ -10 ≤ n ∧ n ≤ 10 ∧ -1000 ≤ s ∧ s ≤ 1000 := by
  obtain ⟨v1, c1, e1, b1, g1⟩ := cuPick (cu0 h hl) (by omega) 10
  obtain ⟨v2, c2, e2, b2, g2⟩ := cuPick g1 (by omega) 20
  have hv1 := b1.2.1 (by omega)
  have hv2 := b2.2.1 (by omega)
  have hq : 0 ≤ Int.tdiv v2 19 ∧ Int.tdiv v2 19 ≤ 1 := by
    rw [Int.tdiv_eq_ediv_of_nonneg (by omega)]
    omega
  unfold Ds_DrawSumWays
  rw [e1, Option.bind_some, e2, Option.bind_some]
  simp only [w64 (n := Int.tdiv v2 19) (by omega), w64 (n := v1 - Int.tdiv v2 19) (by omega)]
  obtain ⟨v3, c3, e3, b3, g3⟩ := cuAmong g2 (by omega) [0, 1, (IntKind.wrap .i64 (2 * (v1 - Int.tdiv v2 19))), 7, (IntKind.wrap .i64 ((IntKind.wrap .i64 (3 * (v1 - Int.tdiv v2 19))) + 1)), (IntKind.wrap .i64 (6 * (v1 - Int.tdiv v2 19))), (IntKind.wrap .i64 ((IntKind.wrap .i64 (6 * (v1 - Int.tdiv v2 19))) + 1)), (-1), 100, 101] (by simp)
  simp only [e3, Option.bind_some]
  rw [w64 (n := 2 * (v1 - Int.tdiv v2 19)) (by omega), w64 (n := 3 * (v1 - Int.tdiv v2 19)) (by omega), w64 (n := 6 * (v1 - Int.tdiv v2 19)) (by omega), w64 (n := 3 * (v1 - Int.tdiv v2 19) + 1) (by omega), w64 (n := 6 * (v1 - Int.tdiv v2 19) + 1) (by omega)] at b3
  simp only [List.mem_cons, List.not_mem_nil, or_false] at b3
  exact ⟨_, _, rfl, by omega, by omega, by omega, by omega⟩

theorem sums2 {more : List Int} (h : ∀ x ∈ more, 0 ≤ x ∧ x < 256) (hl : more.length ≤ 1048576) : loop Bw_FnSums (.h2 more) = some true := by
  obtain ⟨⟨k, x⟩, e1⟩ := drawGreatestOf h hl
  obtain ⟨g1, g2⟩ := great_both k x
  obtain ⟨l, e2, x2⟩ := drawMixNumbers h hl
  obtain ⟨r, m1, m2⟩ := mixNum_both l (by omega)
  obtain ⟨n, s, e3⟩ := drawChildSeed h hl
  obtain ⟨q, k1, k2⟩ := child_both n s
  rw [loop_eq]
  simp only [Bw_FnSums, e1, g1, g2, e2, m1, m2, e3, k1, k2, Option.bind_some, BEq.rfl, if_true]
  rfl
theorem sums1 {more : List Int} (h : ∀ x ∈ more, 0 ≤ x ∧ x < 256) (hl : more.length ≤ 1048576) {n s : Int} (hs : -1000 ≤ s ∧ s ≤ 1000) : loop Bw_FnSums (.h1 more n s (sumR n s).1) = some true := by
  have k2 := sums2 h hl
  rw [loop_eq]
  simp only [Bw_FnSums, least_i, least_s, Option.bind_some, if_true]
  by_cases c : wvOk n s = true
  · obtain ⟨_, f2⟩ := sum_fine c
    have hm : (mostR n s).2 = true := by unfold mostR; rw [if_pos c]
    rw [if_pos hm, hm]
    simp only [BEq.rfl, Bool.not_true, Bool.false_eq_true, if_false]
    by_cases d : s < 100
    · obtain ⟨f3, f4⟩ := f2 d
      rw [if_pos d, w64 (by omega), if_pos f4, if_pos f3]
      exact k2
    · rw [if_neg d]
      exact k2
  · have hm : mostR n s = (0, false) := by unfold mostR; rw [if_neg c]
    rw [hm]
    simp only [BEq.rfl, Bool.not_true, Bool.false_eq_true, if_false]
    exact k2
theorem lawSums (code more : List Int) (hc : code.length < 9223372036854775808) (hm : more.length < 9223372036854775808) (h1 : ∀ x ∈ code, 0 ≤ x ∧ x < 256) (h2 : ∀ x ∈ more, 0 ≤ x ∧ x < 256) : Dw_FnSums code more = some true := by
  unfold Dw_FnSums
  rw [eBig code more hc hm, Option.bind_some]
  by_cases hb : 1048576 < code.length + more.length
  · rw [if_pos (decide_eq_true hb)]
  · rw [if_neg (by simpa using hb)]
    obtain ⟨n, s, ed, n1, n2, s1, s2⟩ := drawSumWays h1 (by omega)
    have k1 := sums1 h2 (by omega) (n := n) (s := s) ⟨s1, s2⟩
    rw [ed, Option.bind_some]
    simp only [sum_i, sum_s, Option.bind_some, if_true]
    rw [w64 (n := 7 * n) (by omega), w64 (n := 7 * n - s) (by omega)]
    by_cases c : wvOk n s = true
    · have hs : (sumR n s).2 = true := by unfold sumR; rw [if_pos c]
      obtain ⟨f1, _⟩ := sum_fine c
      rw [if_pos hs, hs]
      simp only [BEq.rfl, Bool.not_true, Bool.false_eq_true, if_false]
      by_cases d1 : 7 * n - s ≥ -100
      · by_cases d2 : 7 * n - s ≤ 100
        · rw [if_pos d1, if_pos d2, f1 d1 d2, if_pos hs, if_pos rfl]
          exact k1
        · rw [if_pos d1, if_neg d2]; exact k1
      · rw [if_neg d1]; exact k1
    · have hs : sumR n s = (0, false) := by unfold sumR; rw [if_neg c]
      rw [hs] at k1 ⊢
      simp only [BEq.rfl, Bool.not_true, Bool.false_eq_true, if_false]
      exact k1


end Go.Proofs.Ytlniejjcejackaa.Ab
