/- Part of the proof of FnLookoutsCard: no condition of its own. -/
import Derived.Test.YtakcjcjfcignjaaGreatDoorB5LD
import Derived.Test.YtakcjcjfcignjaaGreatDoorPuA
set_option linter.unusedVariables false
set_option linter.unusedSimpArgs false
open Go
namespace Go.Proofs.YtakcjcjfcignjaaGreatDoor.Ab
structure Cu (c : Gs_l1Cur) (k : Int) : Prop where
  at0 : 0 ≤ c.at_
  atk : c.at_ ≤ k
  kk : k ≤ 1099511627776
  code : ∀ x ∈ c.code, 0 ≤ x ∧ x < 256
  len : c.code.length < 9223372036854775808

theorem Cu.mono {c : Gs_l1Cur} {k k' : Int} (h : Cu c k) (hk : k ≤ k') (hb : k' ≤ 1099511627776) : Cu c k' := ⟨h.at0, by have := h.atk; omega, hb, h.code, h.len⟩

theorem and255 (x : Int) : 0 ≤ IntKind.wrap .i64 (IntKind.wrap .u64 ((BitVec.toNat (BitVec.ofInt (IntKind.bits .u64) x &&& BitVec.ofInt (IntKind.bits .u64) 255) : Nat) : Int)) ∧ IntKind.wrap .i64 (IntKind.wrap .u64 ((BitVec.toNat (BitVec.ofInt (IntKind.bits .u64) x &&& BitVec.ofInt (IntKind.bits .u64) 255) : Nat) : Int)) < 256 := by
  have h : (BitVec.ofInt (IntKind.bits .u64) x &&& BitVec.ofInt (IntKind.bits .u64) 255).toNat ≤ 255 := by
    rw [BitVec.toNat_and]
    have e : (BitVec.ofInt (IntKind.bits .u64) 255).toNat = 255 := by decide
    rw [e]
    exact Nat.and_le_right
  generalize (BitVec.ofInt (IntKind.bits .u64) x &&& BitVec.ofInt (IntKind.bits .u64) 255).toNat = n at h
  have h2 : IntKind.wrap .u64 (n : Int) = (n : Int) := by
    simp only [IntKind.wrap, IntKind.bits, IntKind.signed]
    simp
    omega
  rw [h2, w64 (by omega)]
  omega

theorem cuNext {c : Gs_l1Cur} {k : Int} (h : Cu c k) (hk : k + 1 ≤ 1099511627776) : ∃ v c', Ds_l1Cur_next c = some (v, c') ∧ (0 ≤ v ∧ v < 256) ∧ Cu c' (k + 1) := by
  have h0 := h.at0
  have h1 := h.atk
  have mk : ∀ s, Cu ⟨c.code, c.at_ + 1, s⟩ (k + 1) := fun s => ⟨by simp only; omega, by simp only; omega, hk, h.code, h.len⟩
  unfold Ds_l1Cur_next
  rw [w64 (n := c.at_ + 1) (by omega)]
  by_cases ha : c.at_ < (c.code.length : Int)
  · have hlt : c.at_.toNat < c.code.length := by omega
    have hx := List.getElem?_eq_getElem hlt
    have hv := h.code _ (List.mem_of_getElem? hx)
    rw [if_pos ha, if_pos h0, hx]
    simp only [Option.bind_some]
    split
    · exact ⟨_, _, rfl, by rw [w64 (by omega)]; exact hv, mk _⟩
    · exact ⟨_, _, rfl, and255 _, mk _⟩
  · rw [if_neg ha]
    split
    · exact ⟨_, _, rfl, by omega, mk _⟩
    · exact ⟨_, _, rfl, and255 _, mk _⟩

theorem cuPick {c : Gs_l1Cur} {k : Int} (h : Cu c k) (hk : k + 2 ≤ 1099511627776) (n : Int) : ∃ v c', Ds_l1Cur_pick c n = some (v, c') ∧ (0 ≤ v ∧ (1 ≤ n → v < n) ∧ v ≤ 65535) ∧ Cu c' (k + 2) := by
  unfold Ds_l1Cur_pick
  by_cases h1 : n ≤ 1
  · rw [if_pos h1]
    exact ⟨_, _, rfl, by omega, h.mono (by omega) hk⟩
  · rw [if_neg h1]
    obtain ⟨v, c1, e1, hv, hc1⟩ := cuNext h (by omega)
    rw [e1]
    simp only [Option.bind_some]
    by_cases h2 : n > 200
    · rw [if_pos h2]
      obtain ⟨u, c2, e2, hu, hc2⟩ := cuNext hc1 (by omega)
      rw [e2]
      simp only [Option.bind_some]
      rw [if_pos (by omega), w64 (n := v * 256) (by omega), w64 (by omega)]
      have a1 := Int.tmod_nonneg n (show 0 ≤ v * 256 + u by omega)
      have a2 := Int.tmod_lt_of_pos (v * 256 + u) (show 0 < n by omega)
      have a3 : Int.tmod (v * 256 + u) n ≤ v * 256 + u := by
        have b1 := Int.mul_tdiv_add_tmod (v * 256 + u) n
        have b2 := Int.mul_nonneg (show 0 ≤ n by omega) (Int.tdiv_nonneg (show 0 ≤ v * 256 + u by omega) (show 0 ≤ n by omega))
        omega
      exact ⟨_, _, rfl, ⟨a1, fun _ => a2, by omega⟩, by have := hc2; rw [Int.add_assoc] at this; exact this⟩
    · rw [if_neg h2, if_pos (by omega)]
      have a1 := Int.tmod_nonneg n hv.1
      have a2 := Int.tmod_lt_of_pos v (show 0 < n by omega)
      exact ⟨_, _, rfl, ⟨a1, fun _ => a2, by omega⟩, hc1.mono (by omega) hk⟩

theorem cuOne {c : Gs_l1Cur} {k : Int} (h : Cu c k) (hk : k + 2 ≤ 1099511627776) (n : Int) : ∃ v c', Ds_l1Cur_one c n = some (v, c') ∧ Cu c' (k + 2) := by
  obtain ⟨v, c1, e1, _, hc1⟩ := cuPick h hk n
  unfold Ds_l1Cur_one
  rw [e1]
  exact ⟨_, _, rfl, hc1⟩

theorem cuAmong {c : Gs_l1Cur} {k : Int} (h : Cu c k) (hk : k + 2 ≤ 1099511627776) (l : List Int) (hl : 0 < l.length) : ∃ v c', Ds_l1Cur_among c l = some (v, c') ∧ v ∈ l ∧ Cu c' (k + 2) := by
  obtain ⟨v, c1, e1, hv, hc1⟩ := cuPick h hk l.length
  unfold Ds_l1Cur_among
  rw [e1]
  have hlt : v.toNat < l.length := by have := hv.2.1 (by omega); omega
  have hx := List.getElem?_eq_getElem hlt
  simp only [Option.bind_some]
  rw [if_pos hv.1, hx]
  exact ⟨_, _, rfl, List.mem_of_getElem? hx, hc1⟩

theorem cu1 {code : List Int} (h : ∀ x ∈ code, 0 ≤ x ∧ x < 256) (hl : code.length < 9223372036854775808) : Cu ⟨code, 0, 0⟩ 0 := ⟨Int.le_refl _, Int.le_refl _, by decide, h, hl⟩

def md (x m : Int) : Int := Int.tmod (IntKind.wrap .i64 (Int.tmod x m + m)) m
def mx (x : Int) (s : Int × Int) : Int × Int :=
  (Int.tmod (IntKind.wrap .i64 (IntKind.wrap .i64 (IntKind.wrap .i64 (16807 * s.1) + md x 2147483647) + s.2)) 2147483647,
   Int.tmod (IntKind.wrap .i64 (IntKind.wrap .i64 (IntKind.wrap .i64 (39373 * s.2) + md x 2147483629) + Int.tmod (IntKind.wrap .i64 (IntKind.wrap .i64 (IntKind.wrap .i64 (16807 * s.1) + md x 2147483647) + s.2)) 2147483647)) 2147483629)
def mixR (l : List Int) : Int × Int := mx 1 (mx 1 (mx 1 (l.foldl (fun s x => mx x s) (7, (l.length : Int) + 1))))

theorem eSameInts (l : List Int) (hl : l.length ≤ 1048577) : Dw_sameInts l l = some true := by
  unfold Dw_sameInts
  rw [if_pos rfl]
  refine true_loop (S := fun i => Sw_sameInts.h1 l l (l.length : Int) (i : Int)) (n := l.length) (fun i hi => ?_) ?_
  · simp [Bw_sameInts, hi, wsucc (show i < 9223372036854775807 by omega)]
  · simp [Bw_sameInts]

def below (s k n : Int) : Int := Int.tmod (mixR [s, k, n]).1 n
theorem eBig (a b : List Int) (ha : a.length < 9223372036854775808) (hb : b.length < 9223372036854775808) : Dw_big a b = some (decide (1048576 < a.length + b.length)) := by
  unfold Dw_big
  by_cases h : (a.length : Int) > 1048576
  · rw [if_pos h, decide_eq_true (by omega)]
  · rw [if_neg h, w64 (by omega)]
    congr 1
    by_cases h2 : 1048576 < a.length + b.length
    · rw [decide_eq_true h2]; exact decide_eq_true (by omega)
    · rw [decide_eq_false h2]; exact decide_eq_false (by omega)

/-- The form whose least value says which cells are nearest. -/
def hmet (u v : Int) : Int := u * u + u * v + v * v
def hmAt (q r n : Int) (c : Gi_Hex) : Int := hmet (n * c.Q - q) (n * c.R - r)

def nearStep (m : Gi_Hex → Int) (s : Int × List Gi_Hex) (x : Gi_Hex) : Int × List Gi_Hex :=
  if s.1 < 0 then (m x, [x]) else if m x < s.1 then (m x, [x]) else if m x = s.1 then (s.1, s.2 ++ [x]) else s

theorem nearFold {m : Gi_Hex → Int} {mn : Int} (h0 : 0 ≤ mn) : ∀ (cs : List Gi_Hex) (best : Int) (acc : List Gi_Hex), (best < 0 ∨ mn ≤ best) → (∀ x ∈ cs, mn ≤ m x) → (best = mn ∨ ∃ x ∈ cs, m x = mn) →
    (cs.foldl (nearStep m) (best, acc)).2 = (if best = mn then acc else []) ++ cs.filter (fun x => m x = mn)
  | [], best, acc, h1, h2, h3 => by
    have : best = mn := by
      rcases h3 with h | ⟨x, hx, _⟩
      · exact h
      · cases hx
    simp [this]
  | x :: cs, best, acc, h1, h2, h3 => by
    have hx := h2 x (List.mem_cons_self ..)
    have hr : ∀ y ∈ cs, mn ≤ m y := fun y hy => h2 y (List.mem_cons_of_mem _ hy)
    have h3' : m x = mn ∨ best = mn ∨ ∃ y ∈ cs, m y = mn := by
      rcases h3 with h | ⟨y, hy, he⟩
      · exact .inr (.inl h)
      · cases hy with
        | head => exact .inl he
        | tail _ hy => exact .inr (.inr ⟨y, hy, he⟩)
    rw [List.foldl_cons]
    by_cases c1 : best < 0
    · have e : nearStep m (best, acc) x = (m x, [x]) := by simp [nearStep, c1]
      rw [e, nearFold h0 cs (m x) [x] (.inr hx) hr (by rcases h3' with h | h | h; exact .inl h; omega; exact .inr h)]
      have : ¬ best = mn := by omega
      by_cases c : m x = mn <;> simp [c, this]
    · by_cases c2 : m x < best
      · have e : nearStep m (best, acc) x = (m x, [x]) := by simp [nearStep, c1, c2]
        rw [e, nearFold h0 cs (m x) [x] (.inr hx) hr (by rcases h3' with h | h | h; exact .inl h; omega; exact .inr h)]
        have : ¬ best = mn := by omega
        by_cases c : m x = mn <;> simp [c, this]
      · by_cases c3 : m x = best
        · have e : nearStep m (best, acc) x = (best, acc ++ [x]) := by simp [nearStep, c1, c3]
          rw [e, nearFold h0 cs best (acc ++ [x]) (.inr (c3 ▸ hx)) hr (by rcases h3' with h | h | h; exact .inl (c3.symm.trans h); exact .inl h; exact .inr h)]
          by_cases c : best = mn <;> simp [c, c3]
        · have e : nearStep m (best, acc) x = (best, acc) := by simp [nearStep, c1, c2, c3]
          have hb : mn ≤ best := by
            rcases h1 with h | h
            · exact absurd h c1
            · exact h
          have : ¬ m x = mn := by
            clear h3 h3'
            omega
          rw [e, nearFold h0 cs best acc (.inr hb) hr (by rcases h3' with h | h | h; exact absurd h this; exact .inl h; exact .inr h)]
          simp [this]

theorem mulb {a b A B : Int} (ha : -A ≤ a ∧ a ≤ A) (hb : -B ≤ b ∧ b ≤ B) : -(A * B) ≤ a * b ∧ a * b ≤ A * B := by
  have h1 : a.natAbs ≤ A.natAbs := by omega
  have h2 : b.natAbs ≤ B.natAbs := by omega
  have h3 := Nat.mul_le_mul h1 h2
  rw [← Int.natAbs_mul, ← Int.natAbs_mul] at h3
  have : 0 ≤ A * B := Int.mul_nonneg (by omega) (by omega)
  omega

theorem wmet {q r n x y : Int} (hn : -200 ≤ n ∧ n ≤ 200) (hq : -1000000 ≤ q ∧ q ≤ 1000000) (hr : -1000000 ≤ r ∧ r ≤ 1000000) (hx : -1000000 ≤ x ∧ x ≤ 1000000) (hy : -1000000 ≤ y ∧ y ≤ 1000000) :
    (IntKind.wrap .i64 ((IntKind.wrap .i64 ((IntKind.wrap .i64 ((IntKind.wrap .i64 ((IntKind.wrap .i64 (n * x)) - q)) * (IntKind.wrap .i64 ((IntKind.wrap .i64 (n * x)) - q)))) + (IntKind.wrap .i64 ((IntKind.wrap .i64 ((IntKind.wrap .i64 (n * x)) - q)) * (IntKind.wrap .i64 ((IntKind.wrap .i64 (n * y)) - r)))))) + (IntKind.wrap .i64 ((IntKind.wrap .i64 ((IntKind.wrap .i64 (n * y)) - r)) * (IntKind.wrap .i64 ((IntKind.wrap .i64 (n * y)) - r)))))) = hmAt q r n ⟨x, y⟩ := by
  have h1 := mulb hn hx
  have h2 := mulb hn hy
  rw [w64 (n := n * x) (by omega), w64 (n := n * y) (by omega), w64 (n := n * x - q) (by omega), w64 (n := n * y - r) (by omega)]
  have hu : -300000000 ≤ n * x - q ∧ n * x - q ≤ 300000000 := by omega
  have hv : -300000000 ≤ n * y - r ∧ n * y - r ≤ 300000000 := by omega
  have h3 := mulb hu hu
  have h4 := mulb hu hv
  have h5 := mulb hv hv
  rw [w64 (n := (n * x - q) * (n * x - q)) (by omega), w64 (n := (n * x - q) * (n * y - r)) (by omega), w64 (n := (n * y - r) * (n * y - r)) (by omega), w64 (n := (n * x - q) * (n * x - q) + (n * x - q) * (n * y - r)) (by omega), w64 (by omega)]
  rfl

theorem near_in {q r n g : Int} (hg : Di_floorDiv r n = some g) (hn : -200 ≤ n ∧ n ≤ 200) (hq : -1000000 ≤ q ∧ q ≤ 1000000) (hr : -1000000 ≤ r ∧ r ≤ 1000000) (hG : -100000 ≤ g ∧ g ≤ 100000)
    {x y : Int} (hx : -200000 ≤ x ∧ x ≤ 200000) (hy : -200000 ≤ y ∧ y ≤ g + 2) {best : Int} {acc : List Gi_Hex} (ha : acc.length ≤ 1000) :
    loop Bi_nearestTo (.h2 q r n best x y acc) = loop Bi_nearestTo (.h2 q r n (nearStep (hmAt q r n) (best, acc) ⟨x, y⟩).1 x (y + 1) (nearStep (hmAt q r n) (best, acc) ⟨x, y⟩).2) := by
  rw [loop_eq]
  have e := wmet hn hq hr (x := x) (y := y) (by omega) (by omega)
  simp only [Bi_nearestTo, hg, Option.bind_some, e, w64 (n := g + 2) (by omega), w64 (n := y + 1) (by omega), hy.2, if_true]
  have l1 : ((acc ++ [Gi_Hex.mk x y]).length * 16 ≤ 70368744177664) := by
    rw [List.length_append, List.length_singleton]
    omega
  have l2 : (0 : Int) ≤ ((acc.length : Nat) : Int) := by omega
  unfold nearStep
  by_cases c1 : best < 0
  · simp [c1, goOn]
  · by_cases c2 : hmAt q r n ⟨x, y⟩ < best
    · simp [c1, c2, goOn]
    · by_cases c3 : hmAt q r n ⟨x, y⟩ = best
      · simp only [List.length_append, List.length_singleton] at l1
        simp [c1, c3, l1, goOn]
      · simp [c1, c2, c3, goOn]

theorem nearStep_len (m : Gi_Hex → Int) (s : Int × List Gi_Hex) (x : Gi_Hex) : (nearStep m s x).2.length ≤ s.2.length + 1 := by
  unfold nearStep
  split
  · simp
  · split
    · simp
    · split <;> simp

theorem near_row {q r n g : Int} (hg : Di_floorDiv r n = some g) (hn : -200 ≤ n ∧ n ≤ 200) (hq : -1000000 ≤ q ∧ q ≤ 1000000) (hr : -1000000 ≤ r ∧ r ≤ 1000000) (hG : -100000 ≤ g ∧ g ≤ 100000)
    {x : Int} (hx : -200000 ≤ x ∧ x ≤ 200000) (s : Int × List Gi_Hex) (ha : s.2.length ≤ 900) :
    loop Bi_nearestTo (.h2 q r n s.1 x (g - 1) s.2) = loop Bi_nearestTo (.h1 q r n ([⟨x, g - 1⟩, ⟨x, g⟩, ⟨x, g + 1⟩, ⟨x, g + 2⟩].foldl (nearStep (hmAt q r n)) s).1 (x + 1) ([⟨x, g - 1⟩, ⟨x, g⟩, ⟨x, g + 1⟩, ⟨x, g + 2⟩].foldl (nearStep (hmAt q r n)) s).2) := by
  simp only [List.foldl_cons, List.foldl_nil]
  rw [near_in hg hn hq hr hG hx (by omega) (by omega)]
  have l1 := nearStep_len (hmAt q r n) s ⟨x, g - 1⟩
  generalize nearStep (hmAt q r n) s ⟨x, g - 1⟩ = s1 at *
  rw [near_in hg hn hq hr hG hx (by omega) (by omega)]
  rw [show g - 1 + 1 = g by omega]
  have l2 := nearStep_len (hmAt q r n) s1 ⟨x, g⟩
  generalize nearStep (hmAt q r n) s1 ⟨x, g⟩ = s2 at *
  rw [near_in hg hn hq hr hG hx (by omega) (by omega)]
  have l3 := nearStep_len (hmAt q r n) s2 ⟨x, g + 1⟩
  generalize nearStep (hmAt q r n) s2 ⟨x, g + 1⟩ = s3 at *
  rw [near_in hg hn hq hr hG hx (by omega) (by omega)]
  rw [show g + 1 + 1 = g + 2 by omega]
  have l4 := nearStep_len (hmAt q r n) s3 ⟨x, g + 2⟩
  generalize nearStep (hmAt q r n) s3 ⟨x, g + 2⟩ = s4 at *
  rw [loop_eq]
  have : ¬ g + 2 + 1 ≤ g + 2 := by omega
  simp only [Bi_nearestTo, hg, Option.bind_some, w64 (n := g + 2) (by omega), w64 (n := x + 1) (by omega), this, if_false, goOn]

/-- The sixteen cells looked at, in order. -/
def cells16 (f g : Int) : List Gi_Hex :=
  [⟨f - 1, g - 1⟩, ⟨f - 1, g⟩, ⟨f - 1, g + 1⟩, ⟨f - 1, g + 2⟩, ⟨f, g - 1⟩, ⟨f, g⟩, ⟨f, g + 1⟩, ⟨f, g + 2⟩, ⟨f + 1, g - 1⟩, ⟨f + 1, g⟩, ⟨f + 1, g + 1⟩, ⟨f + 1, g + 2⟩, ⟨f + 2, g - 1⟩, ⟨f + 2, g⟩, ⟨f + 2, g + 1⟩, ⟨f + 2, g + 2⟩]

theorem nearFold_len (m : Gi_Hex → Int) : ∀ (l : List Gi_Hex) (s : Int × List Gi_Hex), (l.foldl (nearStep m) s).2.length ≤ s.2.length + l.length
  | [], s => by simp
  | x :: l, s => by
    have h1 := nearFold_len m l (nearStep m s x)
    have h2 := nearStep_len m s x
    simp only [List.foldl_cons, List.length_cons]
    omega

theorem near_row1 {q r n f g : Int} (hf : Di_floorDiv q n = some f) (hg : Di_floorDiv r n = some g) (hn : -200 ≤ n ∧ n ≤ 200) (hq : -1000000 ≤ q ∧ q ≤ 1000000) (hr : -1000000 ≤ r ∧ r ≤ 1000000) (hF : -100000 ≤ f ∧ f ≤ 100000) (hG : -100000 ≤ g ∧ g ≤ 100000)
    {x : Int} (hx : -200000 ≤ x ∧ x ≤ f + 2) (s : Int × List Gi_Hex) (ha : s.2.length ≤ 900) :
    loop Bi_nearestTo (.h1 q r n s.1 x s.2) = loop Bi_nearestTo (.h1 q r n ([⟨x, g - 1⟩, ⟨x, g⟩, ⟨x, g + 1⟩, ⟨x, g + 2⟩].foldl (nearStep (hmAt q r n)) s).1 (x + 1) ([⟨x, g - 1⟩, ⟨x, g⟩, ⟨x, g + 1⟩, ⟨x, g + 2⟩].foldl (nearStep (hmAt q r n)) s).2) := by
  rw [← near_row hg hn hq hr hG (by omega) s ha, loop_eq]
  simp only [Bi_nearestTo, hf, hg, Option.bind_some, w64 (n := f + 2) (by omega), w64 (n := g - 1) (by omega), hx.2, if_true, goOn]

theorem near_all {q r n f g : Int} (hf : Di_floorDiv q n = some f) (hg : Di_floorDiv r n = some g) (hn : -200 ≤ n ∧ n ≤ 200) (hq : -1000000 ≤ q ∧ q ≤ 1000000) (hr : -1000000 ≤ r ∧ r ≤ 1000000) (hF : -100000 ≤ f ∧ f ≤ 100000) (hG : -100000 ≤ g ∧ g ≤ 100000) :
    Di_nearestTo q r n = some ((cells16 f g).foldl (nearStep (hmAt q r n)) (-1, [])).2 := by
  have e : cells16 f g = [⟨f - 1, g - 1⟩, ⟨f - 1, g⟩, ⟨f - 1, g + 1⟩, ⟨f - 1, g + 2⟩] ++ ([⟨f, g - 1⟩, ⟨f, g⟩, ⟨f, g + 1⟩, ⟨f, g + 2⟩] ++ ([⟨f + 1, g - 1⟩, ⟨f + 1, g⟩, ⟨f + 1, g + 1⟩, ⟨f + 1, g + 2⟩] ++ [⟨f + 2, g - 1⟩, ⟨f + 2, g⟩, ⟨f + 2, g + 1⟩, ⟨f + 2, g + 2⟩])) := rfl
  rw [e, List.foldl_append, List.foldl_append, List.foldl_append]
  unfold Di_nearestTo
  simp only [hf, Option.bind_some, w64 (n := f - 1) (by omega)]
  have r1 := near_row1 hf hg hn hq hr hF hG (x := f - 1) (by omega) (-1, []) (by simp)
  rw [show f - 1 + 1 = f by omega] at r1
  simp only at r1
  rw [r1]
  have l1 := nearFold_len (hmAt q r n) [⟨f - 1, g - 1⟩, ⟨f - 1, g⟩, ⟨f - 1, g + 1⟩, ⟨f - 1, g + 2⟩] (-1, [])
  simp only [List.length_cons, List.length_nil] at l1
  generalize List.foldl (nearStep (hmAt q r n)) (-1, []) [⟨f - 1, g - 1⟩, ⟨f - 1, g⟩, ⟨f - 1, g + 1⟩, ⟨f - 1, g + 2⟩] = s1 at *
  rw [near_row1 hf hg hn hq hr hF hG (x := f) (by omega) s1 (by omega)]
  have l2 := nearFold_len (hmAt q r n) [⟨f, g - 1⟩, ⟨f, g⟩, ⟨f, g + 1⟩, ⟨f, g + 2⟩] s1
  simp only [List.length_cons, List.length_nil] at l2
  generalize List.foldl (nearStep (hmAt q r n)) s1 [⟨f, g - 1⟩, ⟨f, g⟩, ⟨f, g + 1⟩, ⟨f, g + 2⟩] = s2 at *
  rw [near_row1 hf hg hn hq hr hF hG (x := f + 1) (by omega) s2 (by omega)]
  have l3 := nearFold_len (hmAt q r n) [⟨f + 1, g - 1⟩, ⟨f + 1, g⟩, ⟨f + 1, g + 1⟩, ⟨f + 1, g + 2⟩] s2
  simp only [List.length_cons, List.length_nil] at l3
  generalize List.foldl (nearStep (hmAt q r n)) s2 [⟨f + 1, g - 1⟩, ⟨f + 1, g⟩, ⟨f + 1, g + 1⟩, ⟨f + 1, g + 2⟩] = s3 at *
  rw [show f + 1 + 1 = f + 2 by omega, near_row1 hf hg hn hq hr hF hG (x := f + 2) (by omega) s3 (by omega)]
  rw [loop_eq]
  have : ¬ f + 2 + 1 ≤ f + 2 := by omega
  simp only [Bi_nearestTo, hf, Option.bind_some, w64 (n := f + 2) (by omega), this, if_false, goOn]

/-- Floor division: quotient and rest. -/
theorem floorDiv_ok {q n : Int} (hn : 0 < n ∧ n ≤ 200) (hq : -1000000 ≤ q ∧ q ≤ 1000000) :
    Di_floorDiv q n = some (q / n) := by
  unfold Di_floorDiv
  have h1 := Int.mul_tdiv_add_tmod q n
  have h2 := Int.mul_ediv_add_emod q n
  have h3 := Int.emod_nonneg q (b := n) (by omega)
  have h4 := Int.emod_lt_of_pos q hn.1
  have h5 := mulb (a := n) (b := q.tdiv n) (A := 200) (B := 1000000)
  have hb : -1000000 ≤ q.tdiv n ∧ q.tdiv n ≤ 1000000 := by
    have : (q.tdiv n).natAbs ≤ q.natAbs := by
      rw [Int.natAbs_tdiv]
      exact Nat.div_le_self ..
    omega
  rw [if_pos (by omega), if_pos (by omega), w64 (n := q.tdiv n) (by omega), w64 (n := q.tdiv n - 1) (by omega), Int.tdiv_eq_ediv, Int.tmod_eq_emod]
  have e1 : n.sign = 1 := Int.sign_eq_one_of_pos hn.1
  have e2 : (n.natAbs : Int) = n := by omega
  by_cases c : 0 ≤ q ∨ n ∣ q
  · simp only [c, if_true]
    rw [if_neg (by omega)]
    simp
  · simp only [c, if_false, e1, e2]
    rw [if_pos (by omega)]
    congr 1
    omega

theorem nearA1 {n f g b : Int} (hn : 0 < n ∧ n ≤ 200) (hb : 0 ≤ b ∧ b < n) (h : 2 * b < n) :
    ((cells16 f g).foldl (nearStep (hmAt (n * f) (n * g + b) n)) (-1, [])).2 = [⟨f, g⟩] := by
  have m0 : hmAt (n * f) (n * g + b) n ⟨f - 1, g - 1⟩ = 3 * (n * n) - (-3) * (n * b) + b * b := by
    simp only [hmAt, hmet]
    grind
  have m1 : hmAt (n * f) (n * g + b) n ⟨f - 1, g⟩ = 1 * (n * n) - (-1) * (n * b) + b * b := by
    simp only [hmAt, hmet]
    grind
  have m2 : hmAt (n * f) (n * g + b) n ⟨f - 1, g + 1⟩ = 1 * (n * n) - 1 * (n * b) + b * b := by
    simp only [hmAt, hmet]
    grind
  have m3 : hmAt (n * f) (n * g + b) n ⟨f - 1, g + 2⟩ = 3 * (n * n) - 3 * (n * b) + b * b := by
    simp only [hmAt, hmet]
    grind
  have m4 : hmAt (n * f) (n * g + b) n ⟨f, g - 1⟩ = 1 * (n * n) - (-2) * (n * b) + b * b := by
    simp only [hmAt, hmet]
    grind
  have m5 : hmAt (n * f) (n * g + b) n ⟨f, g⟩ = 0 * (n * n) - 0 * (n * b) + b * b := by
    simp only [hmAt, hmet]
    grind
  have m6 : hmAt (n * f) (n * g + b) n ⟨f, g + 1⟩ = 1 * (n * n) - 2 * (n * b) + b * b := by
    simp only [hmAt, hmet]
    grind
  have m7 : hmAt (n * f) (n * g + b) n ⟨f, g + 2⟩ = 4 * (n * n) - 4 * (n * b) + b * b := by
    simp only [hmAt, hmet]
    grind
  have m8 : hmAt (n * f) (n * g + b) n ⟨f + 1, g - 1⟩ = 1 * (n * n) - (-1) * (n * b) + b * b := by
    simp only [hmAt, hmet]
    grind
  have m9 : hmAt (n * f) (n * g + b) n ⟨f + 1, g⟩ = 1 * (n * n) - 1 * (n * b) + b * b := by
    simp only [hmAt, hmet]
    grind
  have m10 : hmAt (n * f) (n * g + b) n ⟨f + 1, g + 1⟩ = 3 * (n * n) - 3 * (n * b) + b * b := by
    simp only [hmAt, hmet]
    grind
  have m11 : hmAt (n * f) (n * g + b) n ⟨f + 1, g + 2⟩ = 7 * (n * n) - 5 * (n * b) + b * b := by
    simp only [hmAt, hmet]
    grind
  have m12 : hmAt (n * f) (n * g + b) n ⟨f + 2, g - 1⟩ = 3 * (n * n) - 0 * (n * b) + b * b := by
    simp only [hmAt, hmet]
    grind
  have m13 : hmAt (n * f) (n * g + b) n ⟨f + 2, g⟩ = 4 * (n * n) - 2 * (n * b) + b * b := by
    simp only [hmAt, hmet]
    grind
  have m14 : hmAt (n * f) (n * g + b) n ⟨f + 2, g + 1⟩ = 7 * (n * n) - 4 * (n * b) + b * b := by
    simp only [hmAt, hmet]
    grind
  have m15 : hmAt (n * f) (n * g + b) n ⟨f + 2, g + 2⟩ = 12 * (n * n) - 6 * (n * b) + b * b := by
    simp only [hmAt, hmet]
    grind
  have p1 := Int.mul_pos hn.1 (show 0 < n - 2 * b by omega)
  have p2 := Int.mul_nonneg hb.1 (show 0 ≤ n - 2 * b by omega)
  have p3 := Int.mul_pos hn.1 (show 0 < n - b by omega)
  have p4 := Int.mul_nonneg hb.1 (show 0 ≤ n - b by omega)
  have p5 := Int.mul_nonneg hb.1 hb.1
  have p6 := Int.mul_nonneg (show 0 ≤ n - b by omega) (show 0 ≤ n - b by omega)
  have p7 := Int.mul_pos hn.1 hn.1
  simp only [Int.mul_sub, Int.sub_mul, Int.mul_comm b n, Int.mul_comm b (2 * n), ← Int.mul_assoc, Int.mul_comm n 2, Int.mul_comm b 2] at p1 p2 p3 p4 p5 p6 p7
  simp only [Int.mul_assoc, Int.mul_comm b n] at p1 p2 p3 p4 p5 p6 p7
  generalize n * n = P at *
  generalize n * b = X at *
  generalize b * b = Y at *
  rw [nearFold (mn := Y) (by clear m0 m1 m2 m3 m4 m5 m6 m7 m8 m9 m10 m11 m12 m13 m14 m15; omega) (cells16 f g) (-1) [] (.inl (by decide)) (by
    intro x hx
    simp only [cells16, List.mem_cons, List.not_mem_nil, or_false] at hx
    rcases hx with rfl | rfl | rfl | rfl | rfl | rfl | rfl | rfl | rfl | rfl | rfl | rfl | rfl | rfl | rfl | rfl
    · rw [m0]; clear m0 m1 m2 m3 m4 m5 m6 m7 m8 m9 m10 m11 m12 m13 m14 m15; omega
    · rw [m1]; clear m0 m1 m2 m3 m4 m5 m6 m7 m8 m9 m10 m11 m12 m13 m14 m15; omega
    · rw [m2]; clear m0 m1 m2 m3 m4 m5 m6 m7 m8 m9 m10 m11 m12 m13 m14 m15; omega
    · rw [m3]; clear m0 m1 m2 m3 m4 m5 m6 m7 m8 m9 m10 m11 m12 m13 m14 m15; omega
    · rw [m4]; clear m0 m1 m2 m3 m4 m5 m6 m7 m8 m9 m10 m11 m12 m13 m14 m15; omega
    · rw [m5]; clear m0 m1 m2 m3 m4 m5 m6 m7 m8 m9 m10 m11 m12 m13 m14 m15; omega
    · rw [m6]; clear m0 m1 m2 m3 m4 m5 m6 m7 m8 m9 m10 m11 m12 m13 m14 m15; omega
    · rw [m7]; clear m0 m1 m2 m3 m4 m5 m6 m7 m8 m9 m10 m11 m12 m13 m14 m15; omega
    · rw [m8]; clear m0 m1 m2 m3 m4 m5 m6 m7 m8 m9 m10 m11 m12 m13 m14 m15; omega
    · rw [m9]; clear m0 m1 m2 m3 m4 m5 m6 m7 m8 m9 m10 m11 m12 m13 m14 m15; omega
    · rw [m10]; clear m0 m1 m2 m3 m4 m5 m6 m7 m8 m9 m10 m11 m12 m13 m14 m15; omega
    · rw [m11]; clear m0 m1 m2 m3 m4 m5 m6 m7 m8 m9 m10 m11 m12 m13 m14 m15; omega
    · rw [m12]; clear m0 m1 m2 m3 m4 m5 m6 m7 m8 m9 m10 m11 m12 m13 m14 m15; omega
    · rw [m13]; clear m0 m1 m2 m3 m4 m5 m6 m7 m8 m9 m10 m11 m12 m13 m14 m15; omega
    · rw [m14]; clear m0 m1 m2 m3 m4 m5 m6 m7 m8 m9 m10 m11 m12 m13 m14 m15; omega
    · rw [m15]; clear m0 m1 m2 m3 m4 m5 m6 m7 m8 m9 m10 m11 m12 m13 m14 m15; omega
    ) (.inr ⟨⟨f, g⟩, by simp [cells16], by rw [m5]; clear m0 m1 m2 m3 m4 m5 m6 m7 m8 m9 m10 m11 m12 m13 m14 m15; omega⟩)]
  rw [if_neg (by clear m0 m1 m2 m3 m4 m5 m6 m7 m8 m9 m10 m11 m12 m13 m14 m15; omega), List.nil_append, cells16]
  rw [List.filter_cons_of_neg (by simp only [decide_eq_true_eq, m0]; clear m0 m1 m2 m3 m4 m5 m6 m7 m8 m9 m10 m11 m12 m13 m14 m15; omega)]
  rw [List.filter_cons_of_neg (by simp only [decide_eq_true_eq, m1]; clear m0 m1 m2 m3 m4 m5 m6 m7 m8 m9 m10 m11 m12 m13 m14 m15; omega)]
  rw [List.filter_cons_of_neg (by simp only [decide_eq_true_eq, m2]; clear m0 m1 m2 m3 m4 m5 m6 m7 m8 m9 m10 m11 m12 m13 m14 m15; omega)]
  rw [List.filter_cons_of_neg (by simp only [decide_eq_true_eq, m3]; clear m0 m1 m2 m3 m4 m5 m6 m7 m8 m9 m10 m11 m12 m13 m14 m15; omega)]
  rw [List.filter_cons_of_neg (by simp only [decide_eq_true_eq, m4]; clear m0 m1 m2 m3 m4 m5 m6 m7 m8 m9 m10 m11 m12 m13 m14 m15; omega)]
  rw [List.filter_cons_of_pos (by simp only [decide_eq_true_eq, m5]; clear m0 m1 m2 m3 m4 m5 m6 m7 m8 m9 m10 m11 m12 m13 m14 m15; omega)]
  rw [List.filter_cons_of_neg (by simp only [decide_eq_true_eq, m6]; clear m0 m1 m2 m3 m4 m5 m6 m7 m8 m9 m10 m11 m12 m13 m14 m15; omega)]
  rw [List.filter_cons_of_neg (by simp only [decide_eq_true_eq, m7]; clear m0 m1 m2 m3 m4 m5 m6 m7 m8 m9 m10 m11 m12 m13 m14 m15; omega)]
  rw [List.filter_cons_of_neg (by simp only [decide_eq_true_eq, m8]; clear m0 m1 m2 m3 m4 m5 m6 m7 m8 m9 m10 m11 m12 m13 m14 m15; omega)]
  rw [List.filter_cons_of_neg (by simp only [decide_eq_true_eq, m9]; clear m0 m1 m2 m3 m4 m5 m6 m7 m8 m9 m10 m11 m12 m13 m14 m15; omega)]
  rw [List.filter_cons_of_neg (by simp only [decide_eq_true_eq, m10]; clear m0 m1 m2 m3 m4 m5 m6 m7 m8 m9 m10 m11 m12 m13 m14 m15; omega)]
  rw [List.filter_cons_of_neg (by simp only [decide_eq_true_eq, m11]; clear m0 m1 m2 m3 m4 m5 m6 m7 m8 m9 m10 m11 m12 m13 m14 m15; omega)]
  rw [List.filter_cons_of_neg (by simp only [decide_eq_true_eq, m12]; clear m0 m1 m2 m3 m4 m5 m6 m7 m8 m9 m10 m11 m12 m13 m14 m15; omega)]
  rw [List.filter_cons_of_neg (by simp only [decide_eq_true_eq, m13]; clear m0 m1 m2 m3 m4 m5 m6 m7 m8 m9 m10 m11 m12 m13 m14 m15; omega)]
  rw [List.filter_cons_of_neg (by simp only [decide_eq_true_eq, m14]; clear m0 m1 m2 m3 m4 m5 m6 m7 m8 m9 m10 m11 m12 m13 m14 m15; omega)]
  rw [List.filter_cons_of_neg (by simp only [decide_eq_true_eq, m15]; clear m0 m1 m2 m3 m4 m5 m6 m7 m8 m9 m10 m11 m12 m13 m14 m15; omega)]
  rfl

theorem nearA2 {n f g b : Int} (hn : 0 < n ∧ n ≤ 200) (hb : 0 ≤ b ∧ b < n) (h : n < 2 * b) :
    ((cells16 f g).foldl (nearStep (hmAt (n * f) (n * g + b) n)) (-1, [])).2 = [⟨f, g + 1⟩] := by
  have m0 : hmAt (n * f) (n * g + b) n ⟨f - 1, g - 1⟩ = 3 * (n * n) - (-3) * (n * b) + b * b := by
    simp only [hmAt, hmet]
    grind
  have m1 : hmAt (n * f) (n * g + b) n ⟨f - 1, g⟩ = 1 * (n * n) - (-1) * (n * b) + b * b := by
    simp only [hmAt, hmet]
    grind
  have m2 : hmAt (n * f) (n * g + b) n ⟨f - 1, g + 1⟩ = 1 * (n * n) - 1 * (n * b) + b * b := by
    simp only [hmAt, hmet]
    grind
  have m3 : hmAt (n * f) (n * g + b) n ⟨f - 1, g + 2⟩ = 3 * (n * n) - 3 * (n * b) + b * b := by
    simp only [hmAt, hmet]
    grind
  have m4 : hmAt (n * f) (n * g + b) n ⟨f, g - 1⟩ = 1 * (n * n) - (-2) * (n * b) + b * b := by
    simp only [hmAt, hmet]
    grind
  have m5 : hmAt (n * f) (n * g + b) n ⟨f, g⟩ = 0 * (n * n) - 0 * (n * b) + b * b := by
    simp only [hmAt, hmet]
    grind
  have m6 : hmAt (n * f) (n * g + b) n ⟨f, g + 1⟩ = 1 * (n * n) - 2 * (n * b) + b * b := by
    simp only [hmAt, hmet]
    grind
  have m7 : hmAt (n * f) (n * g + b) n ⟨f, g + 2⟩ = 4 * (n * n) - 4 * (n * b) + b * b := by
    simp only [hmAt, hmet]
    grind
  have m8 : hmAt (n * f) (n * g + b) n ⟨f + 1, g - 1⟩ = 1 * (n * n) - (-1) * (n * b) + b * b := by
    simp only [hmAt, hmet]
    grind
  have m9 : hmAt (n * f) (n * g + b) n ⟨f + 1, g⟩ = 1 * (n * n) - 1 * (n * b) + b * b := by
    simp only [hmAt, hmet]
    grind
  have m10 : hmAt (n * f) (n * g + b) n ⟨f + 1, g + 1⟩ = 3 * (n * n) - 3 * (n * b) + b * b := by
    simp only [hmAt, hmet]
    grind
  have m11 : hmAt (n * f) (n * g + b) n ⟨f + 1, g + 2⟩ = 7 * (n * n) - 5 * (n * b) + b * b := by
    simp only [hmAt, hmet]
    grind
  have m12 : hmAt (n * f) (n * g + b) n ⟨f + 2, g - 1⟩ = 3 * (n * n) - 0 * (n * b) + b * b := by
    simp only [hmAt, hmet]
    grind
  have m13 : hmAt (n * f) (n * g + b) n ⟨f + 2, g⟩ = 4 * (n * n) - 2 * (n * b) + b * b := by
    simp only [hmAt, hmet]
    grind
  have m14 : hmAt (n * f) (n * g + b) n ⟨f + 2, g + 1⟩ = 7 * (n * n) - 4 * (n * b) + b * b := by
    simp only [hmAt, hmet]
    grind
  have m15 : hmAt (n * f) (n * g + b) n ⟨f + 2, g + 2⟩ = 12 * (n * n) - 6 * (n * b) + b * b := by
    simp only [hmAt, hmet]
    grind
  have p1 := Int.mul_pos hn.1 (show 0 < 2 * b - n by omega)
  have p2 := Int.mul_nonneg (show 0 ≤ n - b by omega) (show 0 ≤ 2 * b - n by omega)
  have p3 := Int.mul_pos hn.1 (show 0 < n - b by omega)
  have p4 := Int.mul_nonneg hb.1 (show 0 ≤ n - b by omega)
  have p5 := Int.mul_nonneg hb.1 hb.1
  have p6 := Int.mul_nonneg (show 0 ≤ n - b by omega) (show 0 ≤ n - b by omega)
  have p7 := Int.mul_pos hn.1 hn.1
  simp only [Int.mul_sub, Int.sub_mul, Int.mul_comm b n, Int.mul_comm b (2 * n), ← Int.mul_assoc, Int.mul_comm n 2, Int.mul_comm b 2] at p1 p2 p3 p4 p5 p6 p7
  simp only [Int.mul_assoc, Int.mul_comm b n] at p1 p2 p3 p4 p5 p6 p7
  generalize n * n = P at *
  generalize n * b = X at *
  generalize b * b = Y at *
  rw [nearFold (mn := P - 2 * (X) + Y) (by clear m0 m1 m2 m3 m4 m5 m6 m7 m8 m9 m10 m11 m12 m13 m14 m15; omega) (cells16 f g) (-1) [] (.inl (by decide)) (by
    intro x hx
    simp only [cells16, List.mem_cons, List.not_mem_nil, or_false] at hx
    rcases hx with rfl | rfl | rfl | rfl | rfl | rfl | rfl | rfl | rfl | rfl | rfl | rfl | rfl | rfl | rfl | rfl
    · rw [m0]; clear m0 m1 m2 m3 m4 m5 m6 m7 m8 m9 m10 m11 m12 m13 m14 m15; omega
    · rw [m1]; clear m0 m1 m2 m3 m4 m5 m6 m7 m8 m9 m10 m11 m12 m13 m14 m15; omega
    · rw [m2]; clear m0 m1 m2 m3 m4 m5 m6 m7 m8 m9 m10 m11 m12 m13 m14 m15; omega
    · rw [m3]; clear m0 m1 m2 m3 m4 m5 m6 m7 m8 m9 m10 m11 m12 m13 m14 m15; omega
    · rw [m4]; clear m0 m1 m2 m3 m4 m5 m6 m7 m8 m9 m10 m11 m12 m13 m14 m15; omega
    · rw [m5]; clear m0 m1 m2 m3 m4 m5 m6 m7 m8 m9 m10 m11 m12 m13 m14 m15; omega
    · rw [m6]; clear m0 m1 m2 m3 m4 m5 m6 m7 m8 m9 m10 m11 m12 m13 m14 m15; omega
    · rw [m7]; clear m0 m1 m2 m3 m4 m5 m6 m7 m8 m9 m10 m11 m12 m13 m14 m15; omega
    · rw [m8]; clear m0 m1 m2 m3 m4 m5 m6 m7 m8 m9 m10 m11 m12 m13 m14 m15; omega
    · rw [m9]; clear m0 m1 m2 m3 m4 m5 m6 m7 m8 m9 m10 m11 m12 m13 m14 m15; omega
    · rw [m10]; clear m0 m1 m2 m3 m4 m5 m6 m7 m8 m9 m10 m11 m12 m13 m14 m15; omega
    · rw [m11]; clear m0 m1 m2 m3 m4 m5 m6 m7 m8 m9 m10 m11 m12 m13 m14 m15; omega
    · rw [m12]; clear m0 m1 m2 m3 m4 m5 m6 m7 m8 m9 m10 m11 m12 m13 m14 m15; omega
    · rw [m13]; clear m0 m1 m2 m3 m4 m5 m6 m7 m8 m9 m10 m11 m12 m13 m14 m15; omega
    · rw [m14]; clear m0 m1 m2 m3 m4 m5 m6 m7 m8 m9 m10 m11 m12 m13 m14 m15; omega
    · rw [m15]; clear m0 m1 m2 m3 m4 m5 m6 m7 m8 m9 m10 m11 m12 m13 m14 m15; omega
    ) (.inr ⟨⟨f, g + 1⟩, by simp [cells16], by rw [m6]; clear m0 m1 m2 m3 m4 m5 m6 m7 m8 m9 m10 m11 m12 m13 m14 m15; omega⟩)]
  rw [if_neg (by clear m0 m1 m2 m3 m4 m5 m6 m7 m8 m9 m10 m11 m12 m13 m14 m15; omega), List.nil_append, cells16]
  rw [List.filter_cons_of_neg (by simp only [decide_eq_true_eq, m0]; clear m0 m1 m2 m3 m4 m5 m6 m7 m8 m9 m10 m11 m12 m13 m14 m15; omega)]
  rw [List.filter_cons_of_neg (by simp only [decide_eq_true_eq, m1]; clear m0 m1 m2 m3 m4 m5 m6 m7 m8 m9 m10 m11 m12 m13 m14 m15; omega)]
  rw [List.filter_cons_of_neg (by simp only [decide_eq_true_eq, m2]; clear m0 m1 m2 m3 m4 m5 m6 m7 m8 m9 m10 m11 m12 m13 m14 m15; omega)]
  rw [List.filter_cons_of_neg (by simp only [decide_eq_true_eq, m3]; clear m0 m1 m2 m3 m4 m5 m6 m7 m8 m9 m10 m11 m12 m13 m14 m15; omega)]
  rw [List.filter_cons_of_neg (by simp only [decide_eq_true_eq, m4]; clear m0 m1 m2 m3 m4 m5 m6 m7 m8 m9 m10 m11 m12 m13 m14 m15; omega)]
  rw [List.filter_cons_of_neg (by simp only [decide_eq_true_eq, m5]; clear m0 m1 m2 m3 m4 m5 m6 m7 m8 m9 m10 m11 m12 m13 m14 m15; omega)]
  rw [List.filter_cons_of_pos (by simp only [decide_eq_true_eq, m6]; clear m0 m1 m2 m3 m4 m5 m6 m7 m8 m9 m10 m11 m12 m13 m14 m15; omega)]
  rw [List.filter_cons_of_neg (by simp only [decide_eq_true_eq, m7]; clear m0 m1 m2 m3 m4 m5 m6 m7 m8 m9 m10 m11 m12 m13 m14 m15; omega)]
  rw [List.filter_cons_of_neg (by simp only [decide_eq_true_eq, m8]; clear m0 m1 m2 m3 m4 m5 m6 m7 m8 m9 m10 m11 m12 m13 m14 m15; omega)]
  rw [List.filter_cons_of_neg (by simp only [decide_eq_true_eq, m9]; clear m0 m1 m2 m3 m4 m5 m6 m7 m8 m9 m10 m11 m12 m13 m14 m15; omega)]
  rw [List.filter_cons_of_neg (by simp only [decide_eq_true_eq, m10]; clear m0 m1 m2 m3 m4 m5 m6 m7 m8 m9 m10 m11 m12 m13 m14 m15; omega)]
  rw [List.filter_cons_of_neg (by simp only [decide_eq_true_eq, m11]; clear m0 m1 m2 m3 m4 m5 m6 m7 m8 m9 m10 m11 m12 m13 m14 m15; omega)]
  rw [List.filter_cons_of_neg (by simp only [decide_eq_true_eq, m12]; clear m0 m1 m2 m3 m4 m5 m6 m7 m8 m9 m10 m11 m12 m13 m14 m15; omega)]
  rw [List.filter_cons_of_neg (by simp only [decide_eq_true_eq, m13]; clear m0 m1 m2 m3 m4 m5 m6 m7 m8 m9 m10 m11 m12 m13 m14 m15; omega)]
  rw [List.filter_cons_of_neg (by simp only [decide_eq_true_eq, m14]; clear m0 m1 m2 m3 m4 m5 m6 m7 m8 m9 m10 m11 m12 m13 m14 m15; omega)]
  rw [List.filter_cons_of_neg (by simp only [decide_eq_true_eq, m15]; clear m0 m1 m2 m3 m4 m5 m6 m7 m8 m9 m10 m11 m12 m13 m14 m15; omega)]
  rfl

theorem nearA3 {n f g b : Int} (hn : 0 < n ∧ n ≤ 200) (hb : 0 ≤ b ∧ b < n) (h : 2 * b = n) :
    ((cells16 f g).foldl (nearStep (hmAt (n * f) (n * g + b) n)) (-1, [])).2 = [⟨f, g⟩, ⟨f, g + 1⟩] := by
  have m0 : hmAt (n * f) (n * g + b) n ⟨f - 1, g - 1⟩ = 3 * (n * n) - (-3) * (n * b) + b * b := by
    simp only [hmAt, hmet]
    grind
  have m1 : hmAt (n * f) (n * g + b) n ⟨f - 1, g⟩ = 1 * (n * n) - (-1) * (n * b) + b * b := by
    simp only [hmAt, hmet]
    grind
  have m2 : hmAt (n * f) (n * g + b) n ⟨f - 1, g + 1⟩ = 1 * (n * n) - 1 * (n * b) + b * b := by
    simp only [hmAt, hmet]
    grind
  have m3 : hmAt (n * f) (n * g + b) n ⟨f - 1, g + 2⟩ = 3 * (n * n) - 3 * (n * b) + b * b := by
    simp only [hmAt, hmet]
    grind
  have m4 : hmAt (n * f) (n * g + b) n ⟨f, g - 1⟩ = 1 * (n * n) - (-2) * (n * b) + b * b := by
    simp only [hmAt, hmet]
    grind
  have m5 : hmAt (n * f) (n * g + b) n ⟨f, g⟩ = 0 * (n * n) - 0 * (n * b) + b * b := by
    simp only [hmAt, hmet]
    grind
  have m6 : hmAt (n * f) (n * g + b) n ⟨f, g + 1⟩ = 1 * (n * n) - 2 * (n * b) + b * b := by
    simp only [hmAt, hmet]
    grind
  have m7 : hmAt (n * f) (n * g + b) n ⟨f, g + 2⟩ = 4 * (n * n) - 4 * (n * b) + b * b := by
    simp only [hmAt, hmet]
    grind
  have m8 : hmAt (n * f) (n * g + b) n ⟨f + 1, g - 1⟩ = 1 * (n * n) - (-1) * (n * b) + b * b := by
    simp only [hmAt, hmet]
    grind
  have m9 : hmAt (n * f) (n * g + b) n ⟨f + 1, g⟩ = 1 * (n * n) - 1 * (n * b) + b * b := by
    simp only [hmAt, hmet]
    grind
  have m10 : hmAt (n * f) (n * g + b) n ⟨f + 1, g + 1⟩ = 3 * (n * n) - 3 * (n * b) + b * b := by
    simp only [hmAt, hmet]
    grind
  have m11 : hmAt (n * f) (n * g + b) n ⟨f + 1, g + 2⟩ = 7 * (n * n) - 5 * (n * b) + b * b := by
    simp only [hmAt, hmet]
    grind
  have m12 : hmAt (n * f) (n * g + b) n ⟨f + 2, g - 1⟩ = 3 * (n * n) - 0 * (n * b) + b * b := by
    simp only [hmAt, hmet]
    grind
  have m13 : hmAt (n * f) (n * g + b) n ⟨f + 2, g⟩ = 4 * (n * n) - 2 * (n * b) + b * b := by
    simp only [hmAt, hmet]
    grind
  have m14 : hmAt (n * f) (n * g + b) n ⟨f + 2, g + 1⟩ = 7 * (n * n) - 4 * (n * b) + b * b := by
    simp only [hmAt, hmet]
    grind
  have m15 : hmAt (n * f) (n * g + b) n ⟨f + 2, g + 2⟩ = 12 * (n * n) - 6 * (n * b) + b * b := by
    simp only [hmAt, hmet]
    grind
  have p1 : n * (n - 2 * b) = 0 := by rw [show n - 2 * b = 0 by omega, Int.mul_zero]
  have p2 : b * (n - 2 * b) = 0 := by rw [show n - 2 * b = 0 by omega, Int.mul_zero]
  have p3 := Int.mul_pos hn.1 (show 0 < n - b by omega)
  have p4 := Int.mul_nonneg hb.1 (show 0 ≤ n - b by omega)
  have p5 := Int.mul_nonneg hb.1 hb.1
  have p6 := Int.mul_nonneg (show 0 ≤ n - b by omega) (show 0 ≤ n - b by omega)
  have p7 := Int.mul_pos hn.1 hn.1
  simp only [Int.mul_sub, Int.sub_mul, Int.mul_comm b n, Int.mul_comm b (2 * n), ← Int.mul_assoc, Int.mul_comm n 2, Int.mul_comm b 2] at p1 p2 p3 p4 p5 p6 p7
  simp only [Int.mul_assoc, Int.mul_comm b n] at p1 p2 p3 p4 p5 p6 p7
  generalize n * n = P at *
  generalize n * b = X at *
  generalize b * b = Y at *
  rw [nearFold (mn := Y) (by clear m0 m1 m2 m3 m4 m5 m6 m7 m8 m9 m10 m11 m12 m13 m14 m15; omega) (cells16 f g) (-1) [] (.inl (by decide)) (by
    intro x hx
    simp only [cells16, List.mem_cons, List.not_mem_nil, or_false] at hx
    rcases hx with rfl | rfl | rfl | rfl | rfl | rfl | rfl | rfl | rfl | rfl | rfl | rfl | rfl | rfl | rfl | rfl
    · rw [m0]; clear m0 m1 m2 m3 m4 m5 m6 m7 m8 m9 m10 m11 m12 m13 m14 m15; omega
    · rw [m1]; clear m0 m1 m2 m3 m4 m5 m6 m7 m8 m9 m10 m11 m12 m13 m14 m15; omega
    · rw [m2]; clear m0 m1 m2 m3 m4 m5 m6 m7 m8 m9 m10 m11 m12 m13 m14 m15; omega
    · rw [m3]; clear m0 m1 m2 m3 m4 m5 m6 m7 m8 m9 m10 m11 m12 m13 m14 m15; omega
    · rw [m4]; clear m0 m1 m2 m3 m4 m5 m6 m7 m8 m9 m10 m11 m12 m13 m14 m15; omega
    · rw [m5]; clear m0 m1 m2 m3 m4 m5 m6 m7 m8 m9 m10 m11 m12 m13 m14 m15; omega
    · rw [m6]; clear m0 m1 m2 m3 m4 m5 m6 m7 m8 m9 m10 m11 m12 m13 m14 m15; omega
    · rw [m7]; clear m0 m1 m2 m3 m4 m5 m6 m7 m8 m9 m10 m11 m12 m13 m14 m15; omega
    · rw [m8]; clear m0 m1 m2 m3 m4 m5 m6 m7 m8 m9 m10 m11 m12 m13 m14 m15; omega
    · rw [m9]; clear m0 m1 m2 m3 m4 m5 m6 m7 m8 m9 m10 m11 m12 m13 m14 m15; omega
    · rw [m10]; clear m0 m1 m2 m3 m4 m5 m6 m7 m8 m9 m10 m11 m12 m13 m14 m15; omega
    · rw [m11]; clear m0 m1 m2 m3 m4 m5 m6 m7 m8 m9 m10 m11 m12 m13 m14 m15; omega
    · rw [m12]; clear m0 m1 m2 m3 m4 m5 m6 m7 m8 m9 m10 m11 m12 m13 m14 m15; omega
    · rw [m13]; clear m0 m1 m2 m3 m4 m5 m6 m7 m8 m9 m10 m11 m12 m13 m14 m15; omega
    · rw [m14]; clear m0 m1 m2 m3 m4 m5 m6 m7 m8 m9 m10 m11 m12 m13 m14 m15; omega
    · rw [m15]; clear m0 m1 m2 m3 m4 m5 m6 m7 m8 m9 m10 m11 m12 m13 m14 m15; omega
    ) (.inr ⟨⟨f, g⟩, by simp [cells16], by rw [m5]; clear m0 m1 m2 m3 m4 m5 m6 m7 m8 m9 m10 m11 m12 m13 m14 m15; omega⟩)]
  rw [if_neg (by clear m0 m1 m2 m3 m4 m5 m6 m7 m8 m9 m10 m11 m12 m13 m14 m15; omega), List.nil_append, cells16]
  rw [List.filter_cons_of_neg (by simp only [decide_eq_true_eq, m0]; clear m0 m1 m2 m3 m4 m5 m6 m7 m8 m9 m10 m11 m12 m13 m14 m15; omega)]
  rw [List.filter_cons_of_neg (by simp only [decide_eq_true_eq, m1]; clear m0 m1 m2 m3 m4 m5 m6 m7 m8 m9 m10 m11 m12 m13 m14 m15; omega)]
  rw [List.filter_cons_of_neg (by simp only [decide_eq_true_eq, m2]; clear m0 m1 m2 m3 m4 m5 m6 m7 m8 m9 m10 m11 m12 m13 m14 m15; omega)]
  rw [List.filter_cons_of_neg (by simp only [decide_eq_true_eq, m3]; clear m0 m1 m2 m3 m4 m5 m6 m7 m8 m9 m10 m11 m12 m13 m14 m15; omega)]
  rw [List.filter_cons_of_neg (by simp only [decide_eq_true_eq, m4]; clear m0 m1 m2 m3 m4 m5 m6 m7 m8 m9 m10 m11 m12 m13 m14 m15; omega)]
  rw [List.filter_cons_of_pos (by simp only [decide_eq_true_eq, m5]; clear m0 m1 m2 m3 m4 m5 m6 m7 m8 m9 m10 m11 m12 m13 m14 m15; omega)]
  rw [List.filter_cons_of_pos (by simp only [decide_eq_true_eq, m6]; clear m0 m1 m2 m3 m4 m5 m6 m7 m8 m9 m10 m11 m12 m13 m14 m15; omega)]
  rw [List.filter_cons_of_neg (by simp only [decide_eq_true_eq, m7]; clear m0 m1 m2 m3 m4 m5 m6 m7 m8 m9 m10 m11 m12 m13 m14 m15; omega)]
  rw [List.filter_cons_of_neg (by simp only [decide_eq_true_eq, m8]; clear m0 m1 m2 m3 m4 m5 m6 m7 m8 m9 m10 m11 m12 m13 m14 m15; omega)]
  rw [List.filter_cons_of_neg (by simp only [decide_eq_true_eq, m9]; clear m0 m1 m2 m3 m4 m5 m6 m7 m8 m9 m10 m11 m12 m13 m14 m15; omega)]
  rw [List.filter_cons_of_neg (by simp only [decide_eq_true_eq, m10]; clear m0 m1 m2 m3 m4 m5 m6 m7 m8 m9 m10 m11 m12 m13 m14 m15; omega)]
  rw [List.filter_cons_of_neg (by simp only [decide_eq_true_eq, m11]; clear m0 m1 m2 m3 m4 m5 m6 m7 m8 m9 m10 m11 m12 m13 m14 m15; omega)]
  rw [List.filter_cons_of_neg (by simp only [decide_eq_true_eq, m12]; clear m0 m1 m2 m3 m4 m5 m6 m7 m8 m9 m10 m11 m12 m13 m14 m15; omega)]
  rw [List.filter_cons_of_neg (by simp only [decide_eq_true_eq, m13]; clear m0 m1 m2 m3 m4 m5 m6 m7 m8 m9 m10 m11 m12 m13 m14 m15; omega)]
  rw [List.filter_cons_of_neg (by simp only [decide_eq_true_eq, m14]; clear m0 m1 m2 m3 m4 m5 m6 m7 m8 m9 m10 m11 m12 m13 m14 m15; omega)]
  rw [List.filter_cons_of_neg (by simp only [decide_eq_true_eq, m15]; clear m0 m1 m2 m3 m4 m5 m6 m7 m8 m9 m10 m11 m12 m13 m14 m15; omega)]
  rfl

theorem nearB1 {n f g b : Int} (hn : 0 < n ∧ n ≤ 200) (hb : 0 ≤ b ∧ b < n) (h : 2 * b < n) :
    ((cells16 f g).foldl (nearStep (hmAt (n * f + b) (n * g) n)) (-1, [])).2 = [⟨f, g⟩] := by
  have m0 : hmAt (n * f + b) (n * g) n ⟨f - 1, g - 1⟩ = 3 * (n * n) - (-3) * (n * b) + b * b := by
    simp only [hmAt, hmet]
    grind
  have m1 : hmAt (n * f + b) (n * g) n ⟨f - 1, g⟩ = 1 * (n * n) - (-2) * (n * b) + b * b := by
    simp only [hmAt, hmet]
    grind
  have m2 : hmAt (n * f + b) (n * g) n ⟨f - 1, g + 1⟩ = 1 * (n * n) - (-1) * (n * b) + b * b := by
    simp only [hmAt, hmet]
    grind
  have m3 : hmAt (n * f + b) (n * g) n ⟨f - 1, g + 2⟩ = 3 * (n * n) - 0 * (n * b) + b * b := by
    simp only [hmAt, hmet]
    grind
  have m4 : hmAt (n * f + b) (n * g) n ⟨f, g - 1⟩ = 1 * (n * n) - (-1) * (n * b) + b * b := by
    simp only [hmAt, hmet]
    grind
  have m5 : hmAt (n * f + b) (n * g) n ⟨f, g⟩ = 0 * (n * n) - 0 * (n * b) + b * b := by
    simp only [hmAt, hmet]
    grind
  have m6 : hmAt (n * f + b) (n * g) n ⟨f, g + 1⟩ = 1 * (n * n) - 1 * (n * b) + b * b := by
    simp only [hmAt, hmet]
    grind
  have m7 : hmAt (n * f + b) (n * g) n ⟨f, g + 2⟩ = 4 * (n * n) - 2 * (n * b) + b * b := by
    simp only [hmAt, hmet]
    grind
  have m8 : hmAt (n * f + b) (n * g) n ⟨f + 1, g - 1⟩ = 1 * (n * n) - 1 * (n * b) + b * b := by
    simp only [hmAt, hmet]
    grind
  have m9 : hmAt (n * f + b) (n * g) n ⟨f + 1, g⟩ = 1 * (n * n) - 2 * (n * b) + b * b := by
    simp only [hmAt, hmet]
    grind
  have m10 : hmAt (n * f + b) (n * g) n ⟨f + 1, g + 1⟩ = 3 * (n * n) - 3 * (n * b) + b * b := by
    simp only [hmAt, hmet]
    grind
  have m11 : hmAt (n * f + b) (n * g) n ⟨f + 1, g + 2⟩ = 7 * (n * n) - 4 * (n * b) + b * b := by
    simp only [hmAt, hmet]
    grind
  have m12 : hmAt (n * f + b) (n * g) n ⟨f + 2, g - 1⟩ = 3 * (n * n) - 3 * (n * b) + b * b := by
    simp only [hmAt, hmet]
    grind
  have m13 : hmAt (n * f + b) (n * g) n ⟨f + 2, g⟩ = 4 * (n * n) - 4 * (n * b) + b * b := by
    simp only [hmAt, hmet]
    grind
  have m14 : hmAt (n * f + b) (n * g) n ⟨f + 2, g + 1⟩ = 7 * (n * n) - 5 * (n * b) + b * b := by
    simp only [hmAt, hmet]
    grind
  have m15 : hmAt (n * f + b) (n * g) n ⟨f + 2, g + 2⟩ = 12 * (n * n) - 6 * (n * b) + b * b := by
    simp only [hmAt, hmet]
    grind
  have p1 := Int.mul_pos hn.1 (show 0 < n - 2 * b by omega)
  have p2 := Int.mul_nonneg hb.1 (show 0 ≤ n - 2 * b by omega)
  have p3 := Int.mul_pos hn.1 (show 0 < n - b by omega)
  have p4 := Int.mul_nonneg hb.1 (show 0 ≤ n - b by omega)
  have p5 := Int.mul_nonneg hb.1 hb.1
  have p6 := Int.mul_nonneg (show 0 ≤ n - b by omega) (show 0 ≤ n - b by omega)
  have p7 := Int.mul_pos hn.1 hn.1
  simp only [Int.mul_sub, Int.sub_mul, Int.mul_comm b n, Int.mul_comm b (2 * n), ← Int.mul_assoc, Int.mul_comm n 2, Int.mul_comm b 2] at p1 p2 p3 p4 p5 p6 p7
  simp only [Int.mul_assoc, Int.mul_comm b n] at p1 p2 p3 p4 p5 p6 p7
  generalize n * n = P at *
  generalize n * b = X at *
  generalize b * b = Y at *
  rw [nearFold (mn := Y) (by clear m0 m1 m2 m3 m4 m5 m6 m7 m8 m9 m10 m11 m12 m13 m14 m15; omega) (cells16 f g) (-1) [] (.inl (by decide)) (by
    intro x hx
    simp only [cells16, List.mem_cons, List.not_mem_nil, or_false] at hx
    rcases hx with rfl | rfl | rfl | rfl | rfl | rfl | rfl | rfl | rfl | rfl | rfl | rfl | rfl | rfl | rfl | rfl
    · rw [m0]; clear m0 m1 m2 m3 m4 m5 m6 m7 m8 m9 m10 m11 m12 m13 m14 m15; omega
    · rw [m1]; clear m0 m1 m2 m3 m4 m5 m6 m7 m8 m9 m10 m11 m12 m13 m14 m15; omega
    · rw [m2]; clear m0 m1 m2 m3 m4 m5 m6 m7 m8 m9 m10 m11 m12 m13 m14 m15; omega
    · rw [m3]; clear m0 m1 m2 m3 m4 m5 m6 m7 m8 m9 m10 m11 m12 m13 m14 m15; omega
    · rw [m4]; clear m0 m1 m2 m3 m4 m5 m6 m7 m8 m9 m10 m11 m12 m13 m14 m15; omega
    · rw [m5]; clear m0 m1 m2 m3 m4 m5 m6 m7 m8 m9 m10 m11 m12 m13 m14 m15; omega
    · rw [m6]; clear m0 m1 m2 m3 m4 m5 m6 m7 m8 m9 m10 m11 m12 m13 m14 m15; omega
    · rw [m7]; clear m0 m1 m2 m3 m4 m5 m6 m7 m8 m9 m10 m11 m12 m13 m14 m15; omega
    · rw [m8]; clear m0 m1 m2 m3 m4 m5 m6 m7 m8 m9 m10 m11 m12 m13 m14 m15; omega
    · rw [m9]; clear m0 m1 m2 m3 m4 m5 m6 m7 m8 m9 m10 m11 m12 m13 m14 m15; omega
    · rw [m10]; clear m0 m1 m2 m3 m4 m5 m6 m7 m8 m9 m10 m11 m12 m13 m14 m15; omega
    · rw [m11]; clear m0 m1 m2 m3 m4 m5 m6 m7 m8 m9 m10 m11 m12 m13 m14 m15; omega
    · rw [m12]; clear m0 m1 m2 m3 m4 m5 m6 m7 m8 m9 m10 m11 m12 m13 m14 m15; omega
    · rw [m13]; clear m0 m1 m2 m3 m4 m5 m6 m7 m8 m9 m10 m11 m12 m13 m14 m15; omega
    · rw [m14]; clear m0 m1 m2 m3 m4 m5 m6 m7 m8 m9 m10 m11 m12 m13 m14 m15; omega
    · rw [m15]; clear m0 m1 m2 m3 m4 m5 m6 m7 m8 m9 m10 m11 m12 m13 m14 m15; omega
    ) (.inr ⟨⟨f, g⟩, by simp [cells16], by rw [m5]; clear m0 m1 m2 m3 m4 m5 m6 m7 m8 m9 m10 m11 m12 m13 m14 m15; omega⟩)]
  rw [if_neg (by clear m0 m1 m2 m3 m4 m5 m6 m7 m8 m9 m10 m11 m12 m13 m14 m15; omega), List.nil_append, cells16]
  rw [List.filter_cons_of_neg (by simp only [decide_eq_true_eq, m0]; clear m0 m1 m2 m3 m4 m5 m6 m7 m8 m9 m10 m11 m12 m13 m14 m15; omega)]
  rw [List.filter_cons_of_neg (by simp only [decide_eq_true_eq, m1]; clear m0 m1 m2 m3 m4 m5 m6 m7 m8 m9 m10 m11 m12 m13 m14 m15; omega)]
  rw [List.filter_cons_of_neg (by simp only [decide_eq_true_eq, m2]; clear m0 m1 m2 m3 m4 m5 m6 m7 m8 m9 m10 m11 m12 m13 m14 m15; omega)]
  rw [List.filter_cons_of_neg (by simp only [decide_eq_true_eq, m3]; clear m0 m1 m2 m3 m4 m5 m6 m7 m8 m9 m10 m11 m12 m13 m14 m15; omega)]
  rw [List.filter_cons_of_neg (by simp only [decide_eq_true_eq, m4]; clear m0 m1 m2 m3 m4 m5 m6 m7 m8 m9 m10 m11 m12 m13 m14 m15; omega)]
  rw [List.filter_cons_of_pos (by simp only [decide_eq_true_eq, m5]; clear m0 m1 m2 m3 m4 m5 m6 m7 m8 m9 m10 m11 m12 m13 m14 m15; omega)]
  rw [List.filter_cons_of_neg (by simp only [decide_eq_true_eq, m6]; clear m0 m1 m2 m3 m4 m5 m6 m7 m8 m9 m10 m11 m12 m13 m14 m15; omega)]
  rw [List.filter_cons_of_neg (by simp only [decide_eq_true_eq, m7]; clear m0 m1 m2 m3 m4 m5 m6 m7 m8 m9 m10 m11 m12 m13 m14 m15; omega)]
  rw [List.filter_cons_of_neg (by simp only [decide_eq_true_eq, m8]; clear m0 m1 m2 m3 m4 m5 m6 m7 m8 m9 m10 m11 m12 m13 m14 m15; omega)]
  rw [List.filter_cons_of_neg (by simp only [decide_eq_true_eq, m9]; clear m0 m1 m2 m3 m4 m5 m6 m7 m8 m9 m10 m11 m12 m13 m14 m15; omega)]
  rw [List.filter_cons_of_neg (by simp only [decide_eq_true_eq, m10]; clear m0 m1 m2 m3 m4 m5 m6 m7 m8 m9 m10 m11 m12 m13 m14 m15; omega)]
  rw [List.filter_cons_of_neg (by simp only [decide_eq_true_eq, m11]; clear m0 m1 m2 m3 m4 m5 m6 m7 m8 m9 m10 m11 m12 m13 m14 m15; omega)]
  rw [List.filter_cons_of_neg (by simp only [decide_eq_true_eq, m12]; clear m0 m1 m2 m3 m4 m5 m6 m7 m8 m9 m10 m11 m12 m13 m14 m15; omega)]
  rw [List.filter_cons_of_neg (by simp only [decide_eq_true_eq, m13]; clear m0 m1 m2 m3 m4 m5 m6 m7 m8 m9 m10 m11 m12 m13 m14 m15; omega)]
  rw [List.filter_cons_of_neg (by simp only [decide_eq_true_eq, m14]; clear m0 m1 m2 m3 m4 m5 m6 m7 m8 m9 m10 m11 m12 m13 m14 m15; omega)]
  rw [List.filter_cons_of_neg (by simp only [decide_eq_true_eq, m15]; clear m0 m1 m2 m3 m4 m5 m6 m7 m8 m9 m10 m11 m12 m13 m14 m15; omega)]
  rfl

theorem nearB2 {n f g b : Int} (hn : 0 < n ∧ n ≤ 200) (hb : 0 ≤ b ∧ b < n) (h : n < 2 * b) :
    ((cells16 f g).foldl (nearStep (hmAt (n * f + b) (n * g) n)) (-1, [])).2 = [⟨f + 1, g⟩] := by
  have m0 : hmAt (n * f + b) (n * g) n ⟨f - 1, g - 1⟩ = 3 * (n * n) - (-3) * (n * b) + b * b := by
    simp only [hmAt, hmet]
    grind
  have m1 : hmAt (n * f + b) (n * g) n ⟨f - 1, g⟩ = 1 * (n * n) - (-2) * (n * b) + b * b := by
    simp only [hmAt, hmet]
    grind
  have m2 : hmAt (n * f + b) (n * g) n ⟨f - 1, g + 1⟩ = 1 * (n * n) - (-1) * (n * b) + b * b := by
    simp only [hmAt, hmet]
    grind
  have m3 : hmAt (n * f + b) (n * g) n ⟨f - 1, g + 2⟩ = 3 * (n * n) - 0 * (n * b) + b * b := by
    simp only [hmAt, hmet]
    grind
  have m4 : hmAt (n * f + b) (n * g) n ⟨f, g - 1⟩ = 1 * (n * n) - (-1) * (n * b) + b * b := by
    simp only [hmAt, hmet]
    grind
  have m5 : hmAt (n * f + b) (n * g) n ⟨f, g⟩ = 0 * (n * n) - 0 * (n * b) + b * b := by
    simp only [hmAt, hmet]
    grind
  have m6 : hmAt (n * f + b) (n * g) n ⟨f, g + 1⟩ = 1 * (n * n) - 1 * (n * b) + b * b := by
    simp only [hmAt, hmet]
    grind
  have m7 : hmAt (n * f + b) (n * g) n ⟨f, g + 2⟩ = 4 * (n * n) - 2 * (n * b) + b * b := by
    simp only [hmAt, hmet]
    grind
  have m8 : hmAt (n * f + b) (n * g) n ⟨f + 1, g - 1⟩ = 1 * (n * n) - 1 * (n * b) + b * b := by
    simp only [hmAt, hmet]
    grind
  have m9 : hmAt (n * f + b) (n * g) n ⟨f + 1, g⟩ = 1 * (n * n) - 2 * (n * b) + b * b := by
    simp only [hmAt, hmet]
    grind
  have m10 : hmAt (n * f + b) (n * g) n ⟨f + 1, g + 1⟩ = 3 * (n * n) - 3 * (n * b) + b * b := by
    simp only [hmAt, hmet]
    grind
  have m11 : hmAt (n * f + b) (n * g) n ⟨f + 1, g + 2⟩ = 7 * (n * n) - 4 * (n * b) + b * b := by
    simp only [hmAt, hmet]
    grind
  have m12 : hmAt (n * f + b) (n * g) n ⟨f + 2, g - 1⟩ = 3 * (n * n) - 3 * (n * b) + b * b := by
    simp only [hmAt, hmet]
    grind
  have m13 : hmAt (n * f + b) (n * g) n ⟨f + 2, g⟩ = 4 * (n * n) - 4 * (n * b) + b * b := by
    simp only [hmAt, hmet]
    grind
  have m14 : hmAt (n * f + b) (n * g) n ⟨f + 2, g + 1⟩ = 7 * (n * n) - 5 * (n * b) + b * b := by
    simp only [hmAt, hmet]
    grind
  have m15 : hmAt (n * f + b) (n * g) n ⟨f + 2, g + 2⟩ = 12 * (n * n) - 6 * (n * b) + b * b := by
    simp only [hmAt, hmet]
    grind
  have p1 := Int.mul_pos hn.1 (show 0 < 2 * b - n by omega)
  have p2 := Int.mul_nonneg (show 0 ≤ n - b by omega) (show 0 ≤ 2 * b - n by omega)
  have p3 := Int.mul_pos hn.1 (show 0 < n - b by omega)
  have p4 := Int.mul_nonneg hb.1 (show 0 ≤ n - b by omega)
  have p5 := Int.mul_nonneg hb.1 hb.1
  have p6 := Int.mul_nonneg (show 0 ≤ n - b by omega) (show 0 ≤ n - b by omega)
  have p7 := Int.mul_pos hn.1 hn.1
  simp only [Int.mul_sub, Int.sub_mul, Int.mul_comm b n, Int.mul_comm b (2 * n), ← Int.mul_assoc, Int.mul_comm n 2, Int.mul_comm b 2] at p1 p2 p3 p4 p5 p6 p7
  simp only [Int.mul_assoc, Int.mul_comm b n] at p1 p2 p3 p4 p5 p6 p7
  generalize n * n = P at *
  generalize n * b = X at *
  generalize b * b = Y at *
  rw [nearFold (mn := P - 2 * (X) + Y) (by clear m0 m1 m2 m3 m4 m5 m6 m7 m8 m9 m10 m11 m12 m13 m14 m15; omega) (cells16 f g) (-1) [] (.inl (by decide)) (by
    intro x hx
    simp only [cells16, List.mem_cons, List.not_mem_nil, or_false] at hx
    rcases hx with rfl | rfl | rfl | rfl | rfl | rfl | rfl | rfl | rfl | rfl | rfl | rfl | rfl | rfl | rfl | rfl
    · rw [m0]; clear m0 m1 m2 m3 m4 m5 m6 m7 m8 m9 m10 m11 m12 m13 m14 m15; omega
    · rw [m1]; clear m0 m1 m2 m3 m4 m5 m6 m7 m8 m9 m10 m11 m12 m13 m14 m15; omega
    · rw [m2]; clear m0 m1 m2 m3 m4 m5 m6 m7 m8 m9 m10 m11 m12 m13 m14 m15; omega
    · rw [m3]; clear m0 m1 m2 m3 m4 m5 m6 m7 m8 m9 m10 m11 m12 m13 m14 m15; omega
    · rw [m4]; clear m0 m1 m2 m3 m4 m5 m6 m7 m8 m9 m10 m11 m12 m13 m14 m15; omega
    · rw [m5]; clear m0 m1 m2 m3 m4 m5 m6 m7 m8 m9 m10 m11 m12 m13 m14 m15; omega
    · rw [m6]; clear m0 m1 m2 m3 m4 m5 m6 m7 m8 m9 m10 m11 m12 m13 m14 m15; omega
    · rw [m7]; clear m0 m1 m2 m3 m4 m5 m6 m7 m8 m9 m10 m11 m12 m13 m14 m15; omega
    · rw [m8]; clear m0 m1 m2 m3 m4 m5 m6 m7 m8 m9 m10 m11 m12 m13 m14 m15; omega
    · rw [m9]; clear m0 m1 m2 m3 m4 m5 m6 m7 m8 m9 m10 m11 m12 m13 m14 m15; omega
    · rw [m10]; clear m0 m1 m2 m3 m4 m5 m6 m7 m8 m9 m10 m11 m12 m13 m14 m15; omega
    · rw [m11]; clear m0 m1 m2 m3 m4 m5 m6 m7 m8 m9 m10 m11 m12 m13 m14 m15; omega
    · rw [m12]; clear m0 m1 m2 m3 m4 m5 m6 m7 m8 m9 m10 m11 m12 m13 m14 m15; omega
    · rw [m13]; clear m0 m1 m2 m3 m4 m5 m6 m7 m8 m9 m10 m11 m12 m13 m14 m15; omega
    · rw [m14]; clear m0 m1 m2 m3 m4 m5 m6 m7 m8 m9 m10 m11 m12 m13 m14 m15; omega
    · rw [m15]; clear m0 m1 m2 m3 m4 m5 m6 m7 m8 m9 m10 m11 m12 m13 m14 m15; omega
    ) (.inr ⟨⟨f + 1, g⟩, by simp [cells16], by rw [m9]; clear m0 m1 m2 m3 m4 m5 m6 m7 m8 m9 m10 m11 m12 m13 m14 m15; omega⟩)]
  rw [if_neg (by clear m0 m1 m2 m3 m4 m5 m6 m7 m8 m9 m10 m11 m12 m13 m14 m15; omega), List.nil_append, cells16]
  rw [List.filter_cons_of_neg (by simp only [decide_eq_true_eq, m0]; clear m0 m1 m2 m3 m4 m5 m6 m7 m8 m9 m10 m11 m12 m13 m14 m15; omega)]
  rw [List.filter_cons_of_neg (by simp only [decide_eq_true_eq, m1]; clear m0 m1 m2 m3 m4 m5 m6 m7 m8 m9 m10 m11 m12 m13 m14 m15; omega)]
  rw [List.filter_cons_of_neg (by simp only [decide_eq_true_eq, m2]; clear m0 m1 m2 m3 m4 m5 m6 m7 m8 m9 m10 m11 m12 m13 m14 m15; omega)]
  rw [List.filter_cons_of_neg (by simp only [decide_eq_true_eq, m3]; clear m0 m1 m2 m3 m4 m5 m6 m7 m8 m9 m10 m11 m12 m13 m14 m15; omega)]
  rw [List.filter_cons_of_neg (by simp only [decide_eq_true_eq, m4]; clear m0 m1 m2 m3 m4 m5 m6 m7 m8 m9 m10 m11 m12 m13 m14 m15; omega)]
  rw [List.filter_cons_of_neg (by simp only [decide_eq_true_eq, m5]; clear m0 m1 m2 m3 m4 m5 m6 m7 m8 m9 m10 m11 m12 m13 m14 m15; omega)]
  rw [List.filter_cons_of_neg (by simp only [decide_eq_true_eq, m6]; clear m0 m1 m2 m3 m4 m5 m6 m7 m8 m9 m10 m11 m12 m13 m14 m15; omega)]
  rw [List.filter_cons_of_neg (by simp only [decide_eq_true_eq, m7]; clear m0 m1 m2 m3 m4 m5 m6 m7 m8 m9 m10 m11 m12 m13 m14 m15; omega)]
  rw [List.filter_cons_of_neg (by simp only [decide_eq_true_eq, m8]; clear m0 m1 m2 m3 m4 m5 m6 m7 m8 m9 m10 m11 m12 m13 m14 m15; omega)]
  rw [List.filter_cons_of_pos (by simp only [decide_eq_true_eq, m9]; clear m0 m1 m2 m3 m4 m5 m6 m7 m8 m9 m10 m11 m12 m13 m14 m15; omega)]
  rw [List.filter_cons_of_neg (by simp only [decide_eq_true_eq, m10]; clear m0 m1 m2 m3 m4 m5 m6 m7 m8 m9 m10 m11 m12 m13 m14 m15; omega)]
  rw [List.filter_cons_of_neg (by simp only [decide_eq_true_eq, m11]; clear m0 m1 m2 m3 m4 m5 m6 m7 m8 m9 m10 m11 m12 m13 m14 m15; omega)]
  rw [List.filter_cons_of_neg (by simp only [decide_eq_true_eq, m12]; clear m0 m1 m2 m3 m4 m5 m6 m7 m8 m9 m10 m11 m12 m13 m14 m15; omega)]
  rw [List.filter_cons_of_neg (by simp only [decide_eq_true_eq, m13]; clear m0 m1 m2 m3 m4 m5 m6 m7 m8 m9 m10 m11 m12 m13 m14 m15; omega)]
  rw [List.filter_cons_of_neg (by simp only [decide_eq_true_eq, m14]; clear m0 m1 m2 m3 m4 m5 m6 m7 m8 m9 m10 m11 m12 m13 m14 m15; omega)]
  rw [List.filter_cons_of_neg (by simp only [decide_eq_true_eq, m15]; clear m0 m1 m2 m3 m4 m5 m6 m7 m8 m9 m10 m11 m12 m13 m14 m15; omega)]
  rfl

theorem nearB3 {n f g b : Int} (hn : 0 < n ∧ n ≤ 200) (hb : 0 ≤ b ∧ b < n) (h : 2 * b = n) :
    ((cells16 f g).foldl (nearStep (hmAt (n * f + b) (n * g) n)) (-1, [])).2 = [⟨f, g⟩, ⟨f + 1, g⟩] := by
  have m0 : hmAt (n * f + b) (n * g) n ⟨f - 1, g - 1⟩ = 3 * (n * n) - (-3) * (n * b) + b * b := by
    simp only [hmAt, hmet]
    grind
  have m1 : hmAt (n * f + b) (n * g) n ⟨f - 1, g⟩ = 1 * (n * n) - (-2) * (n * b) + b * b := by
    simp only [hmAt, hmet]
    grind
  have m2 : hmAt (n * f + b) (n * g) n ⟨f - 1, g + 1⟩ = 1 * (n * n) - (-1) * (n * b) + b * b := by
    simp only [hmAt, hmet]
    grind
  have m3 : hmAt (n * f + b) (n * g) n ⟨f - 1, g + 2⟩ = 3 * (n * n) - 0 * (n * b) + b * b := by
    simp only [hmAt, hmet]
    grind
  have m4 : hmAt (n * f + b) (n * g) n ⟨f, g - 1⟩ = 1 * (n * n) - (-1) * (n * b) + b * b := by
    simp only [hmAt, hmet]
    grind
  have m5 : hmAt (n * f + b) (n * g) n ⟨f, g⟩ = 0 * (n * n) - 0 * (n * b) + b * b := by
    simp only [hmAt, hmet]
    grind
  have m6 : hmAt (n * f + b) (n * g) n ⟨f, g + 1⟩ = 1 * (n * n) - 1 * (n * b) + b * b := by
    simp only [hmAt, hmet]
    grind
  have m7 : hmAt (n * f + b) (n * g) n ⟨f, g + 2⟩ = 4 * (n * n) - 2 * (n * b) + b * b := by
    simp only [hmAt, hmet]
    grind
  have m8 : hmAt (n * f + b) (n * g) n ⟨f + 1, g - 1⟩ = 1 * (n * n) - 1 * (n * b) + b * b := by
    simp only [hmAt, hmet]
    grind
  have m9 : hmAt (n * f + b) (n * g) n ⟨f + 1, g⟩ = 1 * (n * n) - 2 * (n * b) + b * b := by
    simp only [hmAt, hmet]
    grind
  have m10 : hmAt (n * f + b) (n * g) n ⟨f + 1, g + 1⟩ = 3 * (n * n) - 3 * (n * b) + b * b := by
    simp only [hmAt, hmet]
    grind
  have m11 : hmAt (n * f + b) (n * g) n ⟨f + 1, g + 2⟩ = 7 * (n * n) - 4 * (n * b) + b * b := by
    simp only [hmAt, hmet]
    grind
  have m12 : hmAt (n * f + b) (n * g) n ⟨f + 2, g - 1⟩ = 3 * (n * n) - 3 * (n * b) + b * b := by
    simp only [hmAt, hmet]
    grind
  have m13 : hmAt (n * f + b) (n * g) n ⟨f + 2, g⟩ = 4 * (n * n) - 4 * (n * b) + b * b := by
    simp only [hmAt, hmet]
    grind
  have m14 : hmAt (n * f + b) (n * g) n ⟨f + 2, g + 1⟩ = 7 * (n * n) - 5 * (n * b) + b * b := by
    simp only [hmAt, hmet]
    grind
  have m15 : hmAt (n * f + b) (n * g) n ⟨f + 2, g + 2⟩ = 12 * (n * n) - 6 * (n * b) + b * b := by
    simp only [hmAt, hmet]
    grind
  have p1 : n * (n - 2 * b) = 0 := by rw [show n - 2 * b = 0 by omega, Int.mul_zero]
  have p2 : b * (n - 2 * b) = 0 := by rw [show n - 2 * b = 0 by omega, Int.mul_zero]
  have p3 := Int.mul_pos hn.1 (show 0 < n - b by omega)
  have p4 := Int.mul_nonneg hb.1 (show 0 ≤ n - b by omega)
  have p5 := Int.mul_nonneg hb.1 hb.1
  have p6 := Int.mul_nonneg (show 0 ≤ n - b by omega) (show 0 ≤ n - b by omega)
  have p7 := Int.mul_pos hn.1 hn.1
  simp only [Int.mul_sub, Int.sub_mul, Int.mul_comm b n, Int.mul_comm b (2 * n), ← Int.mul_assoc, Int.mul_comm n 2, Int.mul_comm b 2] at p1 p2 p3 p4 p5 p6 p7
  simp only [Int.mul_assoc, Int.mul_comm b n] at p1 p2 p3 p4 p5 p6 p7
  generalize n * n = P at *
  generalize n * b = X at *
  generalize b * b = Y at *
  rw [nearFold (mn := Y) (by clear m0 m1 m2 m3 m4 m5 m6 m7 m8 m9 m10 m11 m12 m13 m14 m15; omega) (cells16 f g) (-1) [] (.inl (by decide)) (by
    intro x hx
    simp only [cells16, List.mem_cons, List.not_mem_nil, or_false] at hx
    rcases hx with rfl | rfl | rfl | rfl | rfl | rfl | rfl | rfl | rfl | rfl | rfl | rfl | rfl | rfl | rfl | rfl
    · rw [m0]; clear m0 m1 m2 m3 m4 m5 m6 m7 m8 m9 m10 m11 m12 m13 m14 m15; omega
    · rw [m1]; clear m0 m1 m2 m3 m4 m5 m6 m7 m8 m9 m10 m11 m12 m13 m14 m15; omega
    · rw [m2]; clear m0 m1 m2 m3 m4 m5 m6 m7 m8 m9 m10 m11 m12 m13 m14 m15; omega
    · rw [m3]; clear m0 m1 m2 m3 m4 m5 m6 m7 m8 m9 m10 m11 m12 m13 m14 m15; omega
    · rw [m4]; clear m0 m1 m2 m3 m4 m5 m6 m7 m8 m9 m10 m11 m12 m13 m14 m15; omega
    · rw [m5]; clear m0 m1 m2 m3 m4 m5 m6 m7 m8 m9 m10 m11 m12 m13 m14 m15; omega
    · rw [m6]; clear m0 m1 m2 m3 m4 m5 m6 m7 m8 m9 m10 m11 m12 m13 m14 m15; omega
    · rw [m7]; clear m0 m1 m2 m3 m4 m5 m6 m7 m8 m9 m10 m11 m12 m13 m14 m15; omega
    · rw [m8]; clear m0 m1 m2 m3 m4 m5 m6 m7 m8 m9 m10 m11 m12 m13 m14 m15; omega
    · rw [m9]; clear m0 m1 m2 m3 m4 m5 m6 m7 m8 m9 m10 m11 m12 m13 m14 m15; omega
    · rw [m10]; clear m0 m1 m2 m3 m4 m5 m6 m7 m8 m9 m10 m11 m12 m13 m14 m15; omega
    · rw [m11]; clear m0 m1 m2 m3 m4 m5 m6 m7 m8 m9 m10 m11 m12 m13 m14 m15; omega
    · rw [m12]; clear m0 m1 m2 m3 m4 m5 m6 m7 m8 m9 m10 m11 m12 m13 m14 m15; omega
    · rw [m13]; clear m0 m1 m2 m3 m4 m5 m6 m7 m8 m9 m10 m11 m12 m13 m14 m15; omega
    · rw [m14]; clear m0 m1 m2 m3 m4 m5 m6 m7 m8 m9 m10 m11 m12 m13 m14 m15; omega
    · rw [m15]; clear m0 m1 m2 m3 m4 m5 m6 m7 m8 m9 m10 m11 m12 m13 m14 m15; omega
    ) (.inr ⟨⟨f, g⟩, by simp [cells16], by rw [m5]; clear m0 m1 m2 m3 m4 m5 m6 m7 m8 m9 m10 m11 m12 m13 m14 m15; omega⟩)]
  rw [if_neg (by clear m0 m1 m2 m3 m4 m5 m6 m7 m8 m9 m10 m11 m12 m13 m14 m15; omega), List.nil_append, cells16]
  rw [List.filter_cons_of_neg (by simp only [decide_eq_true_eq, m0]; clear m0 m1 m2 m3 m4 m5 m6 m7 m8 m9 m10 m11 m12 m13 m14 m15; omega)]
  rw [List.filter_cons_of_neg (by simp only [decide_eq_true_eq, m1]; clear m0 m1 m2 m3 m4 m5 m6 m7 m8 m9 m10 m11 m12 m13 m14 m15; omega)]
  rw [List.filter_cons_of_neg (by simp only [decide_eq_true_eq, m2]; clear m0 m1 m2 m3 m4 m5 m6 m7 m8 m9 m10 m11 m12 m13 m14 m15; omega)]
  rw [List.filter_cons_of_neg (by simp only [decide_eq_true_eq, m3]; clear m0 m1 m2 m3 m4 m5 m6 m7 m8 m9 m10 m11 m12 m13 m14 m15; omega)]
  rw [List.filter_cons_of_neg (by simp only [decide_eq_true_eq, m4]; clear m0 m1 m2 m3 m4 m5 m6 m7 m8 m9 m10 m11 m12 m13 m14 m15; omega)]
  rw [List.filter_cons_of_pos (by simp only [decide_eq_true_eq, m5]; clear m0 m1 m2 m3 m4 m5 m6 m7 m8 m9 m10 m11 m12 m13 m14 m15; omega)]
  rw [List.filter_cons_of_neg (by simp only [decide_eq_true_eq, m6]; clear m0 m1 m2 m3 m4 m5 m6 m7 m8 m9 m10 m11 m12 m13 m14 m15; omega)]
  rw [List.filter_cons_of_neg (by simp only [decide_eq_true_eq, m7]; clear m0 m1 m2 m3 m4 m5 m6 m7 m8 m9 m10 m11 m12 m13 m14 m15; omega)]
  rw [List.filter_cons_of_neg (by simp only [decide_eq_true_eq, m8]; clear m0 m1 m2 m3 m4 m5 m6 m7 m8 m9 m10 m11 m12 m13 m14 m15; omega)]
  rw [List.filter_cons_of_pos (by simp only [decide_eq_true_eq, m9]; clear m0 m1 m2 m3 m4 m5 m6 m7 m8 m9 m10 m11 m12 m13 m14 m15; omega)]
  rw [List.filter_cons_of_neg (by simp only [decide_eq_true_eq, m10]; clear m0 m1 m2 m3 m4 m5 m6 m7 m8 m9 m10 m11 m12 m13 m14 m15; omega)]
  rw [List.filter_cons_of_neg (by simp only [decide_eq_true_eq, m11]; clear m0 m1 m2 m3 m4 m5 m6 m7 m8 m9 m10 m11 m12 m13 m14 m15; omega)]
  rw [List.filter_cons_of_neg (by simp only [decide_eq_true_eq, m12]; clear m0 m1 m2 m3 m4 m5 m6 m7 m8 m9 m10 m11 m12 m13 m14 m15; omega)]
  rw [List.filter_cons_of_neg (by simp only [decide_eq_true_eq, m13]; clear m0 m1 m2 m3 m4 m5 m6 m7 m8 m9 m10 m11 m12 m13 m14 m15; omega)]
  rw [List.filter_cons_of_neg (by simp only [decide_eq_true_eq, m14]; clear m0 m1 m2 m3 m4 m5 m6 m7 m8 m9 m10 m11 m12 m13 m14 m15; omega)]
  rw [List.filter_cons_of_neg (by simp only [decide_eq_true_eq, m15]; clear m0 m1 m2 m3 m4 m5 m6 m7 m8 m9 m10 m11 m12 m13 m14 m15; omega)]
  rfl

theorem nearC1 {n f g b : Int} (hn : 0 < n ∧ n ≤ 200) (hb : 0 ≤ b ∧ b < n) (h : 2 * b < n) :
    ((cells16 f g).foldl (nearStep (hmAt (n * f + b) (n * g + (n - b)) n)) (-1, [])).2 = [⟨f, g + 1⟩] := by
  have m0 : hmAt (n * f + b) (n * g + (n - b)) n ⟨f - 1, g - 1⟩ = 7 * (n * n) - 1 * (n * b) + b * b := by
    simp only [hmAt, hmet]
    grind
  have m1 : hmAt (n * f + b) (n * g + (n - b)) n ⟨f - 1, g⟩ = 3 * (n * n) - 0 * (n * b) + b * b := by
    simp only [hmAt, hmet]
    grind
  have m2 : hmAt (n * f + b) (n * g + (n - b)) n ⟨f - 1, g + 1⟩ = 1 * (n * n) - (-1) * (n * b) + b * b := by
    simp only [hmAt, hmet]
    grind
  have m3 : hmAt (n * f + b) (n * g + (n - b)) n ⟨f - 1, g + 2⟩ = 1 * (n * n) - (-2) * (n * b) + b * b := by
    simp only [hmAt, hmet]
    grind
  have m4 : hmAt (n * f + b) (n * g + (n - b)) n ⟨f, g - 1⟩ = 4 * (n * n) - 2 * (n * b) + b * b := by
    simp only [hmAt, hmet]
    grind
  have m5 : hmAt (n * f + b) (n * g + (n - b)) n ⟨f, g⟩ = 1 * (n * n) - 1 * (n * b) + b * b := by
    simp only [hmAt, hmet]
    grind
  have m6 : hmAt (n * f + b) (n * g + (n - b)) n ⟨f, g + 1⟩ = 0 * (n * n) - 0 * (n * b) + b * b := by
    simp only [hmAt, hmet]
    grind
  have m7 : hmAt (n * f + b) (n * g + (n - b)) n ⟨f, g + 2⟩ = 1 * (n * n) - (-1) * (n * b) + b * b := by
    simp only [hmAt, hmet]
    grind
  have m8 : hmAt (n * f + b) (n * g + (n - b)) n ⟨f + 1, g - 1⟩ = 3 * (n * n) - 3 * (n * b) + b * b := by
    simp only [hmAt, hmet]
    grind
  have m9 : hmAt (n * f + b) (n * g + (n - b)) n ⟨f + 1, g⟩ = 1 * (n * n) - 2 * (n * b) + b * b := by
    simp only [hmAt, hmet]
    grind
  have m10 : hmAt (n * f + b) (n * g + (n - b)) n ⟨f + 1, g + 1⟩ = 1 * (n * n) - 1 * (n * b) + b * b := by
    simp only [hmAt, hmet]
    grind
  have m11 : hmAt (n * f + b) (n * g + (n - b)) n ⟨f + 1, g + 2⟩ = 3 * (n * n) - 0 * (n * b) + b * b := by
    simp only [hmAt, hmet]
    grind
  have m12 : hmAt (n * f + b) (n * g + (n - b)) n ⟨f + 2, g - 1⟩ = 4 * (n * n) - 4 * (n * b) + b * b := by
    simp only [hmAt, hmet]
    grind
  have m13 : hmAt (n * f + b) (n * g + (n - b)) n ⟨f + 2, g⟩ = 3 * (n * n) - 3 * (n * b) + b * b := by
    simp only [hmAt, hmet]
    grind
  have m14 : hmAt (n * f + b) (n * g + (n - b)) n ⟨f + 2, g + 1⟩ = 4 * (n * n) - 2 * (n * b) + b * b := by
    simp only [hmAt, hmet]
    grind
  have m15 : hmAt (n * f + b) (n * g + (n - b)) n ⟨f + 2, g + 2⟩ = 7 * (n * n) - 1 * (n * b) + b * b := by
    simp only [hmAt, hmet]
    grind
  have p1 := Int.mul_pos hn.1 (show 0 < n - 2 * b by omega)
  have p2 := Int.mul_nonneg hb.1 (show 0 ≤ n - 2 * b by omega)
  have p3 := Int.mul_pos hn.1 (show 0 < n - b by omega)
  have p4 := Int.mul_nonneg hb.1 (show 0 ≤ n - b by omega)
  have p5 := Int.mul_nonneg hb.1 hb.1
  have p6 := Int.mul_nonneg (show 0 ≤ n - b by omega) (show 0 ≤ n - b by omega)
  have p7 := Int.mul_pos hn.1 hn.1
  simp only [Int.mul_sub, Int.sub_mul, Int.mul_comm b n, Int.mul_comm b (2 * n), ← Int.mul_assoc, Int.mul_comm n 2, Int.mul_comm b 2] at p1 p2 p3 p4 p5 p6 p7
  simp only [Int.mul_assoc, Int.mul_comm b n] at p1 p2 p3 p4 p5 p6 p7
  generalize n * n = P at *
  generalize n * b = X at *
  generalize b * b = Y at *
  rw [nearFold (mn := Y) (by clear m0 m1 m2 m3 m4 m5 m6 m7 m8 m9 m10 m11 m12 m13 m14 m15; omega) (cells16 f g) (-1) [] (.inl (by decide)) (by
    intro x hx
    simp only [cells16, List.mem_cons, List.not_mem_nil, or_false] at hx
    rcases hx with rfl | rfl | rfl | rfl | rfl | rfl | rfl | rfl | rfl | rfl | rfl | rfl | rfl | rfl | rfl | rfl
    · rw [m0]; clear m0 m1 m2 m3 m4 m5 m6 m7 m8 m9 m10 m11 m12 m13 m14 m15; omega
    · rw [m1]; clear m0 m1 m2 m3 m4 m5 m6 m7 m8 m9 m10 m11 m12 m13 m14 m15; omega
    · rw [m2]; clear m0 m1 m2 m3 m4 m5 m6 m7 m8 m9 m10 m11 m12 m13 m14 m15; omega
    · rw [m3]; clear m0 m1 m2 m3 m4 m5 m6 m7 m8 m9 m10 m11 m12 m13 m14 m15; omega
    · rw [m4]; clear m0 m1 m2 m3 m4 m5 m6 m7 m8 m9 m10 m11 m12 m13 m14 m15; omega
    · rw [m5]; clear m0 m1 m2 m3 m4 m5 m6 m7 m8 m9 m10 m11 m12 m13 m14 m15; omega
    · rw [m6]; clear m0 m1 m2 m3 m4 m5 m6 m7 m8 m9 m10 m11 m12 m13 m14 m15; omega
    · rw [m7]; clear m0 m1 m2 m3 m4 m5 m6 m7 m8 m9 m10 m11 m12 m13 m14 m15; omega
    · rw [m8]; clear m0 m1 m2 m3 m4 m5 m6 m7 m8 m9 m10 m11 m12 m13 m14 m15; omega
    · rw [m9]; clear m0 m1 m2 m3 m4 m5 m6 m7 m8 m9 m10 m11 m12 m13 m14 m15; omega
    · rw [m10]; clear m0 m1 m2 m3 m4 m5 m6 m7 m8 m9 m10 m11 m12 m13 m14 m15; omega
    · rw [m11]; clear m0 m1 m2 m3 m4 m5 m6 m7 m8 m9 m10 m11 m12 m13 m14 m15; omega
    · rw [m12]; clear m0 m1 m2 m3 m4 m5 m6 m7 m8 m9 m10 m11 m12 m13 m14 m15; omega
    · rw [m13]; clear m0 m1 m2 m3 m4 m5 m6 m7 m8 m9 m10 m11 m12 m13 m14 m15; omega
    · rw [m14]; clear m0 m1 m2 m3 m4 m5 m6 m7 m8 m9 m10 m11 m12 m13 m14 m15; omega
    · rw [m15]; clear m0 m1 m2 m3 m4 m5 m6 m7 m8 m9 m10 m11 m12 m13 m14 m15; omega
    ) (.inr ⟨⟨f, g + 1⟩, by simp [cells16], by rw [m6]; clear m0 m1 m2 m3 m4 m5 m6 m7 m8 m9 m10 m11 m12 m13 m14 m15; omega⟩)]
  rw [if_neg (by clear m0 m1 m2 m3 m4 m5 m6 m7 m8 m9 m10 m11 m12 m13 m14 m15; omega), List.nil_append, cells16]
  rw [List.filter_cons_of_neg (by simp only [decide_eq_true_eq, m0]; clear m0 m1 m2 m3 m4 m5 m6 m7 m8 m9 m10 m11 m12 m13 m14 m15; omega)]
  rw [List.filter_cons_of_neg (by simp only [decide_eq_true_eq, m1]; clear m0 m1 m2 m3 m4 m5 m6 m7 m8 m9 m10 m11 m12 m13 m14 m15; omega)]
  rw [List.filter_cons_of_neg (by simp only [decide_eq_true_eq, m2]; clear m0 m1 m2 m3 m4 m5 m6 m7 m8 m9 m10 m11 m12 m13 m14 m15; omega)]
  rw [List.filter_cons_of_neg (by simp only [decide_eq_true_eq, m3]; clear m0 m1 m2 m3 m4 m5 m6 m7 m8 m9 m10 m11 m12 m13 m14 m15; omega)]
  rw [List.filter_cons_of_neg (by simp only [decide_eq_true_eq, m4]; clear m0 m1 m2 m3 m4 m5 m6 m7 m8 m9 m10 m11 m12 m13 m14 m15; omega)]
  rw [List.filter_cons_of_neg (by simp only [decide_eq_true_eq, m5]; clear m0 m1 m2 m3 m4 m5 m6 m7 m8 m9 m10 m11 m12 m13 m14 m15; omega)]
  rw [List.filter_cons_of_pos (by simp only [decide_eq_true_eq, m6]; clear m0 m1 m2 m3 m4 m5 m6 m7 m8 m9 m10 m11 m12 m13 m14 m15; omega)]
  rw [List.filter_cons_of_neg (by simp only [decide_eq_true_eq, m7]; clear m0 m1 m2 m3 m4 m5 m6 m7 m8 m9 m10 m11 m12 m13 m14 m15; omega)]
  rw [List.filter_cons_of_neg (by simp only [decide_eq_true_eq, m8]; clear m0 m1 m2 m3 m4 m5 m6 m7 m8 m9 m10 m11 m12 m13 m14 m15; omega)]
  rw [List.filter_cons_of_neg (by simp only [decide_eq_true_eq, m9]; clear m0 m1 m2 m3 m4 m5 m6 m7 m8 m9 m10 m11 m12 m13 m14 m15; omega)]
  rw [List.filter_cons_of_neg (by simp only [decide_eq_true_eq, m10]; clear m0 m1 m2 m3 m4 m5 m6 m7 m8 m9 m10 m11 m12 m13 m14 m15; omega)]
  rw [List.filter_cons_of_neg (by simp only [decide_eq_true_eq, m11]; clear m0 m1 m2 m3 m4 m5 m6 m7 m8 m9 m10 m11 m12 m13 m14 m15; omega)]
  rw [List.filter_cons_of_neg (by simp only [decide_eq_true_eq, m12]; clear m0 m1 m2 m3 m4 m5 m6 m7 m8 m9 m10 m11 m12 m13 m14 m15; omega)]
  rw [List.filter_cons_of_neg (by simp only [decide_eq_true_eq, m13]; clear m0 m1 m2 m3 m4 m5 m6 m7 m8 m9 m10 m11 m12 m13 m14 m15; omega)]
  rw [List.filter_cons_of_neg (by simp only [decide_eq_true_eq, m14]; clear m0 m1 m2 m3 m4 m5 m6 m7 m8 m9 m10 m11 m12 m13 m14 m15; omega)]
  rw [List.filter_cons_of_neg (by simp only [decide_eq_true_eq, m15]; clear m0 m1 m2 m3 m4 m5 m6 m7 m8 m9 m10 m11 m12 m13 m14 m15; omega)]
  rfl

theorem nearC2 {n f g b : Int} (hn : 0 < n ∧ n ≤ 200) (hb : 0 ≤ b ∧ b < n) (h : n < 2 * b) :
    ((cells16 f g).foldl (nearStep (hmAt (n * f + b) (n * g + (n - b)) n)) (-1, [])).2 = [⟨f + 1, g⟩] := by
  have m0 : hmAt (n * f + b) (n * g + (n - b)) n ⟨f - 1, g - 1⟩ = 7 * (n * n) - 1 * (n * b) + b * b := by
    simp only [hmAt, hmet]
    grind
  have m1 : hmAt (n * f + b) (n * g + (n - b)) n ⟨f - 1, g⟩ = 3 * (n * n) - 0 * (n * b) + b * b := by
    simp only [hmAt, hmet]
    grind
  have m2 : hmAt (n * f + b) (n * g + (n - b)) n ⟨f - 1, g + 1⟩ = 1 * (n * n) - (-1) * (n * b) + b * b := by
    simp only [hmAt, hmet]
    grind
  have m3 : hmAt (n * f + b) (n * g + (n - b)) n ⟨f - 1, g + 2⟩ = 1 * (n * n) - (-2) * (n * b) + b * b := by
    simp only [hmAt, hmet]
    grind
  have m4 : hmAt (n * f + b) (n * g + (n - b)) n ⟨f, g - 1⟩ = 4 * (n * n) - 2 * (n * b) + b * b := by
    simp only [hmAt, hmet]
    grind
  have m5 : hmAt (n * f + b) (n * g + (n - b)) n ⟨f, g⟩ = 1 * (n * n) - 1 * (n * b) + b * b := by
    simp only [hmAt, hmet]
    grind
  have m6 : hmAt (n * f + b) (n * g + (n - b)) n ⟨f, g + 1⟩ = 0 * (n * n) - 0 * (n * b) + b * b := by
    simp only [hmAt, hmet]
    grind
  have m7 : hmAt (n * f + b) (n * g + (n - b)) n ⟨f, g + 2⟩ = 1 * (n * n) - (-1) * (n * b) + b * b := by
    simp only [hmAt, hmet]
    grind
  have m8 : hmAt (n * f + b) (n * g + (n - b)) n ⟨f + 1, g - 1⟩ = 3 * (n * n) - 3 * (n * b) + b * b := by
    simp only [hmAt, hmet]
    grind
  have m9 : hmAt (n * f + b) (n * g + (n - b)) n ⟨f + 1, g⟩ = 1 * (n * n) - 2 * (n * b) + b * b := by
    simp only [hmAt, hmet]
    grind
  have m10 : hmAt (n * f + b) (n * g + (n - b)) n ⟨f + 1, g + 1⟩ = 1 * (n * n) - 1 * (n * b) + b * b := by
    simp only [hmAt, hmet]
    grind
  have m11 : hmAt (n * f + b) (n * g + (n - b)) n ⟨f + 1, g + 2⟩ = 3 * (n * n) - 0 * (n * b) + b * b := by
    simp only [hmAt, hmet]
    grind
  have m12 : hmAt (n * f + b) (n * g + (n - b)) n ⟨f + 2, g - 1⟩ = 4 * (n * n) - 4 * (n * b) + b * b := by
    simp only [hmAt, hmet]
    grind
  have m13 : hmAt (n * f + b) (n * g + (n - b)) n ⟨f + 2, g⟩ = 3 * (n * n) - 3 * (n * b) + b * b := by
    simp only [hmAt, hmet]
    grind
  have m14 : hmAt (n * f + b) (n * g + (n - b)) n ⟨f + 2, g + 1⟩ = 4 * (n * n) - 2 * (n * b) + b * b := by
    simp only [hmAt, hmet]
    grind
  have m15 : hmAt (n * f + b) (n * g + (n - b)) n ⟨f + 2, g + 2⟩ = 7 * (n * n) - 1 * (n * b) + b * b := by
    simp only [hmAt, hmet]
    grind
  have p1 := Int.mul_pos hn.1 (show 0 < 2 * b - n by omega)
  have p2 := Int.mul_nonneg (show 0 ≤ n - b by omega) (show 0 ≤ 2 * b - n by omega)
  have p3 := Int.mul_pos hn.1 (show 0 < n - b by omega)
  have p4 := Int.mul_nonneg hb.1 (show 0 ≤ n - b by omega)
  have p5 := Int.mul_nonneg hb.1 hb.1
  have p6 := Int.mul_nonneg (show 0 ≤ n - b by omega) (show 0 ≤ n - b by omega)
  have p7 := Int.mul_pos hn.1 hn.1
  simp only [Int.mul_sub, Int.sub_mul, Int.mul_comm b n, Int.mul_comm b (2 * n), ← Int.mul_assoc, Int.mul_comm n 2, Int.mul_comm b 2] at p1 p2 p3 p4 p5 p6 p7
  simp only [Int.mul_assoc, Int.mul_comm b n] at p1 p2 p3 p4 p5 p6 p7
  generalize n * n = P at *
  generalize n * b = X at *
  generalize b * b = Y at *
  rw [nearFold (mn := P - 2 * (X) + Y) (by clear m0 m1 m2 m3 m4 m5 m6 m7 m8 m9 m10 m11 m12 m13 m14 m15; omega) (cells16 f g) (-1) [] (.inl (by decide)) (by
    intro x hx
    simp only [cells16, List.mem_cons, List.not_mem_nil, or_false] at hx
    rcases hx with rfl | rfl | rfl | rfl | rfl | rfl | rfl | rfl | rfl | rfl | rfl | rfl | rfl | rfl | rfl | rfl
    · rw [m0]; clear m0 m1 m2 m3 m4 m5 m6 m7 m8 m9 m10 m11 m12 m13 m14 m15; omega
    · rw [m1]; clear m0 m1 m2 m3 m4 m5 m6 m7 m8 m9 m10 m11 m12 m13 m14 m15; omega
    · rw [m2]; clear m0 m1 m2 m3 m4 m5 m6 m7 m8 m9 m10 m11 m12 m13 m14 m15; omega
    · rw [m3]; clear m0 m1 m2 m3 m4 m5 m6 m7 m8 m9 m10 m11 m12 m13 m14 m15; omega
    · rw [m4]; clear m0 m1 m2 m3 m4 m5 m6 m7 m8 m9 m10 m11 m12 m13 m14 m15; omega
    · rw [m5]; clear m0 m1 m2 m3 m4 m5 m6 m7 m8 m9 m10 m11 m12 m13 m14 m15; omega
    · rw [m6]; clear m0 m1 m2 m3 m4 m5 m6 m7 m8 m9 m10 m11 m12 m13 m14 m15; omega
    · rw [m7]; clear m0 m1 m2 m3 m4 m5 m6 m7 m8 m9 m10 m11 m12 m13 m14 m15; omega
    · rw [m8]; clear m0 m1 m2 m3 m4 m5 m6 m7 m8 m9 m10 m11 m12 m13 m14 m15; omega
    · rw [m9]; clear m0 m1 m2 m3 m4 m5 m6 m7 m8 m9 m10 m11 m12 m13 m14 m15; omega
    · rw [m10]; clear m0 m1 m2 m3 m4 m5 m6 m7 m8 m9 m10 m11 m12 m13 m14 m15; omega
    · rw [m11]; clear m0 m1 m2 m3 m4 m5 m6 m7 m8 m9 m10 m11 m12 m13 m14 m15; omega
    · rw [m12]; clear m0 m1 m2 m3 m4 m5 m6 m7 m8 m9 m10 m11 m12 m13 m14 m15; omega
    · rw [m13]; clear m0 m1 m2 m3 m4 m5 m6 m7 m8 m9 m10 m11 m12 m13 m14 m15; omega
    · rw [m14]; clear m0 m1 m2 m3 m4 m5 m6 m7 m8 m9 m10 m11 m12 m13 m14 m15; omega
    · rw [m15]; clear m0 m1 m2 m3 m4 m5 m6 m7 m8 m9 m10 m11 m12 m13 m14 m15; omega
    ) (.inr ⟨⟨f + 1, g⟩, by simp [cells16], by rw [m9]; clear m0 m1 m2 m3 m4 m5 m6 m7 m8 m9 m10 m11 m12 m13 m14 m15; omega⟩)]
  rw [if_neg (by clear m0 m1 m2 m3 m4 m5 m6 m7 m8 m9 m10 m11 m12 m13 m14 m15; omega), List.nil_append, cells16]
  rw [List.filter_cons_of_neg (by simp only [decide_eq_true_eq, m0]; clear m0 m1 m2 m3 m4 m5 m6 m7 m8 m9 m10 m11 m12 m13 m14 m15; omega)]
  rw [List.filter_cons_of_neg (by simp only [decide_eq_true_eq, m1]; clear m0 m1 m2 m3 m4 m5 m6 m7 m8 m9 m10 m11 m12 m13 m14 m15; omega)]
  rw [List.filter_cons_of_neg (by simp only [decide_eq_true_eq, m2]; clear m0 m1 m2 m3 m4 m5 m6 m7 m8 m9 m10 m11 m12 m13 m14 m15; omega)]
  rw [List.filter_cons_of_neg (by simp only [decide_eq_true_eq, m3]; clear m0 m1 m2 m3 m4 m5 m6 m7 m8 m9 m10 m11 m12 m13 m14 m15; omega)]
  rw [List.filter_cons_of_neg (by simp only [decide_eq_true_eq, m4]; clear m0 m1 m2 m3 m4 m5 m6 m7 m8 m9 m10 m11 m12 m13 m14 m15; omega)]
  rw [List.filter_cons_of_neg (by simp only [decide_eq_true_eq, m5]; clear m0 m1 m2 m3 m4 m5 m6 m7 m8 m9 m10 m11 m12 m13 m14 m15; omega)]
  rw [List.filter_cons_of_neg (by simp only [decide_eq_true_eq, m6]; clear m0 m1 m2 m3 m4 m5 m6 m7 m8 m9 m10 m11 m12 m13 m14 m15; omega)]
  rw [List.filter_cons_of_neg (by simp only [decide_eq_true_eq, m7]; clear m0 m1 m2 m3 m4 m5 m6 m7 m8 m9 m10 m11 m12 m13 m14 m15; omega)]
  rw [List.filter_cons_of_neg (by simp only [decide_eq_true_eq, m8]; clear m0 m1 m2 m3 m4 m5 m6 m7 m8 m9 m10 m11 m12 m13 m14 m15; omega)]
  rw [List.filter_cons_of_pos (by simp only [decide_eq_true_eq, m9]; clear m0 m1 m2 m3 m4 m5 m6 m7 m8 m9 m10 m11 m12 m13 m14 m15; omega)]
  rw [List.filter_cons_of_neg (by simp only [decide_eq_true_eq, m10]; clear m0 m1 m2 m3 m4 m5 m6 m7 m8 m9 m10 m11 m12 m13 m14 m15; omega)]
  rw [List.filter_cons_of_neg (by simp only [decide_eq_true_eq, m11]; clear m0 m1 m2 m3 m4 m5 m6 m7 m8 m9 m10 m11 m12 m13 m14 m15; omega)]
  rw [List.filter_cons_of_neg (by simp only [decide_eq_true_eq, m12]; clear m0 m1 m2 m3 m4 m5 m6 m7 m8 m9 m10 m11 m12 m13 m14 m15; omega)]
  rw [List.filter_cons_of_neg (by simp only [decide_eq_true_eq, m13]; clear m0 m1 m2 m3 m4 m5 m6 m7 m8 m9 m10 m11 m12 m13 m14 m15; omega)]
  rw [List.filter_cons_of_neg (by simp only [decide_eq_true_eq, m14]; clear m0 m1 m2 m3 m4 m5 m6 m7 m8 m9 m10 m11 m12 m13 m14 m15; omega)]
  rw [List.filter_cons_of_neg (by simp only [decide_eq_true_eq, m15]; clear m0 m1 m2 m3 m4 m5 m6 m7 m8 m9 m10 m11 m12 m13 m14 m15; omega)]
  rfl

theorem nearC3 {n f g b : Int} (hn : 0 < n ∧ n ≤ 200) (hb : 0 ≤ b ∧ b < n) (h : 2 * b = n) :
    ((cells16 f g).foldl (nearStep (hmAt (n * f + b) (n * g + (n - b)) n)) (-1, [])).2 = [⟨f, g + 1⟩, ⟨f + 1, g⟩] := by
  have m0 : hmAt (n * f + b) (n * g + (n - b)) n ⟨f - 1, g - 1⟩ = 7 * (n * n) - 1 * (n * b) + b * b := by
    simp only [hmAt, hmet]
    grind
  have m1 : hmAt (n * f + b) (n * g + (n - b)) n ⟨f - 1, g⟩ = 3 * (n * n) - 0 * (n * b) + b * b := by
    simp only [hmAt, hmet]
    grind
  have m2 : hmAt (n * f + b) (n * g + (n - b)) n ⟨f - 1, g + 1⟩ = 1 * (n * n) - (-1) * (n * b) + b * b := by
    simp only [hmAt, hmet]
    grind
  have m3 : hmAt (n * f + b) (n * g + (n - b)) n ⟨f - 1, g + 2⟩ = 1 * (n * n) - (-2) * (n * b) + b * b := by
    simp only [hmAt, hmet]
    grind
  have m4 : hmAt (n * f + b) (n * g + (n - b)) n ⟨f, g - 1⟩ = 4 * (n * n) - 2 * (n * b) + b * b := by
    simp only [hmAt, hmet]
    grind
  have m5 : hmAt (n * f + b) (n * g + (n - b)) n ⟨f, g⟩ = 1 * (n * n) - 1 * (n * b) + b * b := by
    simp only [hmAt, hmet]
    grind
  have m6 : hmAt (n * f + b) (n * g + (n - b)) n ⟨f, g + 1⟩ = 0 * (n * n) - 0 * (n * b) + b * b := by
    simp only [hmAt, hmet]
    grind
  have m7 : hmAt (n * f + b) (n * g + (n - b)) n ⟨f, g + 2⟩ = 1 * (n * n) - (-1) * (n * b) + b * b := by
    simp only [hmAt, hmet]
    grind
  have m8 : hmAt (n * f + b) (n * g + (n - b)) n ⟨f + 1, g - 1⟩ = 3 * (n * n) - 3 * (n * b) + b * b := by
    simp only [hmAt, hmet]
    grind
  have m9 : hmAt (n * f + b) (n * g + (n - b)) n ⟨f + 1, g⟩ = 1 * (n * n) - 2 * (n * b) + b * b := by
    simp only [hmAt, hmet]
    grind
  have m10 : hmAt (n * f + b) (n * g + (n - b)) n ⟨f + 1, g + 1⟩ = 1 * (n * n) - 1 * (n * b) + b * b := by
    simp only [hmAt, hmet]
    grind
  have m11 : hmAt (n * f + b) (n * g + (n - b)) n ⟨f + 1, g + 2⟩ = 3 * (n * n) - 0 * (n * b) + b * b := by
    simp only [hmAt, hmet]
    grind
  have m12 : hmAt (n * f + b) (n * g + (n - b)) n ⟨f + 2, g - 1⟩ = 4 * (n * n) - 4 * (n * b) + b * b := by
    simp only [hmAt, hmet]
    grind
  have m13 : hmAt (n * f + b) (n * g + (n - b)) n ⟨f + 2, g⟩ = 3 * (n * n) - 3 * (n * b) + b * b := by
    simp only [hmAt, hmet]
    grind
  have m14 : hmAt (n * f + b) (n * g + (n - b)) n ⟨f + 2, g + 1⟩ = 4 * (n * n) - 2 * (n * b) + b * b := by
    simp only [hmAt, hmet]
    grind
  have m15 : hmAt (n * f + b) (n * g + (n - b)) n ⟨f + 2, g + 2⟩ = 7 * (n * n) - 1 * (n * b) + b * b := by
    simp only [hmAt, hmet]
    grind
  have p1 : n * (n - 2 * b) = 0 := by rw [show n - 2 * b = 0 by omega, Int.mul_zero]
  have p2 : b * (n - 2 * b) = 0 := by rw [show n - 2 * b = 0 by omega, Int.mul_zero]
  have p3 := Int.mul_pos hn.1 (show 0 < n - b by omega)
  have p4 := Int.mul_nonneg hb.1 (show 0 ≤ n - b by omega)
  have p5 := Int.mul_nonneg hb.1 hb.1
  have p6 := Int.mul_nonneg (show 0 ≤ n - b by omega) (show 0 ≤ n - b by omega)
  have p7 := Int.mul_pos hn.1 hn.1
  simp only [Int.mul_sub, Int.sub_mul, Int.mul_comm b n, Int.mul_comm b (2 * n), ← Int.mul_assoc, Int.mul_comm n 2, Int.mul_comm b 2] at p1 p2 p3 p4 p5 p6 p7
  simp only [Int.mul_assoc, Int.mul_comm b n] at p1 p2 p3 p4 p5 p6 p7
  generalize n * n = P at *
  generalize n * b = X at *
  generalize b * b = Y at *
  rw [nearFold (mn := Y) (by clear m0 m1 m2 m3 m4 m5 m6 m7 m8 m9 m10 m11 m12 m13 m14 m15; omega) (cells16 f g) (-1) [] (.inl (by decide)) (by
    intro x hx
    simp only [cells16, List.mem_cons, List.not_mem_nil, or_false] at hx
    rcases hx with rfl | rfl | rfl | rfl | rfl | rfl | rfl | rfl | rfl | rfl | rfl | rfl | rfl | rfl | rfl | rfl
    · rw [m0]; clear m0 m1 m2 m3 m4 m5 m6 m7 m8 m9 m10 m11 m12 m13 m14 m15; omega
    · rw [m1]; clear m0 m1 m2 m3 m4 m5 m6 m7 m8 m9 m10 m11 m12 m13 m14 m15; omega
    · rw [m2]; clear m0 m1 m2 m3 m4 m5 m6 m7 m8 m9 m10 m11 m12 m13 m14 m15; omega
    · rw [m3]; clear m0 m1 m2 m3 m4 m5 m6 m7 m8 m9 m10 m11 m12 m13 m14 m15; omega
    · rw [m4]; clear m0 m1 m2 m3 m4 m5 m6 m7 m8 m9 m10 m11 m12 m13 m14 m15; omega
    · rw [m5]; clear m0 m1 m2 m3 m4 m5 m6 m7 m8 m9 m10 m11 m12 m13 m14 m15; omega
    · rw [m6]; clear m0 m1 m2 m3 m4 m5 m6 m7 m8 m9 m10 m11 m12 m13 m14 m15; omega
    · rw [m7]; clear m0 m1 m2 m3 m4 m5 m6 m7 m8 m9 m10 m11 m12 m13 m14 m15; omega
    · rw [m8]; clear m0 m1 m2 m3 m4 m5 m6 m7 m8 m9 m10 m11 m12 m13 m14 m15; omega
    · rw [m9]; clear m0 m1 m2 m3 m4 m5 m6 m7 m8 m9 m10 m11 m12 m13 m14 m15; omega
    · rw [m10]; clear m0 m1 m2 m3 m4 m5 m6 m7 m8 m9 m10 m11 m12 m13 m14 m15; omega
    · rw [m11]; clear m0 m1 m2 m3 m4 m5 m6 m7 m8 m9 m10 m11 m12 m13 m14 m15; omega
    · rw [m12]; clear m0 m1 m2 m3 m4 m5 m6 m7 m8 m9 m10 m11 m12 m13 m14 m15; omega
    · rw [m13]; clear m0 m1 m2 m3 m4 m5 m6 m7 m8 m9 m10 m11 m12 m13 m14 m15; omega
    · rw [m14]; clear m0 m1 m2 m3 m4 m5 m6 m7 m8 m9 m10 m11 m12 m13 m14 m15; omega
    · rw [m15]; clear m0 m1 m2 m3 m4 m5 m6 m7 m8 m9 m10 m11 m12 m13 m14 m15; omega
    ) (.inr ⟨⟨f, g + 1⟩, by simp [cells16], by rw [m6]; clear m0 m1 m2 m3 m4 m5 m6 m7 m8 m9 m10 m11 m12 m13 m14 m15; omega⟩)]
  rw [if_neg (by clear m0 m1 m2 m3 m4 m5 m6 m7 m8 m9 m10 m11 m12 m13 m14 m15; omega), List.nil_append, cells16]
  rw [List.filter_cons_of_neg (by simp only [decide_eq_true_eq, m0]; clear m0 m1 m2 m3 m4 m5 m6 m7 m8 m9 m10 m11 m12 m13 m14 m15; omega)]
  rw [List.filter_cons_of_neg (by simp only [decide_eq_true_eq, m1]; clear m0 m1 m2 m3 m4 m5 m6 m7 m8 m9 m10 m11 m12 m13 m14 m15; omega)]
  rw [List.filter_cons_of_neg (by simp only [decide_eq_true_eq, m2]; clear m0 m1 m2 m3 m4 m5 m6 m7 m8 m9 m10 m11 m12 m13 m14 m15; omega)]
  rw [List.filter_cons_of_neg (by simp only [decide_eq_true_eq, m3]; clear m0 m1 m2 m3 m4 m5 m6 m7 m8 m9 m10 m11 m12 m13 m14 m15; omega)]
  rw [List.filter_cons_of_neg (by simp only [decide_eq_true_eq, m4]; clear m0 m1 m2 m3 m4 m5 m6 m7 m8 m9 m10 m11 m12 m13 m14 m15; omega)]
  rw [List.filter_cons_of_neg (by simp only [decide_eq_true_eq, m5]; clear m0 m1 m2 m3 m4 m5 m6 m7 m8 m9 m10 m11 m12 m13 m14 m15; omega)]
  rw [List.filter_cons_of_pos (by simp only [decide_eq_true_eq, m6]; clear m0 m1 m2 m3 m4 m5 m6 m7 m8 m9 m10 m11 m12 m13 m14 m15; omega)]
  rw [List.filter_cons_of_neg (by simp only [decide_eq_true_eq, m7]; clear m0 m1 m2 m3 m4 m5 m6 m7 m8 m9 m10 m11 m12 m13 m14 m15; omega)]
  rw [List.filter_cons_of_neg (by simp only [decide_eq_true_eq, m8]; clear m0 m1 m2 m3 m4 m5 m6 m7 m8 m9 m10 m11 m12 m13 m14 m15; omega)]
  rw [List.filter_cons_of_pos (by simp only [decide_eq_true_eq, m9]; clear m0 m1 m2 m3 m4 m5 m6 m7 m8 m9 m10 m11 m12 m13 m14 m15; omega)]
  rw [List.filter_cons_of_neg (by simp only [decide_eq_true_eq, m10]; clear m0 m1 m2 m3 m4 m5 m6 m7 m8 m9 m10 m11 m12 m13 m14 m15; omega)]
  rw [List.filter_cons_of_neg (by simp only [decide_eq_true_eq, m11]; clear m0 m1 m2 m3 m4 m5 m6 m7 m8 m9 m10 m11 m12 m13 m14 m15; omega)]
  rw [List.filter_cons_of_neg (by simp only [decide_eq_true_eq, m12]; clear m0 m1 m2 m3 m4 m5 m6 m7 m8 m9 m10 m11 m12 m13 m14 m15; omega)]
  rw [List.filter_cons_of_neg (by simp only [decide_eq_true_eq, m13]; clear m0 m1 m2 m3 m4 m5 m6 m7 m8 m9 m10 m11 m12 m13 m14 m15; omega)]
  rw [List.filter_cons_of_neg (by simp only [decide_eq_true_eq, m14]; clear m0 m1 m2 m3 m4 m5 m6 m7 m8 m9 m10 m11 m12 m13 m14 m15; omega)]
  rw [List.filter_cons_of_neg (by simp only [decide_eq_true_eq, m15]; clear m0 m1 m2 m3 m4 m5 m6 m7 m8 m9 m10 m11 m12 m13 m14 m15; omega)]
  rfl


/-- Cells near a value: one, or two at the middle. -/
def nearOf (q n : Int) : List Int := if 2 * (q % n) < n then [q / n] else if n < 2 * (q % n) then [q / n + 1] else [q / n, q / n + 1]

theorem divb {q n : Int} (hn : 0 < n ∧ n ≤ 200) (hq : -1000000 ≤ q ∧ q ≤ 1000000) : -1000000 ≤ q.tdiv n ∧ q.tdiv n ≤ 1000000 := by
  have : (q.tdiv n).natAbs ≤ q.natAbs := by
    rw [Int.natAbs_tdiv]
    exact Nat.div_le_self ..
  omega

theorem hNear_ok {q n : Int} (hn : 0 < n ∧ n ≤ 200) (hq : -1000000 ≤ q ∧ q ≤ 1000000) : Ds_hNear q n = some (nearOf q n) := by
  have h2 := Int.mul_ediv_add_emod q n
  have h3 := Int.emod_nonneg q (b := n) (by omega)
  have h4 := Int.emod_lt_of_pos q hn.1
  have hb := divb hn hq
  have e1 : n.sign = 1 := Int.sign_eq_one_of_pos hn.1
  have e2 : (n.natAbs : Int) = n := by omega
  have e3 := Int.mul_comm n (q / n)
  have ht := Int.tdiv_eq_ediv (a := q) (b := n)
  have hm := Int.tmod_eq_emod (a := q) (b := n)
  unfold Ds_hNear nearOf
  rw [if_pos (by omega), if_pos (by omega)]
  by_cases c : 0 ≤ q ∨ n ∣ q
  · simp only [c, if_true, Int.add_zero, Int.sub_zero] at ht hm
    rw [hm, ht, if_neg (by omega)]
    rw [ht] at hb
    rw [w64 (n := q / n) (by omega), w64 (n := q / n * n) (by omega), w64 (n := q - q / n * n) (by omega), w64 (n := q / n + 1) (by omega), show q - q / n * n = q % n by omega, w64 (n := 2 * (q % n)) (by omega)]
    by_cases c1 : 2 * (q % n) < n
    · simp [c1]
    · by_cases c2 : n < 2 * (q % n) <;> simp [c1, c2]
  · simp only [c, if_false, e1, e2] at ht hm
    rw [hm, if_pos (by omega)]
    rw [w64 (n := q.tdiv n) (by omega), w64 (n := q.tdiv n - 1) (by omega), show q.tdiv n - 1 = q / n by omega]
    rw [w64 (n := q / n * n) (by omega), w64 (n := q - q / n * n) (by omega), w64 (n := q / n + 1) (by omega), show q - q / n * n = q % n by omega, w64 (n := 2 * (q % n)) (by omega)]
    by_cases c1 : 2 * (q % n) < n
    · simp [c1]
    · by_cases c2 : n < 2 * (q % n) <;> simp [c1, c2]

theorem cellsOne {α σ : Type} {B : σ → Option (σ ⊕ List α)} {S : Int → List α → List Int → σ} {g : Int → α}
    (xs : List Int) (hs : ∀ (i : Nat) x out, xs[i]? = some x → i < xs.length → out.length = i → B (S i out xs) = some (.inl (S ((i + 1 : Nat) : Int) (out ++ [g x]) xs))) (he : ∀ out, B (S xs.length out xs) = some (.inr out)) :
    loop B (S 0 [] xs) = some (xs.map g) := by
  have key : ∀ (k i : Nat), i + k = xs.length → loop B (S i ((xs.take i).map g) xs) = some (xs.map g) := by
    intro k
    induction k with
    | zero =>
      intro i h
      have : i = xs.length := by omega
      subst this
      rw [loop_eq, he]
      simp [goOn]
    | succ k ih =>
      intro i h
      have hlt : i < xs.length := by omega
      rw [loop_eq, hs i xs[i] _ (List.getElem?_eq_getElem hlt) hlt (by simp; omega)]
      have e : (xs.take i).map g ++ [g xs[i]] = (xs.take (i + 1)).map g := by
        rw [List.take_add_one, List.getElem?_eq_getElem hlt, List.map_append]
        rfl
      rw [e]
      exact ih (i + 1) (by omega)
  simpa using key xs.length 0 (by omega)

theorem nearOf_len (q n : Int) : (nearOf q n).length ≤ 2 := by
  unfold nearOf
  split
  · simp
  · split <;> simp

theorem cells_h1 {n q : Int} (hn : 0 < n) (xs : List Int) (hl : xs.length ≤ 2) :
    loop Bs_hCells (.h1 n q ((xs.length : Nat) : Int) 0 [] xs) = some (xs.map fun x => Gi_Hex.mk (IntKind.wrap .i64 (q.tdiv n)) x) := by
  refine cellsOne (S := fun i out xs' => Ss_hCells.h1 n q ((xs.length : Nat) : Int) i out xs') xs ?_ ?_
  · intro i x out hx hlt ho
    have h1 : ((i : Int) < ((xs.length : Nat) : Int)) := by omega
    have h2 : (0 : Int) ≤ (i : Int) := by omega
    have h3 : ¬ n = 0 := by omega
    have h4 : (out ++ [Gi_Hex.mk (IntKind.wrap .i64 (q.tdiv n)) x]).length * 16 ≤ 70368744177664 := by
      rw [List.length_append, List.length_singleton]
      omega
    simp only [Bs_hCells, h1, h2, if_true, Int.toNat_natCast, hx, Option.bind_some, h3, not_false_eq_true, h4, wsucc (i := i) (by omega)]
  · intro out
    have h1 : ¬ ((xs.length : Nat) : Int) < ((xs.length : Nat) : Int) := by omega
    simp only [Bs_hCells, h1, if_false]

theorem cells_h2a {n q r : Int} (hn : 0 < n) (hr : r.tmod n = 0) (xs : List Int) (hl : xs.length ≤ 2) :
    loop Bs_hCells (.h2 n q r ((xs.length : Nat) : Int) 0 [] xs) = some (xs.map fun x => Gi_Hex.mk x (IntKind.wrap .i64 (r.tdiv n))) := by
  refine cellsOne (S := fun i out xs' => Ss_hCells.h2 n q r ((xs.length : Nat) : Int) i out xs') xs ?_ ?_
  · intro i x out hx hlt ho
    have h1 : ((i : Int) < ((xs.length : Nat) : Int)) := by omega
    have h2 : (0 : Int) ≤ (i : Int) := by omega
    have h3 : ¬ n = 0 := by omega
    have h4 : (out ++ [Gi_Hex.mk x (IntKind.wrap .i64 (r.tdiv n))]).length * 16 ≤ 70368744177664 := by
      rw [List.length_append, List.length_singleton]
      omega
    simp only [Bs_hCells, h1, h2, if_true, Int.toNat_natCast, hx, Option.bind_some, h3, not_false_eq_true, hr, h4, wsucc (i := i) (by omega)]
  · intro out
    have h1 : ¬ ((xs.length : Nat) : Int) < ((xs.length : Nat) : Int) := by omega
    simp only [Bs_hCells, h1, if_false]

theorem cells_h2b {n q r : Int} (hn : 0 < n) (hr : ¬ r.tmod n = 0) (xs : List Int) (hl : xs.length ≤ 2) :
    loop Bs_hCells (.h2 n q r ((xs.length : Nat) : Int) 0 [] xs) = some (xs.map fun x => Gi_Hex.mk x (IntKind.wrap .i64 ((IntKind.wrap .i64 (Int.tdiv (IntKind.wrap .i64 (q + r)) n)) - x))) := by
  refine cellsOne (S := fun i out xs' => Ss_hCells.h2 n q r ((xs.length : Nat) : Int) i out xs') xs ?_ ?_
  · intro i x out hx hlt ho
    have h1 : ((i : Int) < ((xs.length : Nat) : Int)) := by omega
    have h2 : (0 : Int) ≤ (i : Int) := by omega
    have h3 : ¬ n = 0 := by omega
    have h4 : (out ++ [Gi_Hex.mk x (IntKind.wrap .i64 ((IntKind.wrap .i64 (Int.tdiv (IntKind.wrap .i64 (q + r)) n)) - x))]).length * 16 ≤ 70368744177664 := by
      rw [List.length_append, List.length_singleton]
      omega
    simp only [Bs_hCells, h1, h2, if_true, Int.toNat_natCast, hx, Option.bind_some, h3, not_false_eq_true, hr, if_false, h4, wsucc (i := i) (by omega)]
  · intro out
    have h1 : ¬ ((xs.length : Nat) : Int) < ((xs.length : Nat) : Int) := by omega
    simp only [Bs_hCells, h1, if_false]

/-- The cells of a line at the point (q/n, r/n). -/
def lineCells (q r n : Int) : List Gi_Hex :=
  if q % n = 0 then (nearOf r n).map (Gi_Hex.mk (q / n)) else if r % n = 0 then (nearOf q n).map (fun x => Gi_Hex.mk x (r / n)) else (nearOf q n).map (fun x => Gi_Hex.mk x (q / n + r / n + 1 - x))

theorem ediv_b {q n : Int} (hn : 0 < n ∧ n ≤ 200) (hq : -90000 ≤ q ∧ q ≤ 90000) : -100000 ≤ q / n ∧ q / n ≤ 100000 := by
  have h2 := Int.mul_ediv_add_emod q n
  have h3 := Int.emod_nonneg q (b := n) (by omega)
  have h4 := Int.emod_lt_of_pos q hn.1
  constructor
  · rcases Int.lt_or_le (q / n) (-100000) with h | h
    · have := Int.mul_le_mul_of_nonneg_left (show q / n ≤ -100000 by omega) (show 0 ≤ n by omega)
      omega
    · exact h
  · rcases Int.lt_or_le 100000 (q / n) with h | h
    · have := Int.mul_le_mul_of_nonneg_left (show 100000 ≤ q / n by omega) (show 0 ≤ n by omega)
      omega
    · exact h

theorem nearest_eq {q r n : Int} (hn : 0 < n ∧ n ≤ 200) (hq : -90000 ≤ q ∧ q ≤ 90000) (hr : -90000 ≤ r ∧ r ≤ 90000) (h : q % n = 0 ∨ r % n = 0 ∨ q % n + r % n = n) :
    Di_nearestTo q r n = some (lineCells q r n) := by
  have q3 := Int.emod_nonneg q (b := n) (by omega)
  have q4 := Int.emod_lt_of_pos q hn.1
  have r3 := Int.emod_nonneg r (b := n) (by omega)
  have r4 := Int.emod_lt_of_pos r hn.1
  have q2 := Int.mul_ediv_add_emod q n
  have r2 := Int.mul_ediv_add_emod r n
  rw [near_all (floorDiv_ok hn (by omega)) (floorDiv_ok hn (by omega)) (by omega) (by omega) (by omega) (ediv_b hn hq) (ediv_b hn hr)]
  congr 1
  unfold lineCells nearOf
  generalize hf : q / n = f at *
  generalize hg : r / n = g at *
  generalize ha : q % n = a at *
  generalize hb : r % n = b at *
  clear hf hg ha hb hq hr
  by_cases c1 : a = 0
  · subst c1
    have e : q = n * f := by omega
    rw [if_pos rfl, e, ← r2]
    by_cases d1 : 2 * b < n
    · rw [nearA1 hn ⟨r3, r4⟩ d1, if_pos d1]; rfl
    · by_cases d2 : n < 2 * b
      · rw [nearA2 hn ⟨r3, r4⟩ d2, if_neg d1, if_pos d2]; rfl
      · rw [nearA3 hn ⟨r3, r4⟩ (by omega), if_neg d1, if_neg d2]; rfl
  · rw [if_neg c1]
    by_cases c2 : b = 0
    · subst c2
      have e : r = n * g := by omega
      rw [if_pos rfl, e, ← q2]
      by_cases d1 : 2 * a < n
      · rw [nearB1 hn ⟨q3, q4⟩ d1, if_pos d1]; rfl
      · by_cases d2 : n < 2 * a
        · rw [nearB2 hn ⟨q3, q4⟩ d2, if_neg d1, if_pos d2]; rfl
        · rw [nearB3 hn ⟨q3, q4⟩ (by omega), if_neg d1, if_neg d2]; rfl
    · rw [if_neg c2]
      have e : b = n - a := by omega
      subst e
      rw [← q2, ← r2]
      by_cases d1 : 2 * a < n
      · rw [nearC1 hn ⟨q3, q4⟩ d1, if_pos d1]
        simp only [List.map_cons, List.map_nil, List.cons.injEq, Gi_Hex.mk.injEq, and_true, true_and]
        omega
      · by_cases d2 : n < 2 * a
        · rw [nearC2 hn ⟨q3, q4⟩ d2, if_neg d1, if_pos d2]
          simp only [List.map_cons, List.map_nil, List.cons.injEq, Gi_Hex.mk.injEq, and_true, true_and]
          omega
        · rw [nearC3 hn ⟨q3, q4⟩ (by omega), if_neg d1, if_neg d2]
          simp only [List.map_cons, List.map_nil, List.cons.injEq, Gi_Hex.mk.injEq, and_true, true_and]
          omega

theorem tm0 {q n : Int} (hn : 0 < n) : q.tmod n = 0 ↔ q % n = 0 := by
  rw [← Int.dvd_iff_tmod_eq_zero, Int.dvd_iff_emod_eq_zero]

theorem td0 {q n k : Int} (hn : 0 < n) (h : q = n * k) : q.tdiv n = k := by
  subst h
  exact Int.mul_tdiv_cancel_left k (by omega)

theorem hCells_eq {A B : Gi_Hex} {i n : Int} (hn : 0 < n ∧ n ≤ 200) (hi : 0 ≤ i ∧ i ≤ n) (hA : -41 ≤ A.Q ∧ A.Q ≤ 41 ∧ -41 ≤ A.R ∧ A.R ≤ 41) (hB : -41 ≤ B.Q ∧ B.Q ≤ 41 ∧ -41 ≤ B.R ∧ B.R ≤ 41)
    {q r : Int} (eq : q = A.Q * n + (B.Q - A.Q) * i) (er : r = A.R * n + (B.R - A.R) * i)
    (h : q % n = 0 ∨ r % n = 0 ∨ q % n + r % n = n) : Ds_hCells A B i n = some (lineCells q r n) ∧ -90000 ≤ q ∧ q ≤ 90000 ∧ -90000 ≤ r ∧ r ≤ 90000 := by
  have b1 := mulb (a := A.Q) (b := n) (A := 41) (B := 200) (by omega) (by omega)
  have b2 := mulb (a := A.R) (b := n) (A := 41) (B := 200) (by omega) (by omega)
  have b3 := mulb (a := B.Q - A.Q) (b := i) (A := 82) (B := 200) (by omega) (by omega)
  have b4 := mulb (a := B.R - A.R) (b := i) (A := 82) (B := 200) (by omega) (by omega)
  have hq : -90000 ≤ q ∧ q ≤ 90000 := by omega
  have hr : -90000 ≤ r ∧ r ≤ 90000 := by omega
  refine ⟨?_, hq.1, hq.2, hr.1, hr.2⟩
  unfold Ds_hCells
  rw [w64 (n := A.Q * n) (by omega), w64 (n := A.R * n) (by omega), w64 (n := B.Q - A.Q) (by omega), w64 (n := B.R - A.R) (by omega), w64 (n := (B.Q - A.Q) * i) (by omega), w64 (n := (B.R - A.R) * i) (by omega), ← eq, ← er, w64 (n := q) (by omega), w64 (n := r) (by omega)]
  have q3 := Int.emod_nonneg q (b := n) (by omega)
  have q4 := Int.emod_lt_of_pos q hn.1
  have r3 := Int.emod_nonneg r (b := n) (by omega)
  have r4 := Int.emod_lt_of_pos r hn.1
  have q2 := Int.mul_ediv_add_emod q n
  have r2 := Int.mul_ediv_add_emod r n
  have qb := ediv_b hn hq
  have rb := ediv_b hn hr
  rw [if_pos (by omega), hNear_ok hn (q := q) (by omega), hNear_ok hn (q := r) (by omega)]
  simp only [Option.bind_some, tm0 hn.1]
  unfold lineCells
  by_cases c1 : q % n = 0
  · rw [if_pos c1, if_pos c1, cells_h1 hn.1 _ (nearOf_len r n), td0 hn.1 (show q = n * (q / n) by omega), w64 (by omega)]
  · rw [if_neg c1, if_neg c1]
    by_cases c2 : r % n = 0
    · rw [if_pos c2, cells_h2a hn.1 ((tm0 hn.1).2 c2) _ (nearOf_len q n), td0 hn.1 (show r = n * (r / n) by omega), w64 (by omega)]
    · have e : q + r = n * (q / n + r / n + 1) := by
        rw [Int.mul_add, Int.mul_add]
        omega
      rw [if_neg c2, cells_h2b hn.1 (fun x => c2 ((tm0 hn.1).1 x)) _ (nearOf_len q n), w64 (n := q + r) (by omega), td0 hn.1 e, w64 (n := q / n + r / n + 1) (by omega)]
      congr 1
      apply List.map_congr_left
      intro x hx
      have : -200000 ≤ x ∧ x ≤ 200000 := by
        unfold nearOf at hx
        split at hx
        · simp at hx; omega
        · split at hx
          · simp at hx; omega
          · simp at hx; omega
      rw [w64 (by omega)]

/-- The hexes' distance. -/
def hd (A B : Gi_Hex) : Int := ((B.Q - A.Q).natAbs + (B.R - A.R).natAbs + (B.Q - A.Q + (B.R - A.R)).natAbs : Nat) / 2

theorem abs_i {x : Int} (h : -100000 ≤ x ∧ x ≤ 100000) : Di_absOf x = some (x.natAbs : Int) := by
  unfold Di_absOf
  split
  · rw [w64 (by omega)]
    congr 1
    omega
  · congr 1
    omega

theorem abs_s {x : Int} (h : -100000 ≤ x ∧ x ≤ 100000) : Ds_l1Abs x = some (x.natAbs : Int) := by
  unfold Ds_l1Abs Ds_l1Most
  rw [w64 (by omega)]
  split
  · simp only [Option.bind_some]
    congr 1
    omega
  · simp only [Option.bind_some]
    congr 1
    omega

theorem hd_i {A B : Gi_Hex} (hA : -10000 ≤ A.Q ∧ A.Q ≤ 10000 ∧ -10000 ≤ A.R ∧ A.R ≤ 10000) (hB : -10000 ≤ B.Q ∧ B.Q ≤ 10000 ∧ -10000 ≤ B.R ∧ B.R ≤ 10000) : Di_distance A B = some (hd A B) := by
  unfold Di_distance hd
  rw [w64 (n := B.Q - A.Q) (by omega), w64 (n := B.R - A.R) (by omega), w64 (n := B.Q - A.Q + (B.R - A.R)) (by omega), abs_i (by omega), abs_i (by omega), abs_i (by omega)]
  simp only [Option.bind_some]
  rw [w64 (n := ((B.Q - A.Q).natAbs : Int) + ((B.R - A.R).natAbs : Int)) (by omega), w64 (n := ((B.Q - A.Q).natAbs : Int) + ((B.R - A.R).natAbs : Int) + ((B.Q - A.Q + (B.R - A.R)).natAbs : Int)) (by omega), Int.tdiv_eq_ediv_of_nonneg (by omega), w64 (by omega)]
  congr 1

theorem hd_s {A B : Gi_Hex} (hA : -10000 ≤ A.Q ∧ A.Q ≤ 10000 ∧ -10000 ≤ A.R ∧ A.R ≤ 10000) (hB : -10000 ≤ B.Q ∧ B.Q ≤ 10000 ∧ -10000 ≤ B.R ∧ B.R ≤ 10000) : Ds_hDistance A B = some (hd A B) := by
  unfold Ds_hDistance hd
  rw [w64 (n := B.Q - A.Q) (by omega), w64 (n := B.R - A.R) (by omega), w64 (n := B.Q - A.Q + (B.R - A.R)) (by omega), abs_s (by omega), abs_s (by omega), abs_s (by omega)]
  simp only [Option.bind_some]
  rw [w64 (n := ((B.Q - A.Q).natAbs : Int) + ((B.R - A.R).natAbs : Int)) (by omega), w64 (n := ((B.Q - A.Q).natAbs : Int) + ((B.R - A.R).natAbs : Int) + ((B.Q - A.Q + (B.R - A.R)).natAbs : Int)) (by omega), Int.tdiv_eq_ediv_of_nonneg (by omega), w64 (by omega)]
  congr 1

/-- Of three sides the longest is the distance: so a point of a line lies on a grid line. -/
theorem side {A B : Gi_Hex} {n i q r : Int} (hn : 0 < n) (e : n = hd A B) (eq : q = A.Q * n + (B.Q - A.Q) * i) (er : r = A.R * n + (B.R - A.R) * i) : q % n = 0 ∨ r % n = 0 ∨ q % n + r % n = n := by
  have h : B.Q - A.Q = n ∨ B.Q - A.Q = -n ∨ B.R - A.R = n ∨ B.R - A.R = -n ∨ B.Q - A.Q + (B.R - A.R) = n ∨ B.Q - A.Q + (B.R - A.R) = -n := by
    unfold hd at e
    omega
  have z : ∀ k x y : Int, x = y * n + k * i → (k = n ∨ k = -n) → x % n = 0 := by
    intro k x y h1 h2
    apply Int.emod_eq_zero_of_dvd
    rcases h2 with h2 | h2
    · exact ⟨y + i, by subst h2; subst h1; grind⟩
    · exact ⟨y - i, by subst h2; subst h1; grind⟩
  rcases h with h | h | h | h | h | h
  · exact .inl (z _ _ _ eq (.inl h))
  · exact .inl (z _ _ _ eq (.inr h))
  · exact .inr (.inl (z _ _ _ er (.inl h)))
  · exact .inr (.inl (z _ _ _ er (.inr h)))
  all_goals
    have hs : (q + r) % n = 0 := z (B.Q - A.Q + (B.R - A.R)) (q + r) (A.Q + A.R) (by subst eq; subst er; grind) (by omega)
    rw [Int.add_emod] at hs
    have q3 := Int.emod_nonneg q (b := n) (by omega)
    have q4 := Int.emod_lt_of_pos q hn
    have r3 := Int.emod_nonneg r (b := n) (by omega)
    have r4 := Int.emod_lt_of_pos r hn
    rcases Int.lt_or_le (q % n + r % n) n with c | c
    · rw [Int.emod_eq_of_lt (by omega) c] at hs
      omega
    · have := Int.emod_add_mul_ediv (q % n + r % n - n) n
      have e2 : (q % n + r % n) % n = (q % n + r % n - n) % n := (Int.sub_emod_right ..).symm
      rw [e2, Int.emod_eq_of_lt (by omega) (by omega)] at hs
      omega

theorem range_loop {α σ : Type} {B : σ → Option (σ ⊕ List α)} {S : Int → List α → σ} {g : Nat → α} (n : Nat)
    (hs : ∀ (i : Nat) out, i < n → out.length = i → B (S i out) = some (.inl (S ((i + 1 : Nat) : Int) (out ++ [g i])))) (he : ∀ out, B (S n out) = some (.inr out)) :
    loop B (S 0 []) = some ((List.range n).map g) := by
  have key : ∀ (k i : Nat), i + k = n → loop B (S i ((List.range i).map g)) = some ((List.range n).map g) := by
    intro k
    induction k with
    | zero =>
      intro i h
      have : i = n := by omega
      subst this
      rw [loop_eq, he]
      rfl
    | succ k ih =>
      intro i h
      rw [loop_eq, hs i _ (by omega) (by simp)]
      have e : (List.range i).map g ++ [g i] = (List.range (i + 1)).map g := by
        rw [List.range_succ, List.map_append]
        rfl
      rw [e]
      exact ih (i + 1) (by omega)
  exact key n 0 (by omega)

def HexOk (A : Gi_Hex) : Prop := -40 ≤ A.Q ∧ A.Q ≤ 40 ∧ -40 ≤ A.R ∧ A.R ≤ 40

/-- The cells of the line from A to B at step i. -/
def hexLineAt (A B : Gi_Hex) (i : Nat) : List Gi_Hex := lineCells (A.Q * hd A B + (B.Q - A.Q) * i) (A.R * hd A B + (B.R - A.R) * i) (hd A B)
def hexLineR (A B : Gi_Hex) : List (List Gi_Hex) := if hd A B = 0 then [[A]] else (List.range ((hd A B).toNat + 1)).map (hexLineAt A B)

theorem hd_b {A B : Gi_Hex} (hA : HexOk A) (hB : HexOk B) : 0 ≤ hd A B ∧ hd A B ≤ 160 := by
  unfold HexOk at hA hB
  unfold hd
  omega

theorem lineOf_i {A B : Gi_Hex} (hA : HexOk A) (hB : HexOk B) : Di_lineOf A B = some (hexLineR A B) := by
  have hb := hd_b hA hB
  have hA' := hA
  have hB' := hB
  unfold HexOk at hA' hB'
  unfold Di_lineOf hexLineR
  rw [hd_i (by omega) (by omega)]
  simp only [Option.bind_some]
  by_cases c : hd A B = 0
  · rw [if_pos c, if_pos c]
  · rw [if_neg c, if_neg c]
    refine range_loop (S := fun i out => Si_lineOf.h1 (hd A B) i A B out) (g := hexLineAt A B) _ ?_ ?_
    · intro i out hi ho
      obtain ⟨_, q1, q2, r1, r2⟩ := hCells_eq (A := A) (B := B) (i := i) (n := hd A B) (by omega) (by omega) (by omega) (by omega) rfl rfl (side (by omega) rfl rfl rfl)
      have h3 := nearest_eq (n := hd A B) (by omega) ⟨q1, q2⟩ ⟨r1, r2⟩ (side (by omega) rfl rfl rfl)
      have b1 := mulb (a := A.Q) (b := hd A B) (A := 41) (B := 200) (by omega) (by omega)
      have b2 := mulb (a := A.R) (b := hd A B) (A := 41) (B := 200) (by omega) (by omega)
      have b3 := mulb (a := B.Q - A.Q) (b := i) (A := 82) (B := 200) (by omega) (by omega)
      have b4 := mulb (a := B.R - A.R) (b := i) (A := 82) (B := 200) (by omega) (by omega)
      simp only [Bi_lineOf]
      rw [if_pos (by omega), Int.mul_comm (i : Int), Int.mul_comm (i : Int), w64 (n := B.Q - A.Q) (by omega), w64 (n := B.R - A.R) (by omega), w64 (n := A.Q * hd A B) (by omega), w64 (n := A.R * hd A B) (by omega), w64 (n := (B.Q - A.Q) * i) (by omega), w64 (n := (B.R - A.R) * i) (by omega), w64 (n := A.Q * hd A B + (B.Q - A.Q) * i) (by omega), w64 (n := A.R * hd A B + (B.R - A.R) * i) (by omega), h3]
      simp only [Option.bind_some]
      rw [if_pos (by rw [List.length_append, List.length_singleton]; omega), wsucc (by omega)]
      rfl
    · intro out
      simp only [Bi_lineOf]
      rw [if_neg (by omega)]

theorem hLine_s {A B : Gi_Hex} (hA : HexOk A) (hB : HexOk B) : Ds_hLine A B = some (hexLineR A B) := by
  have hb := hd_b hA hB
  have hA' := hA
  have hB' := hB
  unfold HexOk at hA' hB'
  unfold Ds_hLine hexLineR
  rw [hd_s (by omega) (by omega)]
  simp only [Option.bind_some]
  by_cases c : hd A B = 0
  · rw [if_pos c, if_pos c]
  · rw [if_neg c, if_neg c]
    refine range_loop (S := fun i out => Ss_hLine.h1 (hd A B) i A B out) (g := hexLineAt A B) _ ?_ ?_
    · intro i out hi ho
      obtain ⟨h3, _⟩ := hCells_eq (A := A) (B := B) (i := i) (n := hd A B) (by omega) (by omega) (by omega) (by omega) rfl rfl (side (by omega) rfl rfl rfl)
      simp only [Bs_hLine]
      rw [if_pos (by omega), h3]
      simp only [Option.bind_some]
      rw [if_pos (by rw [List.length_append, List.length_singleton]; omega), wsucc (by omega)]
      rfl
    · intro out
      simp only [Bs_hLine]
      rw [if_neg (by omega)]

theorem bndX {n X d i u : Int} (hn : 0 < n) (hd : -n ≤ d ∧ d ≤ n) (hi : 0 ≤ i) (hu : -n < u ∧ u < n) (e : n * X = d * i + u) : -i ≤ X ∧ X ≤ i := by
  have h1 := Int.mul_le_mul_of_nonneg_right hd.2 hi
  have h2 := Int.mul_le_mul_of_nonneg_right hd.1 hi
  have h5 : -n * i = -(n * i) := Int.neg_mul ..
  constructor
  · rcases Int.lt_or_le X (-i) with h | h
    · have h3 := Int.mul_le_mul_of_nonneg_left (show X ≤ -i - 1 by omega) (show 0 ≤ n by omega)
      have h4 : n * (-i - 1) = -(n * i) - n := by grind
      omega
    · exact h
  · rcases Int.lt_or_le i X with h | h
    · have h3 := Int.mul_le_mul_of_nonneg_left (show i + 1 ≤ X by omega) (show 0 ≤ n by omega)
      have h4 : n * (i + 1) = n * i + n := by grind
      omega
    · exact h

theorem exX {n X d i : Int} (hn : 0 < n) (hd : d = n ∨ d = -n) (e : n * X = d * i) : X = i ∨ X = -i := by
  rcases hd with h | h
  · left
    subst h
    exact Int.eq_of_mul_eq_mul_left (by omega) e
  · right
    subst h
    exact Int.eq_of_mul_eq_mul_left (show n ≠ 0 by omega) (by rw [e]; grind)

theorem near_mem {q n x : Int} (hn : 0 < n) (h : x ∈ nearOf q n) : (n * x - q = -(q % n) ∧ 2 * (q % n) ≤ n ∧ x = q / n) ∨ (n * x - q = n - q % n ∧ n ≤ 2 * (q % n) ∧ x = q / n + 1) := by
  have q2 := Int.mul_ediv_add_emod q n
  have e : n * (q / n + 1) = n * (q / n) + n := by grind
  unfold nearOf at h
  split at h
  · simp only [List.mem_singleton] at h
    subst h
    left
    omega
  · split at h
    · simp only [List.mem_singleton] at h
      subst h
      right
      omega
    · simp only [List.mem_cons, List.not_mem_nil, or_false] at h
      rcases h with h | h
      · subst h
        left
        omega
      · subst h
        right
        omega

theorem cell_uv {q r n : Int} (hn : 0 < n) (h : q % n = 0 ∨ r % n = 0 ∨ q % n + r % n = n) {x : Gi_Hex} (hx : x ∈ lineCells q r n) :
    ∃ u v, n * x.Q = q + u ∧ n * x.R = r + v ∧ (-n < u ∧ u < n) ∧ (-n < v ∧ v < n) ∧ (-n < u + v ∧ u + v < n) ∧ (q % n = 0 → u = 0) ∧ (r % n = 0 → v = 0) ∧ (q % n + r % n = 0 ∨ q % n + r % n = n → u + v = 0) := by
  have q3 := Int.emod_nonneg q (b := n) (by omega)
  have q4 := Int.emod_lt_of_pos q hn
  have r3 := Int.emod_nonneg r (b := n) (by omega)
  have r4 := Int.emod_lt_of_pos r hn
  have q2 := Int.mul_ediv_add_emod q n
  have r2 := Int.mul_ediv_add_emod r n
  refine ⟨n * x.Q - q, n * x.R - r, by omega, by omega, ?_⟩
  unfold lineCells at hx
  split at hx
  · obtain ⟨y, hy, rfl⟩ := List.mem_map.1 hx
    have := near_mem hn hy
    simp only
    omega
  · split at hx
    · obtain ⟨y, hy, rfl⟩ := List.mem_map.1 hx
      have := near_mem hn hy
      simp only
      omega
    · obtain ⟨y, hy, rfl⟩ := List.mem_map.1 hx
      have h1 := near_mem hn hy
      simp only
      have e : n * (q / n + r / n + 1 - y) = n * (q / n) + n * (r / n) + n - n * y := by grind
      omega

theorem cell_ok {A B : Gi_Hex} (hA : HexOk A) (hB : HexOk B) (hn : 0 < hd A B) {i : Nat} (hi : (i : Int) ≤ hd A B) {x : Gi_Hex} (hx : x ∈ hexLineAt A B i) :
    HexOk x ∧ hd A x = i ∧ hd x B = hd A B - i := by
  unfold hexLineAt at hx
  have hs := side hn rfl (i := i) (q := A.Q * hd A B + (B.Q - A.Q) * i) (r := A.R * hd A B + (B.R - A.R) * i) rfl rfl
  obtain ⟨u, v, e1, e2, hu, hv, huv, z1, z2, z3⟩ := cell_uv hn hs hx
  have hside : (-hd A B ≤ B.Q - A.Q ∧ B.Q - A.Q ≤ hd A B) ∧ (-hd A B ≤ B.R - A.R ∧ B.R - A.R ≤ hd A B) ∧ (-hd A B ≤ B.Q - A.Q + (B.R - A.R) ∧ B.Q - A.Q + (B.R - A.R) ≤ hd A B) := by
    unfold hd
    omega
  have hex : (B.Q - A.Q = hd A B ∨ B.Q - A.Q = -hd A B) ∨ (B.R - A.R = hd A B ∨ B.R - A.R = -hd A B) ∨ (B.Q - A.Q + (B.R - A.R) = hd A B ∨ B.Q - A.Q + (B.R - A.R) = -hd A B) := by
    unfold hd
    omega
  have zz : ∀ k x y : Int, (k = hd A B ∨ k = -hd A B) → (y * hd A B + k * x) % hd A B = 0 := by
    intro k x y h2
    apply Int.emod_eq_zero_of_dvd
    rcases h2 with h2 | h2
    · exact ⟨y + x, by rw [h2]; grind⟩
    · exact ⟨y - x, by rw [h2]; grind⟩
  have exq : B.Q - A.Q = hd A B ∨ B.Q - A.Q = -hd A B → u = 0 := fun h => z1 (zz _ _ _ h)
  have exr : B.R - A.R = hd A B ∨ B.R - A.R = -hd A B → v = 0 := fun h => z2 (zz _ _ _ h)
  have exs : B.Q - A.Q + (B.R - A.R) = hd A B ∨ B.Q - A.Q + (B.R - A.R) = -hd A B → u + v = 0 := by
    intro h
    apply z3
    have hz := zz _ (i : Int) (A.Q + A.R) h
    have e : (A.Q + A.R) * hd A B + (B.Q - A.Q + (B.R - A.R)) * i = (A.Q * hd A B + (B.Q - A.Q) * i) + (A.R * hd A B + (B.R - A.R) * i) := by grind
    rw [e, Int.add_emod] at hz
    have q3 := Int.emod_nonneg (A.Q * hd A B + (B.Q - A.Q) * i) (b := hd A B) (by omega)
    have q4 := Int.emod_lt_of_pos (A.Q * hd A B + (B.Q - A.Q) * i) hn
    have r3 := Int.emod_nonneg (A.R * hd A B + (B.R - A.R) * i) (b := hd A B) (by omega)
    have r4 := Int.emod_lt_of_pos (A.R * hd A B + (B.R - A.R) * i) hn
    generalize (A.Q * hd A B + (B.Q - A.Q) * i) % hd A B = a at *
    generalize (A.R * hd A B + (B.R - A.R) * i) % hd A B = b at *
    rcases Int.lt_or_le (a + b) (hd A B) with c | c
    · rw [Int.emod_eq_of_lt (by omega) c] at hz
      exact .inl hz
    · have e2 : (a + b) % hd A B = (a + b - hd A B) % hd A B := (Int.sub_emod_right ..).symm
      rw [e2, Int.emod_eq_of_lt (by omega) (by omega)] at hz
      omega
  generalize hN : hd A B = n at *
  have a1 : n * (x.Q - A.Q) = (B.Q - A.Q) * i + u := by grind
  have a2 : n * (x.R - A.R) = (B.R - A.R) * i + v := by grind
  have a3 : n * (x.Q - A.Q + (x.R - A.R)) = (B.Q - A.Q + (B.R - A.R)) * i + (u + v) := by grind
  have c1 : n * (B.Q - x.Q) = (B.Q - A.Q) * (n - i) + -u := by grind
  have c2 : n * (B.R - x.R) = (B.R - A.R) * (n - i) + -v := by grind
  have c3 : n * (B.Q - x.Q + (B.R - x.R)) = (B.Q - A.Q + (B.R - A.R)) * (n - i) + -(u + v) := by grind
  have d1 := bndX hn hside.1 (by omega) hu a1
  have d2 := bndX hn hside.2.1 (by omega) hv a2
  have d3 := bndX hn hside.2.2 (by omega) huv a3
  have f1 := bndX hn hside.1 (by omega) (by omega) c1
  have f2 := bndX hn hside.2.1 (by omega) (by omega) c2
  have f3 := bndX hn hside.2.2 (by omega) (by omega) c3
  have hA' := hA
  have hB' := hB
  unfold HexOk at hA' hB'
  have both : hd A x = i ∧ hd x B = n - i := by
    unfold hd
    rcases hex with h | h | h
    · have g1 := exX hn h (by rw [a1, exq h, Int.add_zero])
      have g2 := exX hn h (by rw [c1, exq h, Int.neg_zero, Int.add_zero])
      omega
    · have g1 := exX hn h (by rw [a2, exr h, Int.add_zero])
      have g2 := exX hn h (by rw [c2, exr h, Int.neg_zero, Int.add_zero])
      omega
    · have g1 := exX hn h (by rw [a3, exs h, Int.add_zero])
      have g2 := exX hn h (by rw [c3, exs h, Int.neg_zero, Int.add_zero])
      omega
  refine ⟨?_, both⟩
  have bo : ∀ a b y w : Int, -40 ≤ a ∧ a ≤ 40 → -40 ≤ b ∧ b ≤ 40 → n * y = a * n + (b - a) * i + w → (-n < w ∧ w < n) → -40 ≤ y ∧ y ≤ 40 := by
    intro a b y w ha hb e hw
    have e' : n * y = a * (n - i) + b * i + w := by grind
    have p1 := Int.mul_le_mul_of_nonneg_right ha.2 (show 0 ≤ n - i by omega)
    have p2 := Int.mul_le_mul_of_nonneg_right ha.1 (show 0 ≤ n - i by omega)
    have p3 := Int.mul_le_mul_of_nonneg_right hb.2 (show (0 : Int) ≤ i by omega)
    have p4 := Int.mul_le_mul_of_nonneg_right hb.1 (show (0 : Int) ≤ i by omega)
    constructor
    · rcases Int.lt_or_le y (-40) with h | h
      · have := Int.mul_le_mul_of_nonneg_left (show y ≤ -41 by omega) (show 0 ≤ n by omega)
        omega
      · exact h
    · rcases Int.lt_or_le 40 y with h | h
      · have := Int.mul_le_mul_of_nonneg_left (show 41 ≤ y by omega) (show 0 ≤ n by omega)
        omega
      · exact h
  have k1 := bo A.Q B.Q x.Q u (by omega) (by omega) e1 hu
  have k2 := bo A.R B.R x.R v (by omega) (by omega) e2 hv
  exact ⟨k1.1, k1.2, k2.1, k2.2⟩

theorem lineCells_len (q r n : Int) : (lineCells q r n).length ≤ 2 := by
  have h1 := nearOf_len q n
  have h2 := nearOf_len r n
  unfold lineCells
  split
  · simpa using h2
  · split <;> simpa using h1

theorem hexLineR_mem {A B : Gi_Hex} (hA : HexOk A) (hB : HexOk B) {i : Nat} {c : List Gi_Hex} (h : (hexLineR A B)[i]? = some c) :
    c.length ≤ 2 ∧ ((hexLineR A B).length : Int) = hd A B + 1 ∧ ∀ x ∈ c, HexOk x ∧ hd A x = i ∧ hd x B = hd A B - i := by
  have hb := hd_b hA hB
  unfold hexLineR at h ⊢
  by_cases c0 : hd A B = 0
  · rw [if_pos c0] at h ⊢
    cases i with
    | zero =>
      simp only [List.getElem?_cons_zero, Option.some.injEq] at h
      subst h
      refine ⟨by simp, by simp [c0], ?_⟩
      intro x hx
      simp only [List.mem_singleton] at hx
      subst hx
      refine ⟨hA, ?_, by omega⟩
      unfold hd
      omega
    | succ i => simp at h
  · rw [if_neg c0] at h ⊢
    have hi : i < (hd A B).toNat + 1 := by
      have := (List.getElem?_eq_some_iff.1 h).1
      simpa using this
    rw [List.getElem?_map, List.getElem?_range hi] at h
    simp only [Option.map_some, Option.some.injEq] at h
    subst h
    refine ⟨lineCells_len _ _ _, ?_, fun x hx => cell_ok hA hB (by omega) (by omega) hx⟩
    simp only [List.length_map, List.length_range]
    omega

theorem hexLineR_len {A B : Gi_Hex} (hA : HexOk A) (hB : HexOk B) : ((hexLineR A B).length : Int) = hd A B + 1 := by
  have hb := hd_b hA hB
  unfold hexLineR
  split
  · simp only [List.length_singleton]; omega
  · simp only [List.length_map, List.length_range]; omega

def dQ (d : Int) : Int := if d = 0 then 1 else if d = 1 then 1 else if d = 2 then 0 else if d = 3 then -1 else if d = 4 then -1 else 0
def dR (d : Int) : Int := if d = 0 then 0 else if d = 1 then -1 else if d = 2 then -1 else if d = 3 then 0 else 1
def hexGo (h : Gi_Hex) (d n : Int) : Gi_Hex := ⟨h.Q + n * dQ d, h.R + n * dR d⟩
def HexMid (h : Gi_Hex) : Prop := -10000 ≤ h.Q ∧ h.Q ≤ 10000 ∧ -10000 ≤ h.R ∧ h.R ≤ 10000

theorem sixDirs {d : Int} (h : 0 ≤ d ∧ d < 6) : d = 0 ∨ d = 1 ∨ d = 2 ∨ d = 3 ∨ d = 4 ∨ d = 5 := by omega
theorem dirGet {d : Int} (h : 0 ≤ d ∧ d < 6) : gv0[d.toNat]? = some ⟨dQ d, dR d⟩ := by
  rcases sixDirs h with rfl | rfl | rfl | rfl | rfl | rfl <;> rfl
theorem dirQ {d : Int} (h : 0 ≤ d ∧ d < 6) : [1, 1, 0, (-1), (-1), 0][d.toNat]? = some (dQ d) := by
  rcases sixDirs h with rfl | rfl | rfl | rfl | rfl | rfl <;> rfl
theorem dirR {d : Int} (h : 0 ≤ d ∧ d < 6) : [0, (-1), (-1), 0, 1, 1][d.toNat]? = some (dR d) := by
  rcases sixDirs h with rfl | rfl | rfl | rfl | rfl | rfl <;> rfl
theorem dirB {d : Int} (h : 0 ≤ d ∧ d < 6) (n : Int) : (n * dQ d = n ∨ n * dQ d = 0 ∨ n * dQ d = -n) ∧ (n * dR d = n ∨ n * dR d = 0 ∨ n * dR d = -n) := by
  rcases sixDirs h with rfl | rfl | rfl | rfl | rfl | rfl <;> simp [dQ, dR] <;> omega
theorem stepBy_i {h : Gi_Hex} {d n : Int} (hd : 0 ≤ d ∧ d < 6) (hh : HexMid h) (hn : -10000 ≤ n ∧ n ≤ 10000) : Di_stepBy h d n = some (hexGo h d n) := by
  obtain ⟨b1, b2⟩ := dirB hd n
  unfold HexMid at hh
  unfold Di_stepBy hexGo
  rw [if_pos hd.1, dirGet hd, Option.bind_some, if_pos hd.1, Option.bind_some]
  rw [w64 (n := n * dQ d) (by omega), w64 (n := n * dR d) (by omega), w64 (by omega), w64 (by omega)]
theorem hStep_s {h : Gi_Hex} {d : Int} (hd : 0 ≤ d ∧ d < 6) (hh : HexMid h) : Ds_hStep h d = some (hexGo h d 1) := by
  obtain ⟨b1, b2⟩ := dirB hd 1
  unfold HexMid at hh
  unfold Ds_hStep hexGo
  rw [if_pos hd.1, dirQ hd, Option.bind_some, if_pos hd.1, dirR hd, Option.bind_some]
  simp only [Int.one_mul] at b1 b2 ⊢
  rw [w64 (by omega), w64 (by omega)]
def MpDim (m : Gi_Map) (b : Int) : Prop := 1 ≤ m.Width ∧ m.Width ≤ b ∧ 1 ≤ m.Height ∧ m.Height ≤ b
def mpHex (m : Gi_Map) (i : Int) : Gi_Hex := ⟨i % m.Width, i / m.Width⟩
theorem mpDiv {i w : Int} (hi : 0 ≤ i) (hw : 1 ≤ w) : 0 ≤ i / w ∧ i / w ≤ i ∧ 0 ≤ i % w ∧ i % w < w := ⟨Int.ediv_nonneg hi (by omega), Int.ediv_le_self _ hi, Int.emod_nonneg _ (by omega), Int.emod_lt_of_pos _ (by omega)⟩
theorem hexOf_b {m : Gi_Map} {i : Int} (hw : 1 ≤ m.Width) (hi : 0 ≤ i ∧ i ≤ 10000) : Di_hexOf m i = some (mpHex m i) ∧ Ds_mHex m i = some (mpHex m i) := by
  obtain ⟨d1, d2, d3, d4⟩ := mpDiv hi.1 hw
  have h0 : ¬ m.Width = 0 := by omega
  unfold Di_hexOf Ds_mHex mpHex
  rw [if_pos h0, if_pos h0, Int.tmod_eq_emod_of_nonneg hi.1, Int.tdiv_eq_ediv_of_nonneg hi.1, w64 (by omega)]
  exact ⟨rfl, rfl⟩
theorem mpHex_mid {m : Gi_Map} {i : Int} (hw : 1 ≤ m.Width ∧ m.Width ≤ 100) (hi : 0 ≤ i ∧ i ≤ 10000) : HexMid (mpHex m i) := by
  obtain ⟨d1, d2, d3, d4⟩ := mpDiv hi.1 hw.1
  unfold HexMid mpHex
  simp only
  omega
def mpIdx (m : Gi_Map) (h : Gi_Hex) : Int := if 0 ≤ h.Q ∧ h.Q ≤ m.Width - 1 ∧ 0 ≤ h.R ∧ h.R ≤ m.Height - 1 then h.R * m.Width + h.Q else -1
theorem indexOf_b {m : Gi_Map} {h : Gi_Hex} (hd : MpDim m 100) : Di_indexOf m h = some (mpIdx m h) ∧ Ds_mIndex m h = some (mpIdx m h) := by
  unfold MpDim at hd
  unfold Di_indexOf Ds_mIndex Di_isIndex Di_inRange Ds_l1In mpIdx
  rw [w64 (n := m.Width - 1) (by omega), w64 (n := m.Height - 1) (by omega)]
  by_cases c1 : 0 ≤ h.Q
  · by_cases c2 : h.Q ≤ m.Width - 1
    · by_cases c3 : 0 ≤ h.R
      · by_cases c4 : h.R ≤ m.Height - 1
        · have hm := mulb (a := h.R) (b := m.Width) (A := 100) (B := 100) (by omega) (by omega)
          simp only [c1, c2, c3, c4, if_true, Option.bind_some, decide_true, ge_iff_le, and_self]
          rw [w64 (n := h.R * m.Width) (by omega), w64 (by omega)]
        · simp [c1, c2, c3, c4]
      · simp [c1, c2, c3]
    · simp [c1, c2]
  · simp [c1]
def mpNext (m : Gi_Map) (i d : Int) : Int := mpIdx m (hexGo (mpHex m i) d 1)
theorem next_b {m : Gi_Map} {i d : Int} (hd : MpDim m 100) (hi : 0 ≤ i ∧ i ≤ 10000) (h6 : 0 ≤ d ∧ d < 6) : Di_nextTo m i d = some (mpNext m i d) ∧ Ds_mNext m i d = some (mpNext m i d) := by
  have hd' := hd
  unfold MpDim at hd'
  have hm := mpHex_mid (m := m) (i := i) ⟨hd'.1, hd'.2.1⟩ hi
  obtain ⟨a1, a2⟩ := hexOf_b (m := m) hd'.1 hi
  obtain ⟨b1, b2⟩ := indexOf_b (h := hexGo (mpHex m i) d 1) hd
  unfold Di_nextTo Ds_mNext
  rw [a1, a2, Option.bind_some, Option.bind_some, stepBy_i h6 hm (by decide), hStep_s h6 hm, Option.bind_some, Option.bind_some, b1, b2]
  exact ⟨rfl, rfl⟩
theorem mpMul {w h r q : Int} (hq : 0 ≤ q ∧ q ≤ w - 1) (hr : 0 ≤ r ∧ r ≤ h - 1) : 0 ≤ r * w + q ∧ r * w + q < w * h := by
  have h1 : r * w ≤ (h - 1) * w := Int.mul_le_mul_of_nonneg_right hr.2 (by omega)
  have h2 : 0 ≤ r * w := Int.mul_nonneg hr.1 (by omega)
  rw [Int.sub_mul, Int.one_mul, Int.mul_comm h w] at h1
  omega
/-- The hex of an index that is found is the hex. -/
theorem mpIdx_hex {m : Gi_Map} {h : Gi_Hex} (hk : 0 ≤ mpIdx m h) : mpHex m (mpIdx m h) = h ∧ mpIdx m h < m.Width * m.Height := by
  unfold mpIdx at hk ⊢
  by_cases c : 0 ≤ h.Q ∧ h.Q ≤ m.Width - 1 ∧ 0 ≤ h.R ∧ h.R ≤ m.Height - 1
  · rw [if_pos c]
    have e := (Int.ediv_emod_unique (a := h.R * m.Width + h.Q) (b := m.Width) (r := h.Q) (q := h.R) (by omega)).2 ⟨by rw [Int.mul_comm]; omega, c.1, by omega⟩
    refine ⟨?_, (mpMul ⟨c.1, c.2.1⟩ c.2.2).2⟩
    unfold mpHex
    rw [e.1, e.2]
  · rw [if_neg c] at hk
    omega
theorem mpSize {m : Gi_Map} {b : Int} (hd : MpDim m b) : 1 ≤ m.Width * m.Height ∧ m.Width * m.Height ≤ b * b := by
  unfold MpDim at hd
  constructor
  · have := Int.mul_le_mul hd.1 hd.2.2.1 (by decide) (by omega)
    omega
  · exact Int.mul_le_mul hd.2.1 hd.2.2.2 (by omega) (by omega)
theorem mSize_s {m : Gi_Map} {b : Int} (hd : MpDim m b) (hb : b * b ≤ 2000000) : Ds_mSize m = some (m.Width * m.Height) := by
  have := mpSize hd
  unfold Ds_mSize
  rw [w64 (by omega)]

def mpEdgeOk (m : Gi_Map) (e : Int) : Bool := decide (0 ≤ e) && decide (e ≤ 3 * (m.Width * m.Height) - 1) && decide (0 ≤ mpNext m (e / 3) (e % 3))
theorem mpEdge_iff {m : Gi_Map} {e : Int} : mpEdgeOk m e = true ↔ 0 ≤ e ∧ e ≤ 3 * (m.Width * m.Height) - 1 ∧ 0 ≤ mpNext m (e / 3) (e % 3) := by
  simp [mpEdgeOk, and_assoc]
theorem isEdge_i {m : Gi_Map} {e : Int} (hd : MpDim m 10) : Di_isEdge m e = some (mpEdgeOk m e) := by
  have hs := mpSize hd
  have hd1 : MpDim m 100 := by unfold MpDim at hd ⊢; omega
  have hd' := hd
  unfold MpDim at hd'
  unfold Di_isEdge Di_inRange mpEdgeOk
  have e1 : 3 * m.Width * m.Height = 3 * (m.Width * m.Height) := Int.mul_assoc _ _ _
  rw [w64 (n := 3 * m.Width) (by omega), e1, w64 (n := 3 * (m.Width * m.Height)) (by omega), w64 (n := 3 * (m.Width * m.Height) - 1) (by omega)]
  by_cases c1 : 0 ≤ e
  · by_cases c2 : e ≤ 3 * (m.Width * m.Height) - 1
    · have h3 : 0 ≤ e / 3 ∧ e / 3 ≤ 10000 := by omega
      simp only [c1, c2, if_true, Option.bind_some, decide_true, Bool.true_and]
      rw [Int.tdiv_eq_ediv_of_nonneg c1, Int.tmod_eq_emod_of_nonneg c1, w64 (by omega), (next_b hd1 h3 (by omega)).1]
      rfl
    · simp [c1, c2]
  · simp [c1]
def rsB (l : List Int) : Nat → Nat → Bool
  | 0, _ => true
  | n + 1, i => (match l[i - 1]?, l[i]? with
    | some x, some y => decide (x < y)
    | _, _ => true) && rsB l n (i + 1)
def rising (l : List Int) : Bool := rsB l (l.length - 1) 1
theorem incr_i {l : List Int} (hl : l.length ≤ 2000000) : ∀ (n i : Nat), 1 ≤ i → (i + n = l.length ∨ n = 0 ∧ l.length ≤ i ∧ i ≤ 1) → loop Bi_increasing (.h1 l (i : Int)) = some (rsB l n i)
  | 0, i, h1, h => by
    rw [loop_eq]
    simp only [Bi_increasing]
    rw [if_neg (by omega)]
    rfl
  | n + 1, i, h1, h => by
    have hx : l[i - 1]? = some l[i - 1] := List.getElem?_eq_getElem (by omega)
    have hy : l[i]? = some l[i] := List.getElem?_eq_getElem (by omega)
    have ih := incr_i hl n (i + 1) (by omega) (by omega)
    have e : IntKind.wrap .i64 ((i : Int) - 1) = ((i - 1 : Nat) : Int) := by rw [w64 (by omega)]; omega
    rw [loop_eq]
    simp only [Bi_increasing, rsB, e, Int.toNat_natCast, hx, hy, Option.bind_some]
    rw [if_pos (by omega), if_pos (by omega), if_pos (by omega), wsucc (by omega)]
    by_cases c : l[i - 1] < l[i]
    · rw [if_neg (by omega), decide_eq_true c, Bool.true_and]
      exact ih
    · rw [if_pos (by omega), decide_eq_false c, Bool.false_and]
      rfl
theorem increasing_i {l : List Int} (hl : l.length ≤ 2000000) : Di_increasing l = some (rising l) := incr_i hl (l.length - 1) 1 (Nat.le_refl _) (by omega)
theorem in_b {x lo hi : Int} : Ds_l1In x lo hi = some (decide (lo ≤ x) && decide (x ≤ hi)) := by
  unfold Ds_l1In
  by_cases c : lo ≤ x <;> simp [c]
theorem rise_s {l : List Int} {hi : Int} (hl : l.length ≤ 2000000) (ha : ∀ x ∈ l, 0 ≤ x ∧ x ≤ hi) : ∀ (n i : Nat), 1 ≤ i → (i + n = l.length) → loop Bs_l1Rising (.h1 l 0 hi l (l.length : Int) (i : Int)) = some (rsB l n i)
  | 0, i, h1, h => by
    rw [loop_eq]
    simp only [Bs_l1Rising]
    rw [if_neg (by omega)]
    rfl
  | n + 1, i, h1, h => by
    have hx : l[i - 1]? = some l[i - 1] := List.getElem?_eq_getElem (by omega)
    have hy : l[i]? = some l[i] := List.getElem?_eq_getElem (by omega)
    have ih := rise_s hl ha n (i + 1) (by omega) (by omega)
    obtain ⟨a1, a2⟩ := ha l[i] (List.getElem_mem (by omega))
    have e : IntKind.wrap .i64 ((i : Int) - 1) = ((i - 1 : Nat) : Int) := by rw [w64 (by omega)]; omega
    rw [loop_eq]
    simp only [Bs_l1Rising, rsB, e, Int.toNat_natCast, hx, hy, Option.bind_some, in_b, a1, a2, decide_true, Bool.and_self, if_true]
    rw [if_pos (by omega), if_pos (by omega), if_pos (by omega), if_pos (by omega), wsucc (by omega)]
    by_cases c : l[i - 1] < l[i]
    · rw [if_neg (by omega), decide_eq_true c, Bool.true_and]
      exact ih
    · rw [if_pos (by omega), decide_eq_false c, Bool.false_and]
      rfl
theorem rising_s {l : List Int} {hi : Int} (hl : l.length ≤ 2000000) (ha : ∀ x ∈ l, 0 ≤ x ∧ x ≤ hi) : Ds_l1Rising l 0 hi = some (rising l) := by
  unfold Ds_l1Rising rising
  by_cases z : l.length = 0
  · have : l = [] := List.length_eq_zero_iff.1 z
    subst this
    rw [loop_eq]
    rfl
  · have hy : l[0]? = some l[0] := List.getElem?_eq_getElem (by omega)
    obtain ⟨a1, a2⟩ := ha l[0] (List.getElem_mem (by omega))
    have := rise_s hl ha (l.length - 1) 1 (Nat.le_refl _) (by omega)
    rw [loop_eq]
    have e0 : l[Int.toNat 0]? = some l[0] := hy
    simp only [Bs_l1Rising, e0, Option.bind_some, in_b, a1, a2, decide_true, Bool.and_self, if_true]
    rw [if_pos (by omega), if_pos (by decide), if_neg (by decide)]
    exact this
def mpList (m : Gi_Map) (l : List Int) : Bool := l.all (mpEdgeOk m) && rising l
theorem edgesGo_s {m : Gi_Map} (hd : MpDim m 10) {l : List Int} (hl : l.length ≤ 2000000) : ∀ (n i : Nat), i + n = l.length → (∀ x ∈ l.take i, mpEdgeOk m x = true) → loop Bs_mEdges (.h1 l l (l.length : Int) (i : Int) m) = some ((l.drop i).all (mpEdgeOk m) && rising l)
  | 0, i, h, hb => by
    have hs := mpSize hd
    rw [List.take_of_length_le (by omega)] at hb
    rw [loop_eq, List.drop_of_length_le (by omega)]
    simp only [Bs_mEdges]
    rw [if_neg (by omega), mSize_s hd (by decide), Option.bind_some, w64 (n := 3 * (m.Width * m.Height)) (by omega), w64 (by omega), rising_s hl (fun x hx => by
      have := mpEdge_iff.1 (hb x hx)
      omega)]
    rfl
  | n + 1, i, h, hb => by
    have hs := mpSize hd
    have hd1 : MpDim m 100 := by unfold MpDim at hd ⊢; omega
    have hx : l[i]? = some l[i] := List.getElem?_eq_getElem (by omega)
    rw [loop_eq, List.drop_eq_getElem_cons (by omega), List.all_cons]
    simp only [Bs_mEdges]
    rw [if_pos (by omega), if_pos (by omega), Int.toNat_natCast, hx, Option.bind_some, mSize_s hd (by decide), Option.bind_some, w64 (n := 3 * (m.Width * m.Height)) (by omega), w64 (n := 3 * (m.Width * m.Height) - 1) (by omega), in_b, Option.bind_some, wsucc (by omega)]
    by_cases c : 0 ≤ l[i] ∧ l[i] ≤ 3 * (m.Width * m.Height) - 1
    · rw [if_pos (by simp [c.1, c.2])]
      have h3 : 0 ≤ l[i] / 3 ∧ l[i] / 3 ≤ 10000 := by omega
      rw [Int.tdiv_eq_ediv_of_nonneg c.1, Int.tmod_eq_emod_of_nonneg c.1, w64 (by omega), (next_b hd1 h3 (by omega)).2, Option.bind_some]
      by_cases c3 : 0 ≤ mpNext m (l[i] / 3) (l[i] % 3)
      · have hok : mpEdgeOk m l[i] = true := mpEdge_iff.2 ⟨c.1, c.2, c3⟩
        rw [if_neg (by omega), hok, Bool.true_and]
        refine edgesGo_s hd hl n (i + 1) (by omega) fun x hx' => ?_
        rw [List.take_add_one, hx] at hx'
        rcases List.mem_append.1 hx' with hx' | hx'
        · exact hb x hx'
        · simp at hx'; subst hx'; exact hok
      · have hok : mpEdgeOk m l[i] = false := by
          cases hh : mpEdgeOk m l[i] with
          | false => rfl
          | true => exact absurd (mpEdge_iff.1 hh).2.2 c3
        rw [if_pos (by omega), hok, Bool.false_and, Bool.false_and]
        rfl
    · have hok : mpEdgeOk m l[i] = false := by
        cases hh : mpEdgeOk m l[i] with
        | false => rfl
        | true => exact absurd ⟨(mpEdge_iff.1 hh).1, (mpEdge_iff.1 hh).2.1⟩ c
      rw [if_neg (by simp only [Bool.and_eq_true, decide_eq_true_eq]; exact c), hok, Bool.false_and, Bool.false_and]
      rfl
theorem edges_s {m : Gi_Map} (hd : MpDim m 10) {l : List Int} (hl : l.length ≤ 2000000) : Ds_mEdges m l = some (mpList m l) := by
  have := edgesGo_s hd hl l.length 0 (by omega) (fun x hx => by simp at hx)
  rw [List.drop_zero] at this
  exact this
def terrOk (x : Int) : Bool := decide (0 ≤ x) && decide (x ≤ 5)
theorem terr_s {l : List Int} (hl : l.length ≤ 2000000) : ∀ (n i : Nat), i + n = l.length → loop Bs_l1All (.h1 0 5 l (l.length : Int) (i : Int)) = some ((l.drop i).all terrOk)
  | 0, i, h => by
    rw [loop_eq, List.drop_of_length_le (by omega)]
    simp only [Bs_l1All]
    rw [if_neg (by omega)]
    rfl
  | n + 1, i, h => by
    have hx : l[i]? = some l[i] := List.getElem?_eq_getElem (by omega)
    have ih := terr_s hl n (i + 1) (by omega)
    rw [loop_eq, List.drop_eq_getElem_cons (by omega), List.all_cons]
    simp only [Bs_l1All]
    rw [if_pos (by omega), if_pos (by omega), Int.toNat_natCast, hx, Option.bind_some, in_b, Option.bind_some, wsucc (by omega)]
    by_cases c : terrOk l[i] = true
    · have c' := c
      unfold terrOk at c'
      rw [if_pos c', c, Bool.true_and]
      exact ih
    · have c' := c
      unfold terrOk at c'
      rw [if_neg c']
      simp only [Bool.not_eq_true] at c
      rw [c, Bool.false_and]
      rfl
theorem edgeLoop_i {m : Gi_Map} (hd : MpDim m 10) {l : List Int} (hl : l.length ≤ 2000000) {t0 t1 : Int} {L : List (List Int)} : ∀ (n i : Nat), i + n = l.length →
    loop Bi_IsMap (.h3 t0 t1 l (l.length : Int) (i : Int) m L) = if (l.drop i).all (mpEdgeOk m) = true then loop Bi_IsMap (.h2 t0 (IntKind.wrap .i64 (t1 + 1)) m L) else some false
  | 0, i, h => by
    rw [loop_eq, List.drop_of_length_le (by omega)]
    simp only [Bi_IsMap]
    rw [if_neg (by omega), if_pos (by rfl)]
    rfl
  | n + 1, i, h => by
    have hx : l[i]? = some l[i] := List.getElem?_eq_getElem (by omega)
    have ih := edgeLoop_i hd hl (t0 := t0) (t1 := t1) (L := L) n (i + 1) (by omega)
    rw [loop_eq, List.drop_eq_getElem_cons (by omega), List.all_cons]
    simp only [Bi_IsMap]
    rw [if_pos (by omega), if_pos (by omega), Int.toNat_natCast, hx, Option.bind_some, isEdge_i hd, Option.bind_some, wsucc (by omega)]
    by_cases c : mpEdgeOk m l[i] = true
    · rw [if_pos c, c, Bool.true_and]
      exact ih
    · rw [if_neg c]
      simp only [Bool.not_eq_true] at c
      rw [c, Bool.false_and, if_neg (by decide)]
      rfl
theorem lists_i {m : Gi_Map} (hd : MpDim m 10) (hr : m.Rivers.length ≤ 2000000) (ho : m.Roads.length ≤ 2000000) : loop Bi_IsMap (.h2 2 0 m [m.Rivers, m.Roads]) = some (mpList m m.Rivers && mpList m m.Roads) := by
  have i1 := edgeLoop_i hd hr (t0 := 2) (t1 := 0) (L := [m.Rivers, m.Roads]) m.Rivers.length 0 (by omega)
  have i2 := edgeLoop_i hd ho (t0 := 2) (t1 := 1) (L := [m.Rivers, m.Roads]) m.Roads.length 0 (by omega)
  rw [List.drop_zero, show IntKind.wrap .i64 (0 + 1) = 1 from by decide] at i1
  rw [List.drop_zero, show IntKind.wrap .i64 (1 + 1) = 2 from by decide] at i2
  have e3 : loop Bi_IsMap (.h2 2 2 m [m.Rivers, m.Roads]) = some true := by rw [loop_eq]; rfl
  have e2 : loop Bi_IsMap (.h2 2 1 m [m.Rivers, m.Roads]) = some (mpList m m.Roads) := by
    rw [loop_eq]
    simp only [Bi_IsMap]
    rw [if_pos (by decide), if_pos (by decide), show [m.Rivers, m.Roads][Int.toNat 1]? = some m.Roads from rfl, Option.bind_some, increasing_i ho, Option.bind_some]
    unfold mpList
    by_cases c : rising m.Roads = true
    · rw [if_pos c, c, Bool.and_true]
      refine (show _ = _ from i2).trans ?_
      rw [e3]
      by_cases c2 : m.Roads.all (mpEdgeOk m) = true
      · rw [if_pos c2, c2]
      · rw [if_neg c2]
        simp only [Bool.not_eq_true] at c2
        rw [c2]
    · rw [if_neg c]
      simp only [Bool.not_eq_true] at c
      rw [c, Bool.and_false]
      rfl
  rw [loop_eq]
  simp only [Bi_IsMap]
  rw [if_pos (by decide), if_pos (by decide), show [m.Rivers, m.Roads][Int.toNat 0]? = some m.Rivers from rfl, Option.bind_some, increasing_i hr, Option.bind_some]
  by_cases c : rising m.Rivers = true
  · rw [if_pos c]
    refine (show _ = _ from i1).trans ?_
    rw [e2]
    unfold mpList
    rw [c, Bool.and_true]
    by_cases c2 : m.Rivers.all (mpEdgeOk m) = true
    · rw [if_pos c2, c2, Bool.true_and]
    · rw [if_neg c2]
      simp only [Bool.not_eq_true] at c2
      rw [c2, Bool.false_and]
  · rw [if_neg c]
    simp only [Bool.not_eq_true] at c
    unfold mpList
    rw [c, Bool.and_false, Bool.false_and]
    rfl
theorem terr_i {m : Gi_Map} {l : List Int} (hl : l.length ≤ 2000000) : ∀ (n i : Nat), i + n = l.length → loop Bi_IsMap (.h1 l (l.length : Int) (i : Int) m) = if (l.drop i).all terrOk = true then loop Bi_IsMap (.h2 2 0 m [m.Rivers, m.Roads]) else some false
  | 0, i, h => by
    rw [loop_eq, List.drop_of_length_le (by omega)]
    simp only [Bi_IsMap]
    rw [if_neg (by omega), if_pos (by rfl)]
    rfl
  | n + 1, i, h => by
    have hx : l[i]? = some l[i] := List.getElem?_eq_getElem (by omega)
    have ih := terr_i hl (m := m) n (i + 1) (by omega)
    have e : Di_isIndex l[i] 6 = some (terrOk l[i]) := by
      unfold Di_isIndex Di_inRange terrOk
      rw [show IntKind.wrap .i64 (6 - 1) = 5 from by decide]
      by_cases c : 0 ≤ l[i] <;> simp [c]
    rw [loop_eq, List.drop_eq_getElem_cons (by omega), List.all_cons]
    simp only [Bi_IsMap]
    rw [if_pos (by omega), if_pos (by omega), Int.toNat_natCast, hx, Option.bind_some, e, Option.bind_some, wsucc (by omega)]
    by_cases c : terrOk l[i] = true
    · rw [if_pos c, c, Bool.true_and]
      exact ih
    · rw [if_neg c]
      simp only [Bool.not_eq_true] at c
      rw [c, Bool.false_and, if_neg (by decide)]
      rfl
def MpLen (m : Gi_Map) : Prop := m.Terrain.length ≤ 2000000 ∧ m.Rivers.length ≤ 2000000 ∧ m.Roads.length ≤ 2000000
def mpGood (m : Gi_Map) : Bool := decide (1 ≤ m.Width) && decide (m.Width ≤ 10) && decide (1 ≤ m.Height) && decide (m.Height ≤ 10) && decide ((m.Terrain.length : Int) = m.Width * m.Height) && m.Terrain.all terrOk && mpList m m.Rivers && mpList m m.Roads
theorem mpGood_dim {m : Gi_Map} (h : mpGood m = true) : MpDim m 10 ∧ (m.Terrain.length : Int) = m.Width * m.Height ∧ mpList m m.Rivers = true ∧ mpList m m.Roads = true := by
  simp only [mpGood, Bool.and_eq_true, decide_eq_true_eq] at h
  exact ⟨⟨h.1.1.1.1.1.1.1, h.1.1.1.1.1.1.2, h.1.1.1.1.1.2, h.1.1.1.1.2⟩, h.1.1.1.2, h.1.2, h.2⟩
theorem isMap_i {m : Gi_Map} (hl : MpLen m) : Di_IsMap m = some (mpGood m) := by
  unfold Di_IsMap Di_inRange mpGood
  by_cases c1 : 1 ≤ m.Width
  · by_cases c2 : m.Width ≤ 10
    · by_cases c3 : 1 ≤ m.Height
      · by_cases c4 : m.Height ≤ 10
        · have hd : MpDim m 10 := ⟨c1, c2, c3, c4⟩
          have hs := mpSize hd
          have t := terr_i hl.1 (m := m) m.Terrain.length 0 (by omega)
          rw [List.drop_zero, lists_i hd hl.2.1 hl.2.2] at t
          simp only [c1, c2, c3, c4, if_true, Option.bind_some, decide_true, Bool.true_and]
          rw [w64 (by omega)]
          by_cases c5 : (m.Terrain.length : Int) = m.Width * m.Height
          · rw [if_pos c5]
            refine (show _ = _ from t).trans ?_
            simp only [c5, decide_true, Bool.true_and]
            by_cases c6 : m.Terrain.all terrOk = true
            · rw [if_pos c6, c6, Bool.true_and]
            · rw [if_neg c6]
              simp only [Bool.not_eq_true] at c6
              rw [c6]
              rfl
          · rw [if_neg c5]
            simp [c5]
        · simp [c1, c2, c3, c4]
      · simp [c1, c2, c3]
    · simp [c1, c2]
  · simp [c1]
theorem good_m {m : Gi_Map} (hl : MpLen m) : Ds_mGood m = some (mpGood m) := by
  unfold Ds_mGood mpGood
  rw [in_b, in_b]
  by_cases c1 : 1 ≤ m.Width
  · by_cases c2 : m.Width ≤ 10
    · by_cases c3 : 1 ≤ m.Height
      · by_cases c4 : m.Height ≤ 10
        · have hd : MpDim m 10 := ⟨c1, c2, c3, c4⟩
          have t := terr_s hl.1 m.Terrain.length 0 (by omega)
          rw [List.drop_zero] at t
          have t' : Ds_l1All m.Terrain 0 5 = some (m.Terrain.all terrOk) := t
          simp only [c1, c2, c3, c4, if_true, Option.bind_some, decide_true, Bool.true_and, mSize_s hd (by decide), edges_s hd hl.2.1, edges_s hd hl.2.2, t']
          by_cases c5 : (m.Terrain.length : Int) = m.Width * m.Height
          · simp only [c5, decide_true, Bool.true_and, if_true]
            by_cases c6 : m.Terrain.all terrOk = true
            · rw [if_pos c6, c6, Bool.true_and]
              by_cases c7 : mpList m m.Rivers = true
              · rw [if_pos c7, c7, Bool.true_and]
              · rw [if_neg c7]
                simp only [Bool.not_eq_true] at c7
                rw [c7, Bool.false_and]
            · rw [if_neg c6]
              simp only [Bool.not_eq_true] at c6
              rw [c6]
              rfl
          · simp [c5]
        · simp [c1, c2, c3, c4]
      · simp [c1, c2, c3]
    · simp [c1, c2]
  · simp [c1]


def mpOn (m : Gi_Map) (i : Int) : Bool := mpGood m && (decide (0 ≤ i) && decide (i ≤ m.Width * m.Height - 1))
theorem mpOn_iff {m : Gi_Map} {i : Int} : mpOn m i = true ↔ mpGood m = true ∧ 0 ≤ i ∧ i < m.Width * m.Height := by
  simp only [mpOn, Bool.and_eq_true, decide_eq_true_eq]
  exact ⟨fun h => ⟨h.1, h.2.1, by omega⟩, fun h => ⟨h.1, h.2.1, by omega⟩⟩
theorem mpNext_lt {m : Gi_Map} {i d : Int} (h : 0 ≤ mpNext m i d) : mpNext m i d < m.Width * m.Height ∧ mpHex m (mpNext m i d) = hexGo (mpHex m i) d 1 := by
  obtain ⟨h1, h2⟩ := mpIdx_hex (m := m) (h := hexGo (mpHex m i) d 1) h
  exact ⟨h2, h1⟩
def hasB (l : List Int) (e : Int) : Bool := l.any fun x => decide (x = e)
theorem has_i {l : List Int} {e : Int} (hl : l.length ≤ 2000000) : ∀ (n i : Nat), i + n = l.length → ∃ r, loop Bslices_Index_int (.h1 l e (l.length : Int) (i : Int)) = some r ∧ decide (r ≥ 0) = hasB (l.drop i) e
  | 0, i, h => by
    rw [loop_eq, List.drop_of_length_le (by omega)]
    simp only [Bslices_Index_int]
    rw [if_neg (by omega)]
    exact ⟨-1, rfl, rfl⟩
  | n + 1, i, h => by
    have hx : l[i]? = some l[i] := List.getElem?_eq_getElem (by omega)
    obtain ⟨r, e1, e2⟩ := has_i hl (e := e) n (i + 1) (by omega)
    rw [loop_eq, List.drop_eq_getElem_cons (by omega)]
    simp only [Bslices_Index_int, hasB, List.any_cons]
    rw [if_pos (by omega), if_pos (by omega), Int.toNat_natCast, hx, Option.bind_some, wsucc (by omega)]
    by_cases c : e = l[i]
    · rw [if_pos c, decide_eq_true c.symm, Bool.true_or]
      exact ⟨_, rfl, by simp⟩
    · rw [if_neg c, decide_eq_false (fun h => c h.symm), Bool.false_or]
      exact ⟨r, e1, e2⟩
theorem contains_i {l : List Int} {e : Int} (hl : l.length ≤ 2000000) : Dslices_Contains_int l e = some (hasB l e) := by
  obtain ⟨r, e1, e2⟩ := has_i hl (e := e) l.length 0 (by omega)
  unfold Dslices_Contains_int
  rw [show Dslices_Index_int l e = some r from e1, Option.bind_some, e2, List.drop_zero]
theorem has_s' {l : List Int} {e : Int} (hl : l.length ≤ 2000000) : ∀ (n i : Nat), i + n = l.length → loop Bs_l1Has (.h1 e l (l.length : Int) (i : Int)) = some (hasB (l.drop i) e)
  | 0, i, h => by
    rw [loop_eq, List.drop_of_length_le (by omega)]
    simp only [Bs_l1Has]
    rw [if_neg (by omega)]
    rfl
  | n + 1, i, h => by
    have hx : l[i]? = some l[i] := List.getElem?_eq_getElem (by omega)
    have ih := has_s' hl (e := e) n (i + 1) (by omega)
    rw [loop_eq, List.drop_eq_getElem_cons (by omega)]
    simp only [Bs_l1Has, hasB, List.any_cons]
    rw [if_pos (by omega), if_pos (by omega), Int.toNat_natCast, hx, Option.bind_some, wsucc (by omega)]
    by_cases c : l[i] = e
    · rw [if_pos c, decide_eq_true c, Bool.true_or]
      rfl
    · rw [if_neg c, decide_eq_false c, Bool.false_or]
      exact ih
theorem has_s {l : List Int} {e : Int} (hl : l.length ≤ 2000000) : Ds_l1Has l e = some (hasB l e) := by
  have := has_s' hl (e := e) l.length 0 (by omega)
  rw [List.drop_zero] at this
  exact this
theorem put_ex {l : List Int} {x : Int} (hl : l.length ≤ 1000) : ∀ (n i : Nat), i + n = l.length → ∃ l', loop Bs_l1Put_c0 (.h1 x (i : Int) l) = some l' ∧ l'.length ≤ l.length + 1
  | 0, i, h => by
    have hlen : (((List.take (i - 0) (List.drop 0 l)) ++ [x]) ++ (List.take (l.length - i) (List.drop i l))).length ≤ l.length + 1 := by
      simp only [List.length_append, List.length_take, List.length_drop, List.length_singleton]; omega
    have hlen1 : (List.take (i - 0) (List.drop 0 l)).length ≤ l.length := by simp only [List.length_take, List.length_drop]; omega
    have hlen2 : ((List.take (i - 0) (List.drop 0 l)) ++ [x]).length ≤ l.length + 1 := by rw [List.length_append, List.length_singleton]; omega
    rw [loop_eq]
    simp only [Bs_l1Put_c0, Int.toNat_natCast]
    rw [if_neg (by omega), if_neg (by omega), if_pos (by omega), if_pos (by omega), if_pos (by omega), if_pos (by omega), if_pos (by omega), if_pos (by omega), if_pos (by omega)]
    exact ⟨_, rfl, hlen⟩
  | n + 1, i, h => by
    have hlen : (((List.take (i - 0) (List.drop 0 l)) ++ [x]) ++ (List.take (l.length - i) (List.drop i l))).length ≤ l.length + 1 := by
      simp only [List.length_append, List.length_take, List.length_drop, List.length_singleton]; omega
    have hlen1 : (List.take (i - 0) (List.drop 0 l)).length ≤ l.length := by simp only [List.length_take, List.length_drop]; omega
    have hlen2 : ((List.take (i - 0) (List.drop 0 l)) ++ [x]).length ≤ l.length + 1 := by rw [List.length_append, List.length_singleton]; omega
    have hx : l[i]? = some l[i] := List.getElem?_eq_getElem (by omega)
    rw [loop_eq]
    simp only [Bs_l1Put_c0, Int.toNat_natCast, hx, Option.bind_some]
    rw [if_pos (by omega), if_pos (by omega)]
    by_cases c : l[i] < x
    · rw [if_pos c, wsucc (by omega)]
      exact put_ex hl n (i + 1) (by omega)
    · rw [if_neg c, if_pos (by omega), if_pos (by omega)]
      by_cases d : l[i] = x
      · rw [if_pos d]
        exact ⟨_, rfl, by omega⟩
      · rw [if_neg d, if_pos (by omega), if_pos (by omega), if_pos (by omega), if_pos (by omega), if_pos (by omega), if_pos (by omega), if_pos (by omega)]
        exact ⟨_, rfl, hlen⟩
theorem put_l {l : List Int} {x : Int} (hl : l.length ≤ 1000) : ∃ l', Ds_l1Put_c0 l x = some l' ∧ l'.length ≤ l.length + 1 := put_ex hl l.length 0 (by omega)
theorem edge_ex {m : Gi_Map} {i d : Int} (hd : MpDim m 100) (hi : 0 ≤ i ∧ i ≤ 10000) (h6 : 0 ≤ d ∧ d < 6) : ∃ e, Ds_mEdge m i d = some e := by
  unfold Ds_mEdge
  rw [(next_b hd hi h6).2]
  split <;> exact ⟨_, rfl⟩
theorem cuEdgesLoop {m : Gi_Map} (hd : MpDim m 10) : ∀ (n : Nat) {c : Gs_l1Cur} {k : Int} {l : List Int}, Cu c k → k + 4 * n ≤ 1099511627776 → l.length + n ≤ 100 →
    ∃ l' c', loop Bs_l1Cur_edges (.h1 (n : Int) c m l) = some (l', c') ∧ Cu c' (k + 4 * n) ∧ l'.length ≤ 100
  | 0, c, k, l, h, hk, hl => by
    rw [loop_eq]
    simp only [Bs_l1Cur_edges]
    rw [if_neg (by omega)]
    exact ⟨l, c, rfl, h.mono (by omega) (by omega), by omega⟩
  | n + 1, c, k, l, h, hk, hl => by
    have hs := mpSize hd
    have hd1 : MpDim m 100 := by unfold MpDim at hd ⊢; omega
    obtain ⟨v1, c1, e1, b1, g1⟩ := cuPick h (by omega) (m.Width * m.Height)
    obtain ⟨v2, c2, e2, b2, g2⟩ := cuPick g1 (by omega) 6
    have hv1 := b1.2.1 (by omega)
    have hv2 := b2.2.1 (by omega)
    have h6 : 0 ≤ v2 ∧ v2 < 6 := ⟨b2.1, hv2⟩
    have hi : 0 ≤ v1 ∧ v1 ≤ 10000 := ⟨b1.1, by omega⟩
    obtain ⟨e, he⟩ := edge_ex hd1 hi h6
    rw [loop_eq]
    simp only [Bs_l1Cur_edges]
    rw [if_pos (by omega), mSize_s hd (by decide), Option.bind_some, e1, Option.bind_some, e2, Option.bind_some, (next_b hd1 hi h6).2, Option.bind_some, w64 (n := ((n + 1 : Nat) : Int) - 1) (by omega), show (((n + 1 : Nat) : Int) - 1) = (n : Int) by omega]
    by_cases z : mpNext m v1 v2 ≥ 0
    · obtain ⟨l1, p1, p2⟩ := put_l (l := l) (x := e) (by omega)
      rw [if_pos z, he, Option.bind_some, p1, Option.bind_some]
      obtain ⟨l', c', q1, q2, q3⟩ := cuEdgesLoop hd n g2 (by omega) (l := l1) (by omega)
      exact ⟨l', c', q1, q2.mono (by omega) (by omega), q3⟩
    · rw [if_neg z]
      obtain ⟨l', c', q1, q2, q3⟩ := cuEdgesLoop hd n g2 (by omega) (l := l) (by omega)
      exact ⟨l', c', q1, q2.mono (by omega) (by omega), q3⟩
theorem cuEdges {m : Gi_Map} (hd : MpDim m 10) {c : Gs_l1Cur} {k : Int} (h : Cu c k) (hk : k + 40 ≤ 1099511627776) : ∃ l c', Ds_l1Cur_edges c m = some (l, c') ∧ Cu c' (k + 40) ∧ l.length ≤ 100 := by
  obtain ⟨v1, c1, e1, b1, g1⟩ := cuPick h (by omega) 8
  have hv1 := b1.2.1 (by omega)
  unfold Ds_l1Cur_edges
  rw [e1, Option.bind_some]
  obtain ⟨l', c', q1, q2, q3⟩ := cuEdgesLoop hd v1.toNat g1 (by omega) (l := []) (by simp; omega)
  rw [Int.toNat_of_nonneg b1.1] at q1
  exact ⟨l', c', q1, q2.mono (by omega) (by omega), q3⟩
structure MpDrawn (m : Gi_Map) : Prop where
  dim : MpDim m 10
  t1 : 1 ≤ m.Terrain.length
  t2 : m.Terrain.length ≤ 200
  r : m.Rivers.length ≤ 100
  o : m.Roads.length ≤ 100
theorem cuMapLoop {b3 b4 W H : Int} (hd : MpDim ⟨W, H, [], [], []⟩ 10) : ∀ (n i : Nat) {c : Gs_l1Cur} {k : Int} {l : List Int}, (i : Int) + n = W * H → Cu c k → k + 4 * n + 100 ≤ 1099511627776 → l.length = i → 1 ≤ i →
    ∃ m' c', loop Bs_l1Cur_mapOf (.h2 6 (i : Int) c b3 b4 W H l) = some (m', c') ∧ Cu c' (k + 4 * n + 100) ∧ MpDrawn m'
  | 0, i, c, k, l, hn, h, hk, hl, h1 => by
    have hs := mpSize hd
    simp only at hs
    have hd1 : MpDim ⟨W, H, l, [], []⟩ 10 := hd
    obtain ⟨l1, c1, e1, g1, x1⟩ := cuEdges hd1 h (by omega)
    have hd2 : MpDim ⟨W, H, l, l1, []⟩ 10 := hd
    obtain ⟨l2, c2, e2, g2, x2⟩ := cuEdges hd2 g1 (by omega)
    rw [loop_eq]
    simp only [Bs_l1Cur_mapOf]
    rw [mSize_s hd1 (by decide), Option.bind_some, if_neg (by simp only; omega), e1, Option.bind_some, e2, Option.bind_some]
    exact ⟨_, _, rfl, g2.mono (by omega) (by omega), hd, by simp only; omega, by simp only; omega, x1, x2⟩
  | n + 1, i, c, k, l, hn, h, hk, hl, h1 => by
    have hs := mpSize hd
    simp only at hs
    have hd1 : MpDim ⟨W, H, l, [], []⟩ 10 := hd
    obtain ⟨v1, c1, e1, g1⟩ := cuOne h (by omega) 3
    obtain ⟨v2, c2, e2, b2, g2⟩ := cuPick g1 (by omega) 6
    rw [loop_eq]
    simp only [Bs_l1Cur_mapOf]
    rw [mSize_s hd1 (by decide), Option.bind_some, if_pos (by simp only; omega), e1, Option.bind_some, wsucc (by omega)]
    by_cases z : v1 = true
    · rw [if_pos z, e2, Option.bind_some, if_pos (by simp only [List.length_append, List.length_singleton]; omega)]
      obtain ⟨m', c', q1, q2, q3⟩ := cuMapLoop hd (b3 := b3) (b4 := b4) n (i + 1) (c := c2) (l := l ++ [v2]) (by omega) g2 (by omega) (by simp [hl]) (by omega)
      exact ⟨m', c', q1, q2.mono (by omega) (by omega), q3⟩
    · rw [if_neg z, if_pos (by simp only [List.length_append, List.length_singleton]; omega)]
      obtain ⟨m', c', q1, q2, q3⟩ := cuMapLoop hd (b3 := b3) (b4 := b4) n (i + 1) (c := c1) (l := l ++ [0]) (by omega) g1 (by omega) (by simp [hl]) (by omega)
      exact ⟨m', c', q1, q2.mono (by omega) (by omega), q3⟩
theorem cuMapOf {c : Gs_l1Cur} {k : Int} (h : Cu c k) (hk : k + 1000 ≤ 1099511627776) : ∃ m c', Ds_l1Cur_mapOf c 6 = some (m, c') ∧ Cu c' (k + 1000) ∧ MpDrawn m := by
  obtain ⟨v1, c1, e1, b1, g1⟩ := cuPick h (by omega) 6
  obtain ⟨v2, c2, e2, b2, g2⟩ := cuPick g1 (by omega) 6
  have hv1 := b1.2.1 (by omega)
  have hv2 := b2.2.1 (by omega)
  have hd : MpDim ⟨1 + v1, 1 + v2, [], [], []⟩ 10 := by unfold MpDim; simp only; omega
  have hs := mpSize hd
  simp only at hs
  have hm := mulb (a := 1 + v1) (b := 1 + v2) (A := 6) (B := 6) (by omega) (by omega)
  obtain ⟨v3, c3, e3, g3⟩ := cuOne g2 (by omega) 3
  obtain ⟨v4, c4, e4, b4, g4⟩ := cuPick g3 (by omega) 6
  unfold Ds_l1Cur_mapOf
  rw [e1, Option.bind_some, e2, Option.bind_some, w64 (n := 1 + v1) (by omega), w64 (n := 1 + v2) (by omega), loop_eq]
  simp only [Bs_l1Cur_mapOf]
  rw [mSize_s hd (by decide), Option.bind_some, if_pos (by simp only; omega), e3, Option.bind_some]
  have key : ∀ {cc : Gs_l1Cur} {t : Int}, Cu cc (k + 8) → ∃ m c', loop Bs_l1Cur_mapOf (.h2 6 1 cc 0 0 (1 + v1) (1 + v2) [t]) = some (m, c') ∧ Cu c' (k + 1000) ∧ MpDrawn m := fun {cc t} hc => by
    obtain ⟨m', c', q1, q2, q3⟩ := cuMapLoop hd (b3 := 0) (b4 := 0) ((1 + v1) * (1 + v2) - 1).toNat 1 (c := cc) (l := [t]) (by omega) hc (by omega) rfl (by decide)
    exact ⟨m', c', q1, q2.mono (by omega) (by omega), q3⟩
  by_cases z : v3 = true
  · rw [if_pos z, e4, Option.bind_some, if_pos (by simp)]
    exact key (g4.mono (by omega) (by omega))
  · rw [if_neg z, if_pos (by simp)]
    exact key (g3.mono (by omega) (by omega))
theorem mSize_ex (m : Gi_Map) : ∃ v, Ds_mSize m = some v := ⟨_, rfl⟩
theorem cuAnyMap {c : Gs_l1Cur} {k : Int} (h : Cu c k) (hk : k + 1100 ≤ 1099511627776) : ∃ m c', Ds_l1Cur_anyMap c = some (m, c') ∧ Cu c' (k + 1100) ∧ MpLen m := by
  obtain ⟨m, c1, e1, g1, d⟩ := cuMapOf h (by omega)
  obtain ⟨v, c2, e2, _, g2⟩ := cuPick g1 (by omega) 30
  obtain ⟨s, es⟩ := mSize_ex m
  have hr := d.r
  have ho := d.o
  have ht := d.t2
  have ht1 := d.t1
  have h0 : m.Terrain[Int.toNat 0]? = some m.Terrain[0] := List.getElem?_eq_getElem (by omega)
  have hM : MpLen m := ⟨by omega, by omega, by omega⟩
  unfold Ds_l1Cur_anyMap
  rw [e1, Option.bind_some, e2, Option.bind_some]
  by_cases z0 : v = 0
  · obtain ⟨v4, c4, e4, _, g4⟩ := cuAmong g2 (by omega) [0, 10, 11, (IntKind.wrap .i64 (m.Width + 1))] (by simp)
    rw [if_pos z0]
    simp only [e4, Option.bind_some]
    exact ⟨_, _, rfl, g4.mono (by omega) (by omega), hM⟩
  · rw [if_neg z0]
    by_cases z1 : v = 1
    · obtain ⟨v4, c4, e4, _, g4⟩ := cuAmong g2 (by omega) [(-1), 6] (by simp)
      rw [if_pos z1]
      simp only [e4, h0, Option.bind_some]
      exact ⟨_, _, rfl, g4.mono (by omega) (by omega), by simp only [List.length_set]; omega, by simp only; omega, by simp only; omega⟩
    · rw [if_neg z1]
      by_cases z2 : v = 2
      · obtain ⟨v4, c4, e4, _, g4⟩ := cuAmong g2 (by omega) [0, (IntKind.wrap .i64 (3 * s)), (IntKind.wrap .i64 ((IntKind.wrap .i64 (3 * s)) - 1)), (-1)] (by simp)
        rw [if_pos z2, es]
        simp only [e4, Option.bind_some]
        rw [if_pos (by simp only [List.length_append, List.length_singleton]; omega)]
        exact ⟨_, _, rfl, g4.mono (by omega) (by omega), by simp only; omega, by simp only [List.length_append, List.length_singleton]; omega, by simp only; omega⟩
      · rw [if_neg z2]
        by_cases z3 : v = 3
        · rw [if_pos z3, if_pos (by simp only [List.length_append, List.length_singleton]; omega)]
          exact ⟨_, _, rfl, g2.mono (by omega) (by omega), by simp only; omega, by simp only; omega, by simp only [List.length_append, List.length_singleton]; omega⟩
        · rw [if_neg z3]
          exact ⟨_, _, rfl, g2.mono (by omega) (by omega), hM⟩
theorem cuPlace {c : Gs_l1Cur} {k : Int} (h : Cu c k) (hk : k + 4 ≤ 1099511627776) (m : Gi_Map) : ∃ v c', Ds_l1Cur_place c m = some (v, c') ∧ Cu c' (k + 4) := by
  obtain ⟨v1, c1, e1, g1⟩ := cuOne h (by omega) 20
  obtain ⟨s, es⟩ := mSize_ex m
  obtain ⟨v2, c2, e2, _, g2⟩ := cuAmong g1 (by omega) [(-1), s] (by simp)
  unfold Ds_l1Cur_place
  rw [e1, Option.bind_some, es]
  by_cases z : v1 = true
  · rw [if_pos z, Option.bind_some, e2, Option.bind_some]
    exact ⟨_, _, rfl, g2.mono (by omega) (by omega)⟩
  · rw [if_neg z, Option.bind_some]
    obtain ⟨t, et⟩ : ∃ t, Ds_l1Most s 1 = some t := by unfold Ds_l1Most; split <;> exact ⟨_, rfl⟩
    obtain ⟨v3, c3, e3, _, g3⟩ := cuPick g1 (by omega) t
    rw [et, Option.bind_some, e3, Option.bind_some]
    exact ⟨_, _, rfl, g3.mono (by omega) (by omega)⟩
def kIn (x lo hi : Int) : Bool := decide (lo ≤ x) && decide (x ≤ hi)
theorem kIn_iff {x lo hi : Int} : kIn x lo hi = true ↔ lo ≤ x ∧ x ≤ hi := by simp [kIn]
theorem kin_i (x lo hi : Int) : Di_inRange x lo hi = some (kIn x lo hi) := by
  unfold Di_inRange kIn
  by_cases c : lo ≤ x <;> simp [c]
theorem kin_s (x lo hi : Int) : Ds_l1In x lo hi = some (kIn x lo hi) := by
  unfold Ds_l1In kIn
  by_cases c : lo ≤ x
  · rw [if_pos c]; simp [c]
  · rw [if_neg c]; simp [c]
theorem ifB (b : Bool) : (if b = true then some true else some false) = some b := by cases b <;> rfl
theorem ifNB (b : Bool) : (if b = true then some false else some true) = some (!b) := by cases b <;> rfl

/-- A walk over a list that ends at the first element that q does not hold of. -/
theorem all_goL {σ α ρ : Type} {L : σ → Option ρ} {S : Nat → σ} {l : List α} {q : Nat → α → Bool} {f : ρ} {r : Option ρ}
    (hs : ∀ i x, l[i]? = some x → i < l.length → (∀ j y, j < i → l[j]? = some y → q j y = true) → L (S i) = if q i x = true then L (S (i + 1)) else some f)
    (he : (∀ j y, l[j]? = some y → q j y = true) → L (S l.length) = r) : L (S 0) = if alli q l = true then r else some f := by
  have key : ∀ (k i : Nat), i + k = l.length → (∀ j x, j < i → l[j]? = some x → q j x = true) → L (S i) = if alli q l = true then r else some f := by
    intro k
    induction k with
    | zero =>
      intro i h hb
      have : i = l.length := by omega
      subst this
      have hall : ∀ j y, l[j]? = some y → q j y = true := fun j x hj => hb j x (List.getElem?_eq_some_iff.1 hj).1 hj
      rw [he hall, if_pos (alli_iff.2 hall)]
    | succ k ih =>
      intro i h hb
      have hlt : i < l.length := by omega
      have hx := List.getElem?_eq_getElem hlt
      rw [hs i l[i] hx hlt hb]
      by_cases hp : q i l[i] = true
      · rw [if_pos hp]
        refine ih (i + 1) (by omega) fun j x hj hx' => ?_
        by_cases hji : j = i
        · subst hji
          rw [hx] at hx'
          cases hx'
          exact hp
        · exact hb j x (by omega) hx'
      · rw [if_neg hp, if_neg fun h => hp (alli_iff.1 h i _ hx)]
  exact key l.length 0 (by omega) fun j x h => by omega

theorem l1All_s {l : List Int} (hl : l.length ≤ 2000000) (lo hi : Int) : Ds_l1All l lo hi = some (alli (fun _ x => kIn x lo hi) l) := by
  rw [← ifB]
  exact all_goL (L := loop Bs_l1All) (S := fun i => .h1 lo hi l (l.length : Int) (i : Int)) (fun i x hx hlt _ => by
    rw [loop_eq]
    simp only [Bs_l1All]
    rw [if_pos (by omega), if_pos (by omega), Int.toNat_natCast, hx, Option.bind_some, kin_s, Option.bind_some, wsucc (by omega)]
    by_cases c : kIn x lo hi = true
    · rw [if_pos c, if_pos c]; rfl
    · rw [if_neg c, if_neg c]; rfl) fun _ => by
    rw [loop_eq]
    simp only [Bs_l1All]
    rw [if_neg (by omega)]
    rfl
theorem three {x : List Int} (h : x.length = 3) : ∃ a b c, x = [a, b, c] := by
  match x, h with
  | [a, b, c], _ => exact ⟨a, b, c, rfl⟩
theorem p3 {i : Nat} (h : i ≤ 6) : 3 ^ i ≤ 729 := by
  have : i = 0 ∨ i = 1 ∨ i = 2 ∨ i = 3 ∨ i = 4 ∨ i = 5 ∨ i = 6 := by omega
  rcases this with rfl | rfl | rfl | rfl | rfl | rfl | rfl <;> decide
/-- It gives something, and Q holds of it. -/
def Ok {α : Type} (o : Option α) (Q : α → Prop) : Prop := ∃ a, o = some a ∧ Q a
theorem Ok.ret {α : Type} {a : α} {Q : α → Prop} (h : Q a) : Ok (some a) Q := ⟨a, rfl, h⟩
theorem Ok.mono {α : Type} {o : Option α} {P Q : α → Prop} (h : Ok o P) (k : ∀ a, P a → Q a) : Ok o Q := by
  obtain ⟨a, e, h⟩ := h
  exact ⟨a, e, k a h⟩
theorem Ok.bind {α β : Type} {o : Option α} {f : α → Option β} {P : α → Prop} {Q : β → Prop} (h : Ok o P) (k : ∀ a, P a → Ok (f a) Q) : Ok (Option.bind o f) Q := by
  obtain ⟨a, rfl, h⟩ := h
  exact k a h
theorem Ok.ite {α : Type} {c : Prop} [Decidable c] {a b : Option α} {Q : α → Prop} (h1 : c → Ok a Q) (h2 : ¬ c → Ok b Q) : Ok (if c then a else b) Q := by
  by_cases h : c
  · rw [if_pos h]; exact h1 h
  · rw [if_neg h]; exact h2 h
theorem Ok.chk {α : Type} {c : Prop} [Decidable c] {a b : Option α} {Q : α → Prop} (h : c) (h1 : Ok a Q) : Ok (if c then a else b) Q := by
  rw [if_pos h]; exact h1
theorem Ok.els {α : Type} {c : Prop} [Decidable c] {a b : Option α} {Q : α → Prop} (h : ¬ c) (h1 : Ok b Q) : Ok (if c then a else b) Q := by
  rw [if_neg h]; exact h1
theorem Ok.get {α β : Type} {l : List α} {i : Nat} {f : α → Option β} {Q : β → Prop} (h : i < l.length) (k : ∀ x, l[i]? = some x → x ∈ l → Ok (f x) Q) : Ok (Option.bind l[i]? f) Q := by
  have e := List.getElem?_eq_getElem h
  rw [e]
  exact k _ e (List.mem_of_getElem? e)
theorem Ok.eq {α β : Type} {o : Option α} {a : α} {f : α → Option β} {Q : β → Prop} (e : o = some a) (k : Ok (f a) Q) : Ok (Option.bind o f) Q := by
  rw [e]; exact k
/-- A loop with an invariant and a measure. -/
theorem Ok.loop {σ ρ : Type} {B : σ → Option (σ ⊕ ρ)} {Q : ρ → Prop} (I : σ → Prop) (m : σ → Nat) (hs : ∀ s, I s → Ok (B s) fun o => match o with | .inl s' => I s' ∧ m s' < m s | .inr r => Q r) : ∀ {s}, I s → Ok (loop B s) Q := by
  have key : ∀ n s, m s < n → I s → Ok (Ab.loop B s) Q := by
    intro n
    induction n with
    | zero => intro s h; omega
    | succ n ih =>
      intro s hn hI
      obtain ⟨o, e, h⟩ := hs s hI
      rw [loop_eq, e]
      cases o with
      | inl s' => exact ih s' (by omega) h.1
      | inr r => exact ⟨r, rfl, h⟩
  intro s h
  exact key _ s (Nat.lt_succ_self _) h

theorem ltc {i n : Nat} (h : i < n) : ((i : Int) < (n : Int)) = True := by simp [h]
theorem nltc (n : Nat) : ((n : Int) < (n : Int)) = False := by simp
theorem nnc (i : Nat) : ((0 : Int) ≤ (i : Int)) = True := by simp

def nmB (s : ByteArray) : Bool := alli (fun i _ => decide (97 ≤ byteAt s i) && decide (byteAt s i ≤ 122)) (List.range s.size) && kIn s.size 1 8
theorem nm_i {s : ByteArray} (hs : s.size ≤ 2000000) : Di_isName s = some (nmB s) := by
  unfold Di_isName nmB
  refine all_loop2 (B := Bi_isName) (S := fun i => .h1 s (i : Int)) (fun i x hx hi _ => ?_) ?_
  · rw [List.length_range] at hi
    simp only [Bi_isName, ltc hi, nnc, if_true, Int.toNat_natCast, wsucc (show i < 9223372036854775807 by omega)]
    by_cases c1 : byteAt s i < 97
    · rw [if_pos (by omega), if_neg (by simp only [Bool.and_eq_true, decide_eq_true_eq]; omega)]
    · rw [if_neg (by omega)]
      by_cases c2 : byteAt s i > 122
      · rw [if_pos (by omega), if_neg (by simp only [Bool.and_eq_true, decide_eq_true_eq]; omega)]
      · rw [if_neg (by omega), if_pos (by simp only [Bool.and_eq_true, decide_eq_true_eq]; omega)]
  · simp only [Bi_isName, List.length_range, nltc, if_false, kin_i, Option.bind_some]
theorem nm_s {s : ByteArray} (hs : s.size ≤ 2000000) : Ds_rName s = some (nmB s) := by
  unfold Ds_rName nmB
  refine all_loop2 (B := Bs_rName) (S := fun i => .h1 s (i : Int)) (fun i x hx hi _ => ?_) ?_
  · rw [List.length_range] at hi
    simp only [Bs_rName, ltc hi, nnc, if_true, Int.toNat_natCast, wsucc (show i < 9223372036854775807 by omega)]
    by_cases c1 : byteAt s i < 97
    · rw [if_pos (by omega), if_neg (by simp only [Bool.and_eq_true, decide_eq_true_eq]; omega)]
    · rw [if_neg (by omega)]
      by_cases c2 : byteAt s i > 122
      · rw [if_pos (by omega), if_neg (by simp only [Bool.and_eq_true, decide_eq_true_eq]; omega)]
      · rw [if_neg (by omega), if_pos (by simp only [Bool.and_eq_true, decide_eq_true_eq]; omega)]
  · simp only [Bs_rName, List.length_range, nltc, if_false, kin_s, Option.bind_some]
def trIx (nm : ByteArray) (l : List Gi_Terrain) : Int := ix (fun t => t.Name == nm) l
def kdIx (nm : ByteArray) (l : List Gi_Kind) : Int := ix (fun t => t.Name == nm) l
theorem trIx_i {l : List Gi_Terrain} (hl : l.length ≤ 2000000) (nm : ByteArray) : Di_terrainIndex l nm = some (trIx nm l) := by
  have h : loop Bslices_IndexFunc_i_Terrain_i_terrainIndex_1 (.h1 l nm (l.length : Int) 0) = some (trIx nm l) := find_loop (B := Bslices_IndexFunc_i_Terrain_i_terrainIndex_1) (S := fun i => .h1 l nm (l.length : Int) (i : Int)) (p := fun t => t.Name == nm) (l := l) (fun i x hx hi => by
    simp only [Bslices_IndexFunc_i_Terrain_i_terrainIndex_1, ltc hi, nnc, if_true, Int.toNat_natCast, hx, Option.bind_some, Di_terrainIndex_1, wsucc (show i < 9223372036854775807 by omega)]) (by
    simp only [Bslices_IndexFunc_i_Terrain_i_terrainIndex_1, nltc, if_false])
  unfold Di_terrainIndex Dslices_IndexFunc_i_Terrain_i_terrainIndex_1
  rw [h]; rfl
theorem kdIx_i {l : List Gi_Kind} (hl : l.length ≤ 2000000) (nm : ByteArray) : Di_kindIndex l nm = some (kdIx nm l) := by
  have h : loop Bslices_IndexFunc_i_Kind_i_kindIndex_1 (.h1 l nm (l.length : Int) 0) = some (kdIx nm l) := find_loop (B := Bslices_IndexFunc_i_Kind_i_kindIndex_1) (S := fun i => .h1 l nm (l.length : Int) (i : Int)) (p := fun t => t.Name == nm) (l := l) (fun i x hx hi => by
    simp only [Bslices_IndexFunc_i_Kind_i_kindIndex_1, ltc hi, nnc, if_true, Int.toNat_natCast, hx, Option.bind_some, Di_kindIndex_1, wsucc (show i < 9223372036854775807 by omega)]) (by
    simp only [Bslices_IndexFunc_i_Kind_i_kindIndex_1, nltc, if_false])
  unfold Di_kindIndex Dslices_IndexFunc_i_Kind_i_kindIndex_1
  rw [h]; rfl
theorem trIx_s {l : List Gi_Terrain} (hl : l.length ≤ 2000000) (nm : ByteArray) : Ds_rTerrain l nm = some (trIx nm l) :=
  find_loop (B := Bs_rTerrain) (S := fun i => .h1 nm l (l.length : Int) (i : Int)) (p := fun t => t.Name == nm) (l := l) (fun i x hx hi => by
    simp only [Bs_rTerrain, ltc hi, nnc, if_true, Int.toNat_natCast, hx, Option.bind_some, beq_iff_eq, wsucc (show i < 9223372036854775807 by omega)]) (by
    simp only [Bs_rTerrain, nltc, if_false])
theorem kdIx_s {l : List Gi_Kind} (hl : l.length ≤ 2000000) (nm : ByteArray) : Ds_rKind l nm = some (kdIx nm l) :=
  find_loop (B := Bs_rKind) (S := fun i => .h1 nm l (l.length : Int) (i : Int)) (p := fun t => t.Name == nm) (l := l) (fun i x hx hi => by
    simp only [Bs_rKind, ltc hi, nnc, if_true, Int.toNat_natCast, hx, Option.bind_some, beq_iff_eq, wsucc (show i < 9223372036854775807 by omega)]) (by
    simp only [Bs_rKind, nltc, if_false])
theorem contains_cost {l : List Int} (hl : l.length ≤ 2000000) : Dslices_ContainsFunc_int_i_goodTerrain_1 l = some (!(alli (fun _ x => kIn x 0 9) l)) := by
  rw [← ifNB]
  have := all_goL (L := fun s => (loop Bslices_IndexFunc_int_i_goodTerrain_1 s).map fun r => decide (r ≥ 0)) (S := fun i => .h1 l (l.length : Int) (i : Int)) (l := l) (q := fun _ x => kIn x 0 9) (f := true) (r := some false) (fun i x hx hi _ => by
    rw [loop_eq]
    simp only [Bslices_IndexFunc_int_i_goodTerrain_1, ltc hi, nnc, if_true, Int.toNat_natCast, hx, Option.bind_some, Di_goodTerrain_1, kin_i, wsucc (show i < 9223372036854775807 by omega)]
    cases kIn x 0 9 <;> simp [goOn]) fun _ => by
    rw [loop_eq]
    simp only [Bslices_IndexFunc_int_i_goodTerrain_1, nltc, if_false]
    rfl
  refine Eq.trans ?_ this
  unfold Dslices_ContainsFunc_int_i_goodTerrain_1 Dslices_IndexFunc_int_i_goodTerrain_1
  cases loop Bslices_IndexFunc_int_i_goodTerrain_1 (.h1 l (l.length : Int) 0) <;> rfl
structure TrLen (t : Gi_Terrain) : Prop where
  n : t.Name.size ≤ 2000000
  c : t.Cost.length ≤ 2000000
structure RlLen (r : Gi_Rules) : Prop where
  t : r.Terrains.length ≤ 2000000
  ts : ∀ x ∈ r.Terrains, TrLen x
  k : r.Kinds.length ≤ 2000000
  ks : ∀ x ∈ r.Kinds, x.Name.size ≤ 2000000
def trOk (K : Nat) (t : Gi_Terrain) : Bool := nmB t.Name && decide (t.Cost.length = K) && kIn t.Shift (-3) 3 && kIn t.Height 0 3 && alli (fun _ x => kIn x 0 9) t.Cost
def kdOk (k : Gi_Kind) : Bool := nmB k.Name && kIn k.Strength 1 9 && kIn k.Moves 0 9 && kIn k.Steps 1 4 && kIn k.View 0 4
def rlEnd (r : Gi_Rules) : Bool := kIn r.Stack 1 4 && kIn r.River 0 9 && kIn r.Road 1 9 && kIn r.Supply 0 20 && kIn r.Turns 1 30
def rlG (r : Gi_Rules) : Bool := kIn r.Terrains.length 1 6 && kIn r.Kinds.length 1 4 && alli (fun i t => trOk r.Kinds.length t && decide (trIx t.Name r.Terrains = i)) r.Terrains && alli (fun i k => kdOk k && decide (kdIx k.Name r.Kinds = i)) r.Kinds && rlEnd r
theorem goodTr_i {t : Gi_Terrain} (h : TrLen t) (K : Nat) : Di_goodTerrain t (K : Int) = some (trOk K t) := by
  unfold Di_goodTerrain trOk
  simp only [nm_i h.n, Option.bind_some, kin_i, contains_cost h.c, Int.ofNat_inj, Bool.not_not]
  by_cases c1 : t.Cost.length = K
  · simp only [c1, decide_true, Bool.and_true, if_true]
    cases nmB t.Name <;> cases kIn t.Shift (-3) 3 <;> cases kIn t.Height 0 3 <;> simp
  · cases nmB t.Name <;> simp [c1]
theorem goodKd_i {k : Gi_Kind} (h : k.Name.size ≤ 2000000) : Di_goodKind k = some (kdOk k) := by
  unfold Di_goodKind kdOk
  simp only [nm_i h, Option.bind_some, kin_i]
  cases nmB k.Name <;> cases kIn k.Strength 1 9 <;> cases kIn k.Moves 0 9 <;> cases kIn k.Steps 1 4 <;> simp
theorem rlKinds_i {r : Gi_Rules} (h : RlLen r) : loop Bi_IsRules (.h2 r.Kinds (r.Kinds.length : Int) 0 r) = some (alli (fun i k => kdOk k && decide (kdIx k.Name r.Kinds = i)) r.Kinds && rlEnd r) := by
  have hk := h.k
  refine all_loop2 (B := Bi_IsRules) (S := fun i => .h2 r.Kinds (r.Kinds.length : Int) (i : Int) r) (fun i x hx hi _ => ?_) ?_
  · have hn := h.ks x (List.mem_of_getElem? hx)
    simp only [Bi_IsRules, ltc hi, nnc, if_true, Int.toNat_natCast, hx, Option.bind_some, goodKd_i hn, kdIx_i hk, wsucc (show i < 9223372036854775807 by omega)]
    by_cases c : kdIx x.Name r.Kinds = i
    · cases kdOk x <;> simp [c]
    · cases kdOk x <;> simp [c]
  · simp only [Bi_IsRules, nltc, if_false, kin_i, Option.bind_some, rlEnd]
    cases kIn r.Stack 1 4 <;> cases kIn r.River 0 9 <;> cases kIn r.Road 1 9 <;> cases kIn r.Supply 0 20 <;> simp
theorem rlKinds_s {r : Gi_Rules} (h : RlLen r) : loop Bs_rGood (.h2 r.Kinds (r.Kinds.length : Int) 0 r) = some (alli (fun i k => kdOk k && decide (kdIx k.Name r.Kinds = i)) r.Kinds && rlEnd r) := by
  have hk := h.k
  refine all_loop2 (B := Bs_rGood) (S := fun i => .h2 r.Kinds (r.Kinds.length : Int) (i : Int) r) (fun i x hx hi _ => ?_) ?_
  · have hn := h.ks x (List.mem_of_getElem? hx)
    simp only [Bs_rGood, ltc hi, nnc, if_true, Int.toNat_natCast, hx, Option.bind_some, nm_s hn, kin_s, kdIx_s hk, wsucc (show i < 9223372036854775807 by omega)]
    have b1 := Bool.eq_false_or_eq_true (nmB x.Name)
    have b2 := Bool.eq_false_or_eq_true (kIn x.Strength 1 9)
    have b3 := Bool.eq_false_or_eq_true (kIn x.Moves 0 9)
    have b4 := Bool.eq_false_or_eq_true (kIn x.Steps 1 4)
    have b5 := Bool.eq_false_or_eq_true (kIn x.View 0 4)
    by_cases c : kdIx x.Name r.Kinds = i
    · rcases b1 with b1 | b1 <;> rcases b2 with b2 | b2 <;> rcases b3 with b3 | b3 <;> rcases b4 with b4 | b4 <;> rcases b5 with b5 | b5 <;> simp [kdOk, c, b1, b2, b3, b4, b5]
    · rcases b1 with b1 | b1 <;> simp [kdOk, c, b1]
  · simp only [Bs_rGood, nltc, if_false, kin_s, Option.bind_some, rlEnd]
    cases kIn r.Stack 1 4 <;> cases kIn r.River 0 9 <;> cases kIn r.Road 1 9 <;> cases kIn r.Supply 0 20 <;> simp
theorem isRules_i {r : Gi_Rules} (h : RlLen r) : Di_IsRules r = some (rlG r) := by
  have ht := h.t
  have key := all_goL (L := loop Bi_IsRules) (S := fun i => .h1 r.Terrains (r.Terrains.length : Int) (i : Int) r) (l := r.Terrains) (q := fun i t => trOk r.Kinds.length t && decide (trIx t.Name r.Terrains = i)) (f := false) (r := some (alli (fun i k => kdOk k && decide (kdIx k.Name r.Kinds = i)) r.Kinds && rlEnd r)) (fun i x hx hi _ => by
      have hn := h.ts x (List.mem_of_getElem? hx)
      rw [loop_eq]
      simp only [Bi_IsRules, ltc hi, nnc, if_true, Int.toNat_natCast, hx, Option.bind_some, goodTr_i hn, trIx_i ht, wsucc (show i < 9223372036854775807 by omega)]
      by_cases c : trIx x.Name r.Terrains = i
      · cases trOk r.Kinds.length x <;> simp [c, goOn]
      · cases trOk r.Kinds.length x <;> simp [c, goOn]) fun _ => by
      rw [loop_eq]
      simp only [Bi_IsRules, nltc, if_false, goOn]
      exact rlKinds_i h
  unfold Di_IsRules
  simp only [kin_i, Option.bind_some, rlG]
  have key' : loop Bi_IsRules (.h1 r.Terrains (r.Terrains.length : Int) 0 r) = _ := key
  rw [key']
  cases kIn r.Terrains.length 1 6 <;> cases kIn r.Kinds.length 1 4 <;> cases alli (fun i t => trOk r.Kinds.length t && decide (trIx t.Name r.Terrains = i)) r.Terrains <;> simp
theorem isRules_s {r : Gi_Rules} (h : RlLen r) : Ds_rGood r = some (rlG r) := by
  have ht := h.t
  have key := all_goL (L := loop Bs_rGood) (S := fun i => .h1 r.Terrains (r.Terrains.length : Int) (i : Int) r) (l := r.Terrains) (q := fun i t => trOk r.Kinds.length t && decide (trIx t.Name r.Terrains = i)) (f := false) (r := some (alli (fun i k => kdOk k && decide (kdIx k.Name r.Kinds = i)) r.Kinds && rlEnd r)) (fun i x hx hi _ => by
      have hn := h.ts x (List.mem_of_getElem? hx)
      have hn1 := hn.n
      have hn2 := hn.c
      rw [loop_eq]
      simp only [Bs_rGood, ltc hi, nnc, if_true, Int.toNat_natCast, hx, Option.bind_some, nm_s hn1, l1All_s hn2, kin_s, trIx_s ht, wsucc (show i < 9223372036854775807 by omega), Int.ofNat_inj]
      have b1 := Bool.eq_false_or_eq_true (nmB x.Name)
      have b2 := Bool.eq_false_or_eq_true (kIn x.Shift (-3) 3)
      have b3 := Bool.eq_false_or_eq_true (kIn x.Height 0 3)
      have b4 := Bool.eq_false_or_eq_true (alli (fun _ x => kIn x 0 9) x.Cost)
      by_cases c : trIx x.Name r.Terrains = i
      · by_cases c1 : x.Cost.length = r.Kinds.length
        · rcases b1 with b1 | b1 <;> rcases b2 with b2 | b2 <;> rcases b3 with b3 | b3 <;> rcases b4 with b4 | b4 <;> simp [trOk, c, c1, b1, b2, b3, b4, goOn]
        · rcases b1 with b1 | b1 <;> simp [trOk, c, c1, b1, goOn]
      · rcases b1 with b1 | b1 <;> simp [trOk, c, b1, goOn]) fun _ => by
      rw [loop_eq]
      simp only [Bs_rGood, nltc, if_false, goOn]
      exact rlKinds_s h
  unfold Ds_rGood
  simp only [kin_s, Option.bind_some, rlG]
  have key' : loop Bs_rGood (.h1 r.Terrains (r.Terrains.length : Int) 0 r) = _ := key
  rw [key']
  cases kIn r.Terrains.length 1 6 <;> cases kIn r.Kinds.length 1 4 <;> cases alli (fun i t => trOk r.Kinds.length t && decide (trIx t.Name r.Terrains = i)) r.Terrains <;> simp
/-- What valid rules are. -/
structure RlOk (r : Gi_Rules) : Prop where
  t : 1 ≤ r.Terrains.length ∧ r.Terrains.length ≤ 6
  k : 1 ≤ r.Kinds.length ∧ r.Kinds.length ≤ 4
  ts : ∀ x ∈ r.Terrains, x.Cost.length = r.Kinds.length ∧ ∀ c ∈ x.Cost, 0 ≤ c ∧ c ≤ 9
  ks : ∀ x ∈ r.Kinds, (1 ≤ x.Strength ∧ x.Strength ≤ 9) ∧ (0 ≤ x.Moves ∧ x.Moves ≤ 9) ∧ (1 ≤ x.Steps ∧ x.Steps ≤ 4) ∧ (0 ≤ x.View ∧ x.View ≤ 4)
  sh : ∀ x ∈ r.Terrains, (-3 ≤ x.Shift ∧ x.Shift ≤ 3) ∧ (0 ≤ x.Height ∧ x.Height ≤ 3)
  e : (1 ≤ r.Stack ∧ r.Stack ≤ 4) ∧ (0 ≤ r.River ∧ r.River ≤ 9) ∧ (1 ≤ r.Road ∧ r.Road ≤ 9) ∧ (0 ≤ r.Supply ∧ r.Supply ≤ 20) ∧ (1 ≤ r.Turns ∧ r.Turns ≤ 30)
theorem rlG_ok {r : Gi_Rules} (h : rlG r = true) : RlOk r := by
  simp only [rlG, rlEnd, Bool.and_eq_true, kIn_iff] at h
  obtain ⟨⟨⟨⟨h1, h2⟩, h3⟩, h4⟩, h5⟩ := h
  have h3' := alli_iff.1 h3
  have h4' := alli_iff.1 h4
  refine ⟨by omega, by omega, fun x hx => ?_, fun x hx => ?_, fun x hx => ?_, by omega⟩
  · obtain ⟨i, hi⟩ := List.getElem?_of_mem hx
    have := h3' i x hi
    simp only [trOk, Bool.and_eq_true, decide_eq_true_eq, kIn_iff] at this
    refine ⟨this.1.1.1.1.2, fun c hc => ?_⟩
    obtain ⟨j, hj⟩ := List.getElem?_of_mem hc
    have := alli_iff.1 this.1.2 j c hj
    simpa [kIn_iff] using this
  · obtain ⟨i, hi⟩ := List.getElem?_of_mem hx
    have := h4' i x hi
    simp only [kdOk, Bool.and_eq_true, decide_eq_true_eq, kIn_iff] at this
    omega
  · obtain ⟨i, hi⟩ := List.getElem?_of_mem hx
    have := h3' i x hi
    simp only [trOk, Bool.and_eq_true, decide_eq_true_eq, kIn_iff] at this
    omega

/-- A loop that folds a list, in any setting. -/
theorem fold_goI {σ α A ρ : Type} {L : σ → Option ρ} {S : A → Nat → σ} {l : List α} {g : A → α → A} {I : Nat → A → Prop} {r : A → Option ρ}
    (hs : ∀ a i x, l[i]? = some x → i < l.length → I i a → L (S a i) = L (S (g a x) (i + 1)) ∧ I (i + 1) (g a x)) (he : ∀ a, I l.length a → L (S a l.length) = r a) {a : A} (ha : I 0 a) : L (S a 0) = r (l.foldl g a) ∧ I l.length (l.foldl g a) := by
  have key : ∀ (k i : Nat) a, i + k = l.length → I i a → L (S a i) = r ((l.drop i).foldl g a) ∧ I l.length ((l.drop i).foldl g a) := by
    intro k
    induction k with
    | zero =>
      intro i a h hI
      have : i = l.length := by omega
      subst this
      rw [he a hI, List.drop_of_length_le (Nat.le_refl _)]
      exact ⟨rfl, hI⟩
    | succ k ih =>
      intro i a h hI
      have hlt : i < l.length := by omega
      obtain ⟨h1, h2⟩ := hs a i l[i] (List.getElem?_eq_getElem hlt) hlt hI
      rw [h1, List.drop_eq_getElem_cons hlt]
      exact ih (i + 1) _ (by omega) h2
  simpa using key l.length 0 a (by omega) ha
theorem fold_goL {σ α A ρ : Type} {L : σ → Option ρ} {S : A → Nat → σ} {l : List α} {g : A → α → A} {I : A → Prop} {r : A → Option ρ}
    (hs : ∀ a i x, l[i]? = some x → i < l.length → I a → L (S a i) = L (S (g a x) (i + 1)) ∧ I (g a x)) (he : ∀ a, I a → L (S a l.length) = r a) {a : A} (ha : I a) : L (S a 0) = r (l.foldl g a) :=
  (fold_goI (I := fun _ => I) hs he ha).1
/-- The places below n that f gives something of, collected. -/
theorem fm_goL {σ α ρ : Type} {L : σ → Option ρ} {S : Nat → List α → σ} {n : Nat} {f : Nat → Option α} {r : List α → Option ρ}
    (hs : ∀ i acc, i < n → acc.length ≤ i → L (S i acc) = L (S (i + 1) (match f i with | some a => acc ++ [a] | none => acc))) (he : ∀ acc, acc.length ≤ n → L (S n acc) = r acc) : L (S 0 []) = r ((List.range n).filterMap f) := by
  have key : ∀ (k i : Nat) acc, i + k = n → acc.length ≤ i → L (S i acc) = r (acc ++ (List.range' i k).filterMap f) := by
    intro k
    induction k with
    | zero =>
      intro i acc h hl
      have : i = n := by omega
      subst this
      rw [he acc hl]
      simp
    | succ k ih =>
      intro i acc h hl
      rw [hs i acc (by omega) hl, List.range'_succ, List.filterMap_cons]
      cases hf : f i with
      | none => exact ih (i + 1) acc (by omega) (by omega)
      | some a =>
        simp only
        rw [ih (i + 1) _ (by omega) (by simp; omega)]
        simp
  have := key n 0 [] (by omega) (by simp)
  rw [this, List.range_eq_range']
  rfl
theorem fm_len {α : Type} (f : Nat → Option α) (n : Nat) : ((List.range n).filterMap f).length ≤ n := by
  have := List.length_filterMap_le f (List.range n)
  simpa using this
theorem ap8 {α : Type} {l : List α} {x : α} (h : l.length ≤ 3000000) : (l ++ [x]).length * 8 ≤ 70368744177664 := by simp; omega
theorem if8 {α β : Type} {l : List α} {x : α} (h : l.length ≤ 3000000) (a b : β) : (if (l ++ [x]).length * 8 ≤ 70368744177664 then a else b) = a := if_pos (ap8 h)

structure BdLen (b : Gi_Board) : Prop where
  r : RlLen b.Rules
  m : MpLen b.Map
def bdG (b : Gi_Board) : Bool := rlG b.Rules && mpGood b.Map && alli (fun _ x => kIn x 0 (b.Rules.Terrains.length - 1)) b.Map.Terrain
theorem mpGood_terr {m : Gi_Map} (h : mpGood m = true) : ∀ x ∈ m.Terrain, 0 ≤ x ∧ x ≤ 5 := by
  simp only [mpGood, Bool.and_eq_true, List.all_eq_true] at h
  intro x hx
  have := h.1.1.2 x hx
  simpa [terrOk] using this
theorem contains_terr {b : Gi_Board} {l : List Int} (hl : l.length ≤ 2000000) : Dslices_ContainsFunc_int_i_IsBoard_1 l b = some (!(alli (fun _ (x : Int) => decide (x < b.Rules.Terrains.length)) l)) := by
  rw [← ifNB]
  have := all_goL (L := fun s => (loop Bslices_IndexFunc_int_i_IsBoard_1 s).map fun r => decide (r ≥ 0)) (S := fun i => .h1 l b (l.length : Int) (i : Int)) (l := l) (q := fun _ (x : Int) => decide (x < b.Rules.Terrains.length)) (f := true) (r := some false) (fun i x hx hi _ => by
    rw [loop_eq]
    simp only [Bslices_IndexFunc_int_i_IsBoard_1, ltc hi, nnc, if_true, Int.toNat_natCast, hx, Option.bind_some, Di_IsBoard_1, wsucc (show i < 9223372036854775807 by omega)]
    by_cases c : x < b.Rules.Terrains.length
    · have : ¬ x ≥ b.Rules.Terrains.length := by omega
      simp [c, this, goOn]
    · have : x ≥ b.Rules.Terrains.length := by omega
      simp [c, this, goOn]) fun _ => by
    rw [loop_eq]
    simp only [Bslices_IndexFunc_int_i_IsBoard_1, nltc, if_false]
    rfl
  refine Eq.trans ?_ this
  unfold Dslices_ContainsFunc_int_i_IsBoard_1 Dslices_IndexFunc_int_i_IsBoard_1
  cases loop Bslices_IndexFunc_int_i_IsBoard_1 (.h1 l b (l.length : Int) 0) <;> rfl
theorem isBoard_i {b : Gi_Board} (h : BdLen b) : Di_IsBoard b = some (bdG b) := by
  unfold Di_IsBoard bdG
  rw [isRules_i h.r, Option.bind_some]
  cases c1 : rlG b.Rules with
  | false => simp
  | true =>
    rw [isMap_i h.m]
    simp only [if_true, Option.bind_some]
    cases c2 : mpGood b.Map with
    | false => simp
    | true =>
      have ht := mpGood_terr c2
      simp only [if_true, contains_terr h.m.1, Option.bind_some, Bool.not_not, Bool.true_and, Option.some.injEq]
      rw [Bool.eq_iff_iff, alli_iff, alli_iff]
      constructor
      · intro k i x hx
        have h1 := k i x hx
        have h2 := ht x (List.mem_of_getElem? hx)
        simp only [decide_eq_true_eq] at h1
        exact kIn_iff.2 ⟨h2.1, by omega⟩
      · intro k i x hx
        have h1 := kIn_iff.1 (k i x hx)
        simp only [decide_eq_true_eq]
        omega
theorem isBoard_s {b : Gi_Board} (h : BdLen b) : Ds_bGood b = some (bdG b) := by
  have hr := h.r.t
  unfold Ds_bGood bdG
  rw [isRules_s h.r, Option.bind_some]
  cases c1 : rlG b.Rules with
  | false => simp
  | true =>
    rw [good_m h.m]
    simp only [if_true, Option.bind_some]
    cases c2 : mpGood b.Map with
    | false => simp
    | true =>
      rw [w64 (by omega)]
      simp only [if_true, l1All_s h.m.1, Option.bind_some, Bool.true_and]
/-- What a valid board is. -/
structure BdOk (b : Gi_Board) : Prop where
  r : RlOk b.Rules
  d : MpDim b.Map 10
  n : (b.Map.Terrain.length : Int) = b.Map.Width * b.Map.Height
  n2 : 1 ≤ b.Map.Terrain.length ∧ b.Map.Terrain.length ≤ 100
  t : ∀ x ∈ b.Map.Terrain, 0 ≤ x ∧ x < b.Rules.Terrains.length
theorem bdG_ok {b : Gi_Board} (h : bdG b = true) : BdOk b := by
  simp only [bdG, Bool.and_eq_true] at h
  obtain ⟨⟨h1, h2⟩, h3⟩ := h
  obtain ⟨d, n, _, _⟩ := mpGood_dim h2
  have hs := mpSize d
  refine ⟨rlG_ok h1, d, n, by omega, fun x hx => ?_⟩
  obtain ⟨i, hi⟩ := List.getElem?_of_mem hx
  have := kIn_iff.1 (alli_iff.1 h3 i x hi)
  omega
theorem BdOk.d100 {b : Gi_Board} (h : BdOk b) : MpDim b.Map 100 := by
  have := h.d
  unfold MpDim at this ⊢
  omega

def bdT (b : Gi_Board) (i : Int) : Gi_Terrain := match b.Map.Terrain[i.toNat]? with
  | some t => (match b.Rules.Terrains[t.toNat]? with
    | some x => x
    | none => ⟨⟨#[]⟩, [], 0, 0, false⟩)
  | none => ⟨⟨#[]⟩, [], 0, 0, false⟩
def bdC (b : Gi_Board) (k i : Int) : Int := match (bdT b i).Cost[k.toNat]? with
  | some c => c
  | none => 0
theorem bdT_b {b : Gi_Board} (h : BdOk b) {i : Int} (hi : 0 ≤ i ∧ i < b.Map.Terrain.length) : Di_terrainAt b i = some (bdT b i) ∧ Ds_bTerrain b i = some (bdT b i) ∧ bdT b i ∈ b.Rules.Terrains := by
  have h1 : b.Map.Terrain[i.toNat]? = some b.Map.Terrain[i.toNat] := List.getElem?_eq_getElem (by omega)
  have h2 := h.t _ (List.mem_of_getElem? h1)
  have h3 : b.Rules.Terrains[b.Map.Terrain[i.toNat].toNat]? = some b.Rules.Terrains[b.Map.Terrain[i.toNat].toNat] := List.getElem?_eq_getElem (by omega)
  have e : bdT b i = b.Rules.Terrains[b.Map.Terrain[i.toNat].toNat] := by
    unfold bdT
    rw [h1]
    simp only
    rw [h3]
  rw [e]
  unfold Di_terrainAt Ds_bTerrain
  rw [if_pos hi.1, h1, Option.bind_some, if_pos h2.1, h3]
  exact ⟨rfl, rfl, List.getElem_mem _⟩
theorem bdC_b {b : Gi_Board} (h : BdOk b) {k i : Int} (hk : 0 ≤ k ∧ k < b.Rules.Kinds.length) (hi : 0 ≤ i ∧ i < b.Map.Terrain.length) : Di_enterCost b k i = some (bdC b k i) ∧ Ds_bCost b k i = some (bdC b k i) ∧ 0 ≤ bdC b k i ∧ bdC b k i ≤ 9 := by
  obtain ⟨e1, e2, hm⟩ := bdT_b h hi
  obtain ⟨hl, hc⟩ := h.r.ts _ hm
  have h1 : (bdT b i).Cost[k.toNat]? = some (bdT b i).Cost[k.toNat] := List.getElem?_eq_getElem (by omega)
  have h2 := hc _ (List.mem_of_getElem? h1)
  have e : bdC b k i = (bdT b i).Cost[k.toNat] := by
    unfold bdC
    rw [h1]
  rw [e]
  unfold Di_enterCost Ds_bCost
  rw [e1, e2, Option.bind_some, if_pos hk.1, h1]
  exact ⟨rfl, rfl, h2⟩
def opL (b : Gi_Board) (k : Int) : List Int := (List.range b.Map.Terrain.length).filterMap fun (i : Nat) => if bdC b k i = 0 then none else some (i : Int)
theorem opL_mem {b : Gi_Board} {k x : Int} : x ∈ opL b k ↔ 0 ≤ x ∧ x < b.Map.Terrain.length ∧ bdC b k x ≠ 0 := by
  unfold opL
  rw [List.mem_filterMap]
  constructor
  · rintro ⟨i, hi, h⟩
    rw [List.mem_range] at hi
    split at h
    · cases h
    · rename_i hc
      cases h
      exact ⟨by omega, by omega, hc⟩
  · rintro ⟨h1, h2, h3⟩
    refine ⟨x.toNat, by rw [List.mem_range]; omega, ?_⟩
    rw [show ((x.toNat : Nat) : Int) = x by omega, if_neg h3]
theorem open_i {b : Gi_Board} (h : BdOk b) {k : Int} (hk : 0 ≤ k ∧ k < b.Rules.Kinds.length) : Di_openHexes b k = some (opL b k) := by
  have hn := h.n2
  refine fm_goL (L := loop Bi_openHexes) (S := fun i acc => .h1 k (b.Map.Terrain.length : Int) (i : Int) b acc) (f := fun (i : Nat) => if bdC b k i = 0 then none else some (i : Int)) (r := some) (fun i acc hi ha => ?_) fun acc ha => ?_
  · rw [loop_eq]
    simp only [Bi_openHexes, ltc hi, if_true, (bdC_b h hk (i := (i : Int)) ⟨by omega, by omega⟩).1, Option.bind_some, if8 (show acc.length ≤ 3000000 by omega), wsucc (show i < 9223372036854775807 by omega)]
    by_cases c : bdC b k i = 0 <;> simp [c, goOn]
  · rw [loop_eq]
    simp only [Bi_openHexes, nltc, if_false, goOn]
theorem open_s {b : Gi_Board} (h : BdOk b) {k : Int} (hk : 0 ≤ k ∧ k < b.Rules.Kinds.length) : Ds_bOpen b k = some (opL b k) := by
  have hn := h.n2
  refine fm_goL (L := loop Bs_bOpen) (S := fun i acc => .h1 k (b.Map.Terrain.length : Int) (i : Int) b acc) (r := some) (fun i acc hi ha => ?_) fun acc ha => ?_
  · rw [loop_eq]
    obtain ⟨_, e, h0, _⟩ := bdC_b h hk (i := (i : Int)) ⟨by omega, by omega⟩
    simp only [Bs_bOpen, ltc hi, if_true, e, Option.bind_some, if8 (show acc.length ≤ 3000000 by omega), wsucc (show i < 9223372036854775807 by omega)]
    by_cases c : bdC b k i = 0
    · simp [c, goOn]
    · rw [if_pos (by omega)]; simp [c, goOn]
  · rw [loop_eq]
    simp only [Bs_bOpen, nltc, if_false, goOn]
theorem opL_len (b : Gi_Board) (k : Int) : (opL b k).length ≤ b.Map.Terrain.length := fm_len _ _
theorem isIndex_i {x n : Int} (h : -1000000000 ≤ n ∧ n ≤ 1000000000) : Di_isIndex x n = some (kIn x 0 (n - 1)) := by
  unfold Di_isIndex
  rw [w64 (by omega), kin_i]
  rfl
theorem isKindOf_i {b : Gi_Board} (h : BdLen b) (k : Int) : Di_isKindOf b k = some (bdG b && kIn k 0 (b.Rules.Kinds.length - 1)) := by
  have := h.r.k
  unfold Di_isKindOf
  rw [isBoard_i h, Option.bind_some, isIndex_i (by omega)]
  cases bdG b <;> simp
theorem bAt_s {b : Gi_Board} (h : BdLen b) (k i : Int) : Ds_bAt b k i = some (bdG b && kIn k 0 (b.Rules.Kinds.length - 1) && kIn i 0 (b.Map.Terrain.length - 1)) := by
  have := h.r.k
  unfold Ds_bAt
  rw [isBoard_s h, Option.bind_some, w64 (by omega)]
  cases c : bdG b with
  | false => simp
  | true =>
    have ho := bdG_ok c
    have hn := ho.n2
    simp only [if_true, kin_s, Option.bind_some, Bool.true_and]
    cases kIn k 0 (b.Rules.Kinds.length - 1) with
    | false => simp
    | true =>
      rw [mSize_s ho.d (by decide), ← ho.n, Option.bind_some, w64 (by omega)]
      simp
theorem okPick {c : Gs_l1Cur} {k : Int} (h : Cu c k) (hk : k + 2 ≤ 1099511627776) (n : Int) : Ok (Ds_l1Cur_pick c n) fun r => (0 ≤ r.1 ∧ (1 ≤ n → r.1 < n) ∧ r.1 ≤ 65535) ∧ Cu r.2 (k + 2) := by
  obtain ⟨v, c', e, h1, h2⟩ := cuPick h hk n
  exact ⟨_, e, h1, h2⟩
theorem okOne {c : Gs_l1Cur} {k : Int} (h : Cu c k) (hk : k + 2 ≤ 1099511627776) (n : Int) : Ok (Ds_l1Cur_one c n) fun r => Cu r.2 (k + 2) := by
  obtain ⟨v, c', e, h2⟩ := cuOne h hk n
  exact ⟨_, e, h2⟩
theorem okAmong {c : Gs_l1Cur} {k : Int} (h : Cu c k) (hk : k + 2 ≤ 1099511627776) (l : List Int) (hl : 0 < l.length) : Ok (Ds_l1Cur_among c l) fun r => r.1 ∈ l ∧ Cu r.2 (k + 2) := by
  obtain ⟨v, c', e, h1, h2⟩ := cuAmong h hk l hl
  exact ⟨_, e, h1, h2⟩
theorem okOf {c : Gs_l1Cur} {k : Int} (h : Cu c k) (hk : k + 2 ≤ 1099511627776) (l : List ByteArray) (hl : 0 < l.length) : Ok (Ds_l1Cur_of c l) fun r => r.1 ∈ l ∧ Cu r.2 (k + 2) := by
  obtain ⟨v, c1, e1, hv, hc1⟩ := cuPick h hk l.length
  have := hv.2.1 (by omega)
  have hx : l[v.toNat]? = some l[v.toNat] := List.getElem?_eq_getElem (by omega)
  unfold Ds_l1Cur_of
  rw [e1, Option.bind_some, if_pos hv.1, hx, Option.bind_some]
  exact ⟨_, rfl, List.mem_of_getElem? hx, hc1⟩
/-- Rules, as drawn. -/
structure RlD (r : Gi_Rules) : Prop where
  t : 1 ≤ r.Terrains.length ∧ r.Terrains.length ≤ 20
  ts : ∀ x ∈ r.Terrains, x.Name.size ≤ 100 ∧ 1 ≤ x.Cost.length ∧ x.Cost.length ≤ 100
  k : 1 ≤ r.Kinds.length ∧ r.Kinds.length ≤ 20
  ks : ∀ x ∈ r.Kinds, x.Name.size ≤ 100
theorem RlD.len {r : Gi_Rules} (h : RlD r) : RlLen r where
  t := by have := h.t; omega
  ts := fun x hx => by have := h.ts x hx; exact ⟨by omega, by omega⟩
  k := by have := h.k; omega
  ks := fun x hx => by have := h.ks x hx; omega
def five : List ByteArray := [⟨#[112, 108, 97, 105, 110]⟩, ⟨#[119, 111, 111, 100]⟩, ⟨#[104, 105, 108, 108]⟩, ⟨#[115, 101, 97]⟩, ⟨#[116, 111, 119, 110]⟩]
theorem five_sz : ∀ x ∈ five, x.size ≤ 100 := by
  intro x hx
  simp only [five, List.mem_cons, List.not_mem_nil, or_false] at hx
  rcases hx with rfl | rfl | rfl | rfl | rfl <;> decide
def TrDs (l : List Gi_Terrain) : Prop := ∀ x ∈ l, x.Name.size ≤ 100 ∧ 1 ≤ x.Cost.length ∧ x.Cost.length ≤ 100
def KdDs (l : List Gi_Kind) : Prop := (1 ≤ l.length ∧ l.length ≤ 3) ∧ ∀ x ∈ l, x.Name.size ≤ 100
theorem TrDs.snoc {l : List Gi_Terrain} {x : Gi_Terrain} (h : TrDs l) (hx : x.Name.size ≤ 100 ∧ 1 ≤ x.Cost.length ∧ x.Cost.length ≤ 100) : TrDs (l ++ [x]) := fun y hy => by
  rcases List.mem_append.1 hy with hy | hy
  · exact h y hy
  · rw [List.mem_singleton.1 hy]; exact hx
def rlI (k : Int) : Ss_l1Cur_rules → Prop
  | .h1 t0 b1 _ _ _ _ _ _ _ _ _ _ l12 l13 => t0 = 0 ∧ Cu b1 k ∧ l12 = five ∧ KdDs l13
  | .h2 t0 t1 t2 b3 _ _ _ _ _ _ _ _ _ _ l14 b15 _ _ _ l19 => t0 = 0 ∧ t1 = (l19.length : Int) ∧ t2 = 0 ∧ Cu b3 (k + 12) ∧ l14 = five ∧ b15.size ≤ 100 ∧ KdDs l19
  | .h3 t0 t1 t2 b3 _ _ _ _ _ _ _ _ _ _ l14 b15 _ _ _ l19 l20 => t0 = 0 ∧ t1 = (l19.length : Int) ∧ 1 ≤ t2 ∧ t2 ≤ t1 ∧ Cu b3 (k + 12 + 2 * t2) ∧ l14 = five ∧ b15.size ≤ 100 ∧ KdDs l19 ∧ (l20.length : Int) = t2
  | .h4 t0 b1 _ _ _ _ _ _ _ _ _ _ l12 l13 l14 => 1 ≤ t0 ∧ t0 ≤ 5 ∧ Cu b1 (k + 30 * t0) ∧ l12 = five ∧ (l13.length : Int) = t0 ∧ TrDs l13 ∧ KdDs l14
  | .h5 t0 t1 t2 b3 _ _ _ _ _ _ _ _ _ _ l14 b15 _ _ _ l19 l20 => 1 ≤ t0 ∧ t0 ≤ 4 ∧ t1 = (l20.length : Int) ∧ t2 = 0 ∧ Cu b3 (k + 30 * t0 + 12) ∧ l14 = five ∧ b15.size ≤ 100 ∧ (l19.length : Int) = t0 ∧ TrDs l19 ∧ KdDs l20
  | .h6 t0 t1 t2 b3 _ _ _ _ _ _ _ _ _ _ l14 b15 _ _ _ l19 l20 l21 => 1 ≤ t0 ∧ t0 ≤ 4 ∧ t1 = (l20.length : Int) ∧ 1 ≤ t2 ∧ t2 ≤ t1 ∧ Cu b3 (k + 30 * t0 + 12 + 2 * t2) ∧ l14 = five ∧ b15.size ≤ 100 ∧ (l19.length : Int) = t0 ∧ TrDs l19 ∧ KdDs l20 ∧ (l21.length : Int) = t2
def rlM : Ss_l1Cur_rules → Nat
  | .h1 .. => 10000
  | .h2 .. => 9000
  | .h3 _ t1 t2 .. => 8000 + (t1 - t2).toNat
  | .h4 t0 .. => 100 * (10 - t0).toNat
  | .h5 t0 .. => 100 * (10 - t0).toNat - 1
  | .h6 t0 t1 t2 .. => 100 * (10 - t0).toNat - 50 + (t1 - t2).toNat
theorem okRulesLoop {k : Int} (hk : k + 200 ≤ 1099511627776) : ∀ {s}, rlI k s → Ok (loop Bs_l1Cur_rules s) fun r => RlD r.1 ∧ Cu r.2 (k + 200) := by
  refine Ok.loop (rlI k) rlM fun s hI => ?_
  match s, hI with
  | .h1 t0 b1 b2 b3 b4 b5 b6 b7 b8 b9 b10 b11 l12 l13, hI =>
    obtain ⟨rfl, hc, rfl, hkd⟩ := hI
    have hkl := hkd.1
    simp only [Bs_l1Cur_rules]
    refine Ok.bind (okPick hc (by omega) 4) fun r1 h1 => ?_
    obtain ⟨h1, hc1⟩ := h1
    rw [w64 (by omega)]
    refine Ok.chk (by omega) (Ok.els (by decide) (Ok.chk (by decide) (Ok.get (by decide) fun x hx hm => ?_)))
    refine Ok.bind (okPick hc1 (by omega) 3) fun r6 h6 => Ok.bind (okPick h6.2 (by omega) 2) fun r7 h7 => Ok.bind (okPick h7.2 (by omega) 3) fun r8 h8 => Ok.els (by decide) (Ok.ret ?_)
    exact ⟨⟨rfl, rfl, rfl, h8.2.mono (by omega) (by omega), rfl, five_sz _ hm, hkd⟩, by simp [rlM]⟩
  | .h2 t0 t1 t2 b3 b4 b5 b6 b7 b8 b9 b10 b11 b12 b13 l14 b15 b16 b17 b18 l19, hI =>
    obtain ⟨rfl, rfl, rfl, hc, rfl, hn, hkd⟩ := hI
    have hkl := hkd.1
    simp only [Bs_l1Cur_rules]
    refine Ok.chk (by omega) (Ok.els (by decide) (Ok.chk (by decide) (Ok.ret ?_)))
    exact ⟨⟨rfl, rfl, by decide, by rw [show IntKind.wrap .i64 (0 + 1) = 1 from by decide]; omega, hc.mono (by rw [show IntKind.wrap .i64 (0 + 1) = 1 from by decide]; omega) (by rw [show IntKind.wrap .i64 (0 + 1) = 1 from by decide]; omega), rfl, hn, hkd, rfl⟩, by simp only [rlM]; rw [show IntKind.wrap .i64 (0 + 1) = 1 from by decide]; omega⟩
  | .h3 t0 t1 t2 b3 b4 b5 b6 b7 b8 b9 b10 b11 b12 b13 l14 b15 b16 b17 b18 l19 l20, hI =>
    obtain ⟨rfl, rfl, ht1, ht2, hc, rfl, hn, hkd, hl⟩ := hI
    have hkl := hkd.1
    simp only [Bs_l1Cur_rules]
    refine Ok.ite (fun c => Ok.els (by decide) (Ok.chk (by simp; omega) (Ok.ret ?_))) fun c => Ok.chk (by simp) (Ok.ret ?_)
    · have e : IntKind.wrap .i64 (t2 + 1) = t2 + 1 := w64 (by omega)
      exact ⟨⟨rfl, rfl, by omega, by omega, hc.mono (by omega) (by omega), rfl, hn, hkd, by simp; omega⟩, by simp only [rlM]; omega⟩
    · refine ⟨⟨by decide, by decide, hc.mono (by rw [show IntKind.wrap .i64 (0 + 1) = 1 from by decide]; omega) (by rw [show IntKind.wrap .i64 (0 + 1) = 1 from by decide]; omega), rfl, rfl, fun x hx => ?_, hkd⟩, by simp only [rlM]; rw [show IntKind.wrap .i64 (0 + 1) = 1 from by decide]; omega⟩
      rw [List.mem_singleton.1 hx]
      exact ⟨hn, by simp only; omega, by simp only; omega⟩
  | .h4 t0 b1 b2 b3 b4 b5 b6 b7 b8 b9 b10 b11 l12 l13 l14, hI =>
    obtain ⟨ht1, ht2, hc, rfl, hl, htr, hkd⟩ := hI
    have hkl := hkd.1
    simp only [Bs_l1Cur_rules]
    refine Ok.bind (okPick hc (by omega) 4) fun r1 h1 => ?_
    obtain ⟨h1, hc1⟩ := h1
    rw [w64 (n := 2 + r1.1) (by omega)]
    have done : RlD ⟨l13, l14, b7, b8, b9, b10, b11⟩ ∧ Cu r1.2 (k + 200) := ⟨⟨by simp only; omega, htr, by simp only; omega, hkd.2⟩, hc1.mono (by omega) (by omega)⟩
    refine Ok.ite (fun c => Ok.ite (fun c2 => Ok.ret done) fun c2 => ?_) fun c => Ok.ret done
    have hf : (five.length : Int) = 5 := rfl
    rw [hf] at c2
    refine Ok.chk (by omega) (Ok.get (show t0.toNat < 5 by omega) fun x hx hm => ?_)
    refine Ok.bind (okPick hc1 (by omega) 3) fun r6 h6 => Ok.bind (okPick h6.2 (by omega) 2) fun r7 h7 => Ok.bind (okPick h7.2 (by omega) 3) fun r8 h8 => Ok.chk (by omega) (Ok.bind (okOne h8.2 (by omega) 3) fun r10 h10 => Ok.ret ?_)
    exact ⟨⟨ht1, by omega, rfl, rfl, h10.mono (by omega) (by omega), rfl, five_sz _ hm, hl, htr, hkd⟩, by simp only [rlM]; omega⟩
  | .h5 t0 t1 t2 b3 b4 b5 b6 b7 b8 b9 b10 b11 b12 b13 l14 b15 b16 b17 b18 l19 l20, hI =>
    obtain ⟨ht1, ht2, rfl, rfl, hc, rfl, hn, hl, htr, hkd⟩ := hI
    have hkl := hkd.1
    have e1 : IntKind.wrap .i64 (0 + 1) = 1 := by decide
    simp only [Bs_l1Cur_rules]
    refine Ok.chk (by omega) (Ok.chk (by omega) (Ok.bind (okPick hc (by omega) 4) fun r3 h3 => Ok.chk (by simp) (Ok.ret ?_)))
    exact ⟨⟨ht1, ht2, rfl, by omega, by omega, h3.2.mono (by omega) (by omega), rfl, hn, hl, htr, hkd, by rw [e1]; rfl⟩, by simp only [rlM]; omega⟩
  | .h6 t0 t1 t2 b3 b4 b5 b6 b7 b8 b9 b10 b11 b12 b13 l14 b15 b16 b17 b18 l19 l20 l21, hI =>
    obtain ⟨ht1, ht2, rfl, ht3, ht4, hc, rfl, hn, hl, htr, hkd, hl2⟩ := hI
    have hkl := hkd.1
    have e1 : IntKind.wrap .i64 (t2 + 1) = t2 + 1 := w64 (by omega)
    have e2 : IntKind.wrap .i64 (t0 + 1) = t0 + 1 := w64 (by omega)
    simp only [Bs_l1Cur_rules]
    refine Ok.ite (fun c => Ok.chk (by omega) (Ok.bind (okPick hc (by omega) 4) fun r3 h3 => Ok.chk (by simp; omega) (Ok.ret ?_))) fun c => Ok.chk (by simp; omega) (Ok.ret ?_)
    · exact ⟨⟨ht1, ht2, rfl, by omega, by omega, h3.2.mono (by omega) (by omega), rfl, hn, hl, htr, hkd, by simp; omega⟩, by simp only [rlM]; omega⟩
    · exact ⟨⟨by omega, by omega, hc.mono (by omega) (by omega), rfl, by simp; omega, htr.snoc ⟨hn, by simp only; omega, by simp only; omega⟩, hkd⟩, by simp only [rlM]; omega⟩
theorem okRules {c : Gs_l1Cur} {k : Int} (h : Cu c k) (hk : k + 300 ≤ 1099511627776) : Ok (Ds_l1Cur_rules c) fun r => RlD r.1 ∧ Cu r.2 (k + 300) := by
  unfold Ds_l1Cur_rules
  refine Ok.bind (okPick h (by omega) 3) fun r1 h1 => Ok.bind (okPick h1.2 (by omega) 4) fun r2 h2 => Ok.bind (okPick h2.2 (by omega) 3) fun r3 h3 => Ok.bind (okPick h3.2 (by omega) 2) fun r4 h4 => Ok.bind (okPick h4.2 (by omega) 4) fun r5 h5 => Ok.bind (okPick h5.2 (by omega) 6) fun r6 h6 => Ok.bind (okPick h6.2 (by omega) 2) fun r7 h7 => Ok.bind (okOne h7.2 (by omega) 2) fun r8 h8 => Ok.bind (okPick h8 (by omega) 6) fun r9 h9 => Ok.bind (okPick h9.2 (by omega) 3) fun r10 h10 => Ok.bind (okPick h10.2 (by omega) 3) fun r11 h11 => Ok.bind (okPick h11.2 (by omega) 3) fun r12 h12 => ?_
  rw [w64 (n := 1 + r12.1) (by omega)]
  refine Ok.chk (by omega) (Ok.chk (by simp; omega) ?_)
  refine Ok.bind (okPick h12.2 (by omega) 3) fun r15 h15 => Ok.bind (okPick h15.2 (by omega) 3) fun r16 h16 => Ok.bind (okPick h16.2 (by omega) 8) fun r17 h17 => Ok.bind (okPick h17.2 (by omega) 8) fun r18 h18 => ?_
  refine Ok.mono (okRulesLoop (k := k + 40) (by omega) ?_) fun r hr => ⟨hr.1, hr.2.mono (by omega) (by omega)⟩
  refine ⟨rfl, h18.2.mono (by omega) (by omega), rfl, ⟨?_, ?_⟩, fun x hx => ?_⟩
  · simp; omega
  · simp; omega
  · have := List.mem_of_mem_drop (List.mem_of_mem_take hx)
    simp only [List.mem_cons, List.not_mem_nil, or_false] at this
    rcases this with rfl | rfl | rfl <;> simp only <;> decide
/-- Rules, perhaps spoilt. -/
theorem okAnyRules {c : Gs_l1Cur} {k : Int} (h : Cu c k) (hk : k + 310 ≤ 1099511627776) : Ok (Ds_l1Cur_anyRules c) fun r => RlLen r.1 ∧ (1 ≤ r.1.Kinds.length ∧ r.1.Kinds.length ≤ 30) ∧ Cu r.2 (k + 310) := by
  unfold Ds_l1Cur_anyRules
  refine Ok.bind (okRules h (by omega)) fun r1 h1 => Ok.bind (okPick h1.2 (by omega) 30) fun r2 h2 => ?_
  obtain ⟨hd, _⟩ := h1
  have hc2 := h2.2
  have ht := hd.t
  have hkk := hd.k
  have hl := hd.len
  have fin : ∀ {c'}, Cu c' (k + 300 + 2 + 2) → Cu c' (k + 310) := fun hc => hc.mono (by omega) (by omega)
  have setT : ∀ y : Gi_Terrain, TrLen y → RlLen ⟨List.set r1.1.Terrains (Int.toNat 0) y, r1.1.Kinds, r1.1.Stack, r1.1.River, r1.1.Road, r1.1.Supply, r1.1.Turns⟩ := fun y hy => ⟨by simp only [List.length_set]; omega, fun x hx => by
    rcases List.mem_or_eq_of_mem_set hx with hx | rfl
    · exact hl.ts x hx
    · exact hy, hl.k, hl.ks⟩
  refine Ok.ite (fun _ => ?_) fun _ => Ok.ite (fun _ => ?_) fun _ => Ok.ite (fun _ => ?_) fun _ => Ok.ite (fun _ => ?_) fun _ => Ok.ite (fun _ => ?_) fun _ => Ok.ite (fun _ => ?_) fun _ => Ok.ite (fun _ => ?_) fun _ => ?_
  · refine Ok.get (show 0 < r1.1.Terrains.length by omega) fun x hx hm => ?_
    have := hd.ts x hm
    refine Ok.bind (okAmong hc2 (by omega) _ (by decide)) fun r5 h5 => Ok.get (show 0 < x.Cost.length by omega) fun y hy _ => Ok.ret ⟨setT _ ⟨by simp only; omega, by simp only [List.length_set]; omega⟩, by simp only; omega, fin h5.2⟩
  · refine Ok.bind (okOf hc2 (by omega) _ (by decide)) fun r5 h5 => Ok.get (show 0 < r1.1.Terrains.length by omega) fun x hx hm => ?_
    have := hd.ts x hm
    have hs : r5.1.size ≤ 100 := by
      have := h5.1
      simp only [List.mem_cons, List.not_mem_nil, or_false] at this
      rcases this with e | e | e | e | e <;> rw [e] <;> decide
    exact Ok.ret ⟨setT _ ⟨by simp only; omega, by simp only; omega⟩, by simp only; omega, fin h5.2⟩
  · refine Ok.bind (okAmong hc2 (by omega) _ (by decide)) fun r5 h5 => Ok.get (show 0 < r1.1.Kinds.length by omega) fun x hx hm => Ok.ret ⟨⟨hl.t, hl.ts, by simp only [List.length_set]; omega, fun y hy => ?_⟩, by simp only [List.length_set]; omega, fin h5.2⟩
    rcases List.mem_or_eq_of_mem_set hy with hy | rfl
    · exact hl.ks y hy
    · exact hl.ks x hm
  · refine Ok.get (show 0 < r1.1.Kinds.length by omega) fun x hx hm => Ok.chk (by simp; omega) (Ok.ret ⟨⟨hl.t, hl.ts, by simp; omega, fun y hy => ?_⟩, by simp; omega, hc2.mono (by omega) (by omega)⟩)
    rcases List.mem_append.1 hy with hy | hy
    · exact hl.ks y hy
    · rw [List.mem_singleton.1 hy]; exact hl.ks x hm
  · exact Ok.bind (okAmong hc2 (by omega) _ (by decide)) fun r5 h5 => Ok.ret ⟨⟨hl.t, hl.ts, hl.k, hl.ks⟩, by simp only; omega, fin h5.2⟩
  · exact Ok.bind (okAmong hc2 (by omega) _ (by decide)) fun r5 h5 => Ok.ret ⟨⟨hl.t, hl.ts, hl.k, hl.ks⟩, by simp only; omega, fin h5.2⟩
  · refine Ok.bind (okAmong hc2 (by omega) _ (by decide)) fun r5 h5 => Ok.get (show 0 < r1.1.Terrains.length by omega) fun x hx hm => ?_
    have := hd.ts x hm
    exact Ok.ret ⟨setT _ ⟨by simp only; omega, by simp only; omega⟩, by simp only; omega, fin h5.2⟩
  · exact Ok.ret ⟨hl, by simp only; omega, hc2.mono (by omega) (by omega)⟩
theorem okEdges {m : Gi_Map} (hd : MpDim m 10) {c : Gs_l1Cur} {k : Int} (h : Cu c k) (hk : k + 40 ≤ 1099511627776) : Ok (Ds_l1Cur_edges c m) fun r => r.1.length ≤ 100 ∧ Cu r.2 (k + 40) := by
  obtain ⟨l, c', e, h1, h2⟩ := cuEdges hd h hk
  exact ⟨_, e, h2, h1⟩
def mpI (k T W H : Int) : Ss_l1Cur_mapOf → Prop
  | .h1 t i b2 _ _ b5 b6 => t = T ∧ i = 0 ∧ Cu b2 k ∧ b5 = W ∧ b6 = H
  | .h2 t i b2 _ _ b5 b6 l7 => t = T ∧ 1 ≤ i ∧ i ≤ W * H ∧ Cu b2 (k + 4 * i) ∧ b5 = W ∧ b6 = H ∧ (l7.length : Int) = i
def mpM (W H : Int) : Ss_l1Cur_mapOf → Nat
  | .h1 .. => 1000
  | .h2 _ i .. => (W * H - i).toNat
end Go.Proofs.YtakcjcjfcignjaaGreatDoor.Ab
