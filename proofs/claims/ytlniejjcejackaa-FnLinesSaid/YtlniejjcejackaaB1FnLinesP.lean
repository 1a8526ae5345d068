/- Part of the proof of FnLines: no condition of its own. -/
import Derived.Test.YtlniejjcejackaaB1FnLinesD
import Derived.Test.YtlniejjcejackaaPuA
set_option linter.unusedVariables false
set_option linter.unusedSimpArgs false
open Go
namespace Go.Proofs.Ytlniejjcejackaa.Ab
structure Cu (c : Gs_l1Cur) (k : Int) : Prop where
  at0 : 0 ≤ c.at_
  atk : c.at_ ≤ k
  kk : k ≤ 1099511627776
  code : ∀ x ∈ c.code, 0 ≤ x ∧ x < 256
  len : c.code.length ≤ 1048576

theorem Cu.mono {c : Gs_l1Cur} {k k' : Int} (h : Cu c k) (hk : k ≤ k') (hb : k' ≤ 1099511627776) : Cu c k' := ⟨h.at0, by have := h.atk; omega, hb, h.code, h.len⟩

theorem and255 (x : Int) : 0 ≤ IntKind.wrap .i64 (IntKind.wrap .u64 ((BitVec.toNat (BitVec.ofInt (IntKind.bits .u64) x &&& BitVec.ofInt (IntKind.bits .u64) 255) : Nat) : Int)) ∧ IntKind.wrap .i64 (IntKind.wrap .u64 ((BitVec.toNat (BitVec.ofInt (IntKind.bits .u64) x &&& BitVec.ofInt (IntKind.bits .u64) 255) : Nat) : Int)) < 256 := by
  have h : (BitVec.ofInt (IntKind.bits .u64) x &&& BitVec.ofInt (IntKind.bits .u64) 255).toNat ≤ 255 := by
    rw [BitVec.toNat_and]
    have e : (BitVec.ofInt (IntKind.bits .u64) 255).toNat = 255 := by decide
    rw [e]
    exact Nat.and_le_right
  generalize (BitVec.ofInt (IntKind.bits .u64) x &&& BitVec.ofInt (IntKind.bits .u64) 255).toNat = n at h
  have h2 : IntKind.wrap .u64 (n : Int) = (n : Int) := by
    simp only [IntKind.wrap, IntKind.bits, IntKind.signed]
    simp
    omega
  rw [h2, w64 (by omega)]
  omega

theorem cuNext {c : Gs_l1Cur} {k : Int} (h : Cu c k) (hk : k + 1 ≤ 1099511627776) : ∃ v c', Ds_l1Cur_next c = some (v, c') ∧ (0 ≤ v ∧ v < 256) ∧ Cu c' (k + 1) := by
  have h0 := h.at0
  have h1 := h.atk
  have mk : ∀ s, Cu ⟨c.code, c.at_ + 1, s⟩ (k + 1) := fun s => ⟨by simp only; omega, by simp only; omega, hk, h.code, h.len⟩
  unfold Ds_l1Cur_next
  rw [w64 (n := c.at_ + 1) (by omega)]
  by_cases ha : c.at_ < (c.code.length : Int)
  · have hlt : c.at_.toNat < c.code.length := by omega
    have hx := List.getElem?_eq_getElem hlt
    have hv := h.code _ (List.mem_of_getElem? hx)
    rw [if_pos ha, if_pos h0, hx]
    simp only [Option.bind_some]
    split
    · exact ⟨_, _, rfl, by rw [w64 (by omega)]; exact hv, mk _⟩
    · exact ⟨_, _, rfl, and255 _, mk _⟩
  · rw [if_neg ha]
    split
    · exact ⟨_, _, rfl, by omega, mk _⟩
    · exact ⟨_, _, rfl, and255 _, mk _⟩

theorem cuPick {c : Gs_l1Cur} {k : Int} (h : Cu c k) (hk : k + 2 ≤ 1099511627776) (n : Int) : ∃ v c', Ds_l1Cur_pick c n = some (v, c') ∧ (0 ≤ v ∧ (1 ≤ n → v < n) ∧ v ≤ 65535) ∧ Cu c' (k + 2) := by
  unfold Ds_l1Cur_pick
  by_cases h1 : n ≤ 1
  · rw [if_pos h1]
    exact ⟨_, _, rfl, by omega, h.mono (by omega) hk⟩
  · rw [if_neg h1]
    obtain ⟨v, c1, e1, hv, hc1⟩ := cuNext h (by omega)
    rw [e1]
    simp only [Option.bind_some]
    by_cases h2 : n > 200
    · rw [if_pos h2]
      obtain ⟨u, c2, e2, hu, hc2⟩ := cuNext hc1 (by omega)
      rw [e2]
      simp only [Option.bind_some]
      rw [if_pos (by omega), w64 (n := v * 256) (by omega), w64 (by omega)]
      have a1 := Int.tmod_nonneg n (show 0 ≤ v * 256 + u by omega)
      have a2 := Int.tmod_lt_of_pos (v * 256 + u) (show 0 < n by omega)
      have a3 : Int.tmod (v * 256 + u) n ≤ v * 256 + u := by
        have b1 := Int.mul_tdiv_add_tmod (v * 256 + u) n
        have b2 := Int.mul_nonneg (show 0 ≤ n by omega) (Int.tdiv_nonneg (show 0 ≤ v * 256 + u by omega) (show 0 ≤ n by omega))
        omega
      exact ⟨_, _, rfl, ⟨a1, fun _ => a2, by omega⟩, by have := hc2; rw [Int.add_assoc] at this; exact this⟩
    · rw [if_neg h2, if_pos (by omega)]
      have a1 := Int.tmod_nonneg n hv.1
      have a2 := Int.tmod_lt_of_pos v (show 0 < n by omega)
      exact ⟨_, _, rfl, ⟨a1, fun _ => a2, by omega⟩, hc1.mono (by omega) hk⟩

theorem cuOne {c : Gs_l1Cur} {k : Int} (h : Cu c k) (hk : k + 2 ≤ 1099511627776) (n : Int) : ∃ v c', Ds_l1Cur_one c n = some (v, c') ∧ Cu c' (k + 2) := by
  obtain ⟨v, c1, e1, _, hc1⟩ := cuPick h hk n
  unfold Ds_l1Cur_one
  rw [e1]
  exact ⟨_, _, rfl, hc1⟩

theorem cuAmong {c : Gs_l1Cur} {k : Int} (h : Cu c k) (hk : k + 2 ≤ 1099511627776) (l : List Int) (hl : 0 < l.length) : ∃ v c', Ds_l1Cur_among c l = some (v, c') ∧ v ∈ l ∧ Cu c' (k + 2) := by
  obtain ⟨v, c1, e1, hv, hc1⟩ := cuPick h hk l.length
  unfold Ds_l1Cur_among
  rw [e1]
  have hlt : v.toNat < l.length := by have := hv.2.1 (by omega); omega
  have hx := List.getElem?_eq_getElem hlt
  simp only [Option.bind_some]
  rw [if_pos hv.1, hx]
  exact ⟨_, _, rfl, List.mem_of_getElem? hx, hc1⟩

theorem cu0 {code : List Int} (h : ∀ x ∈ code, 0 ≤ x ∧ x < 256) (hl : code.length ≤ 1048576) : Cu ⟨code, 0, 0⟩ 0 := ⟨Int.le_refl _, Int.le_refl _, by decide, h, hl⟩

theorem eBig (a b : List Int) (ha : a.length < 9223372036854775808) (hb : b.length < 9223372036854775808) : Dw_big a b = some (decide (1048576 < a.length + b.length)) := by
  unfold Dw_big
  by_cases h : (a.length : Int) > 1048576
  · rw [if_pos h, decide_eq_true (by omega)]
  · rw [if_neg h, w64 (by omega)]
    congr 1
    by_cases h2 : 1048576 < a.length + b.length
    · rw [decide_eq_true h2]; exact decide_eq_true (by omega)
    · rw [decide_eq_false h2]; exact decide_eq_false (by omega)

/-- The form whose least value says which cells are nearest. -/
def hmet (u v : Int) : Int := u * u + u * v + v * v
def hmAt (q r n : Int) (c : Gi_Hex) : Int := hmet (n * c.Q - q) (n * c.R - r)

def nearStep (m : Gi_Hex → Int) (s : Int × List Gi_Hex) (x : Gi_Hex) : Int × List Gi_Hex :=
  if s.1 < 0 then (m x, [x]) else if m x < s.1 then (m x, [x]) else if m x = s.1 then (s.1, s.2 ++ [x]) else s

theorem nearFold {m : Gi_Hex → Int} {mn : Int} (h0 : 0 ≤ mn) : ∀ (cs : List Gi_Hex) (best : Int) (acc : List Gi_Hex), (best < 0 ∨ mn ≤ best) → (∀ x ∈ cs, mn ≤ m x) → (best = mn ∨ ∃ x ∈ cs, m x = mn) →
    (cs.foldl (nearStep m) (best, acc)).2 = (if best = mn then acc else []) ++ cs.filter (fun x => m x = mn)
  | [], best, acc, h1, h2, h3 => by
    have : best = mn := by
      rcases h3 with h | ⟨x, hx, _⟩
      · exact h
      · cases hx
    simp [this]
  | x :: cs, best, acc, h1, h2, h3 => by
    have hx := h2 x (List.mem_cons_self ..)
    have hr : ∀ y ∈ cs, mn ≤ m y := fun y hy => h2 y (List.mem_cons_of_mem _ hy)
    have h3' : m x = mn ∨ best = mn ∨ ∃ y ∈ cs, m y = mn := by
      rcases h3 with h | ⟨y, hy, he⟩
      · exact .inr (.inl h)
      · cases hy with
        | head => exact .inl he
        | tail _ hy => exact .inr (.inr ⟨y, hy, he⟩)
    rw [List.foldl_cons]
    by_cases c1 : best < 0
    · have e : nearStep m (best, acc) x = (m x, [x]) := by simp [nearStep, c1]
      rw [e, nearFold h0 cs (m x) [x] (.inr hx) hr (by rcases h3' with h | h | h; exact .inl h; omega; exact .inr h)]
      have : ¬ best = mn := by omega
      by_cases c : m x = mn <;> simp [c, this]
    · by_cases c2 : m x < best
      · have e : nearStep m (best, acc) x = (m x, [x]) := by simp [nearStep, c1, c2]
        rw [e, nearFold h0 cs (m x) [x] (.inr hx) hr (by rcases h3' with h | h | h; exact .inl h; omega; exact .inr h)]
        have : ¬ best = mn := by omega
        by_cases c : m x = mn <;> simp [c, this]
      · by_cases c3 : m x = best
        · have e : nearStep m (best, acc) x = (best, acc ++ [x]) := by simp [nearStep, c1, c3]
          rw [e, nearFold h0 cs best (acc ++ [x]) (.inr (c3 ▸ hx)) hr (by rcases h3' with h | h | h; exact .inl (c3.symm.trans h); exact .inl h; exact .inr h)]
          by_cases c : best = mn <;> simp [c, c3]
        · have e : nearStep m (best, acc) x = (best, acc) := by simp [nearStep, c1, c2, c3]
          have hb : mn ≤ best := by
            rcases h1 with h | h
            · exact absurd h c1
            · exact h
          have : ¬ m x = mn := by
            clear h3 h3'
            omega
          rw [e, nearFold h0 cs best acc (.inr hb) hr (by rcases h3' with h | h | h; exact absurd h this; exact .inl h; exact .inr h)]
          simp [this]

theorem mulb {a b A B : Int} (ha : -A ≤ a ∧ a ≤ A) (hb : -B ≤ b ∧ b ≤ B) : -(A * B) ≤ a * b ∧ a * b ≤ A * B := by
  have h1 : a.natAbs ≤ A.natAbs := by omega
  have h2 : b.natAbs ≤ B.natAbs := by omega
  have h3 := Nat.mul_le_mul h1 h2
  rw [← Int.natAbs_mul, ← Int.natAbs_mul] at h3
  have : 0 ≤ A * B := Int.mul_nonneg (by omega) (by omega)
  omega

theorem wmet {q r n x y : Int} (hn : -200 ≤ n ∧ n ≤ 200) (hq : -1000000 ≤ q ∧ q ≤ 1000000) (hr : -1000000 ≤ r ∧ r ≤ 1000000) (hx : -1000000 ≤ x ∧ x ≤ 1000000) (hy : -1000000 ≤ y ∧ y ≤ 1000000) :
    (IntKind.wrap .i64 ((IntKind.wrap .i64 ((IntKind.wrap .i64 ((IntKind.wrap .i64 ((IntKind.wrap .i64 (n * x)) - q)) * (IntKind.wrap .i64 ((IntKind.wrap .i64 (n * x)) - q)))) + (IntKind.wrap .i64 ((IntKind.wrap .i64 ((IntKind.wrap .i64 (n * x)) - q)) * (IntKind.wrap .i64 ((IntKind.wrap .i64 (n * y)) - r)))))) + (IntKind.wrap .i64 ((IntKind.wrap .i64 ((IntKind.wrap .i64 (n * y)) - r)) * (IntKind.wrap .i64 ((IntKind.wrap .i64 (n * y)) - r)))))) = hmAt q r n ⟨x, y⟩ := by
  have h1 := mulb hn hx
  have h2 := mulb hn hy
  rw [w64 (n := n * x) (by omega), w64 (n := n * y) (by omega), w64 (n := n * x - q) (by omega), w64 (n := n * y - r) (by omega)]
  have hu : -300000000 ≤ n * x - q ∧ n * x - q ≤ 300000000 := by omega
  have hv : -300000000 ≤ n * y - r ∧ n * y - r ≤ 300000000 := by omega
  have h3 := mulb hu hu
  have h4 := mulb hu hv
  have h5 := mulb hv hv
  rw [w64 (n := (n * x - q) * (n * x - q)) (by omega), w64 (n := (n * x - q) * (n * y - r)) (by omega), w64 (n := (n * y - r) * (n * y - r)) (by omega), w64 (n := (n * x - q) * (n * x - q) + (n * x - q) * (n * y - r)) (by omega), w64 (by omega)]
  rfl

theorem near_in {q r n g : Int} (hg : Di_floorDiv r n = some g) (hn : -200 ≤ n ∧ n ≤ 200) (hq : -1000000 ≤ q ∧ q ≤ 1000000) (hr : -1000000 ≤ r ∧ r ≤ 1000000) (hG : -100000 ≤ g ∧ g ≤ 100000)
    {x y : Int} (hx : -200000 ≤ x ∧ x ≤ 200000) (hy : -200000 ≤ y ∧ y ≤ g + 2) {best : Int} {acc : List Gi_Hex} (ha : acc.length ≤ 1000) :
    loop Bi_nearestTo (.h2 q r n best x y acc) = loop Bi_nearestTo (.h2 q r n (nearStep (hmAt q r n) (best, acc) ⟨x, y⟩).1 x (y + 1) (nearStep (hmAt q r n) (best, acc) ⟨x, y⟩).2) := by
  rw [loop_eq]
  have e := wmet hn hq hr (x := x) (y := y) (by omega) (by omega)
  simp only [Bi_nearestTo, hg, Option.bind_some, e, w64 (n := g + 2) (by omega), w64 (n := y + 1) (by omega), hy.2, if_true]
  have l1 : ((acc ++ [Gi_Hex.mk x y]).length * 16 ≤ 70368744177664) := by
    rw [List.length_append, List.length_singleton]
    omega
  have l2 : (0 : Int) ≤ ((acc.length : Nat) : Int) := by omega
  unfold nearStep
  by_cases c1 : best < 0
  · simp [c1, goOn]
  · by_cases c2 : hmAt q r n ⟨x, y⟩ < best
    · simp [c1, c2, goOn]
    · by_cases c3 : hmAt q r n ⟨x, y⟩ = best
      · simp only [List.length_append, List.length_singleton] at l1
        simp [c1, c3, l1, goOn]
      · simp [c1, c2, c3, goOn]

theorem nearStep_len (m : Gi_Hex → Int) (s : Int × List Gi_Hex) (x : Gi_Hex) : (nearStep m s x).2.length ≤ s.2.length + 1 := by
  unfold nearStep
  split
  · simp
  · split
    · simp
    · split <;> simp

theorem near_row {q r n g : Int} (hg : Di_floorDiv r n = some g) (hn : -200 ≤ n ∧ n ≤ 200) (hq : -1000000 ≤ q ∧ q ≤ 1000000) (hr : -1000000 ≤ r ∧ r ≤ 1000000) (hG : -100000 ≤ g ∧ g ≤ 100000)
    {x : Int} (hx : -200000 ≤ x ∧ x ≤ 200000) (s : Int × List Gi_Hex) (ha : s.2.length ≤ 900) :
    loop Bi_nearestTo (.h2 q r n s.1 x (g - 1) s.2) = loop Bi_nearestTo (.h1 q r n ([⟨x, g - 1⟩, ⟨x, g⟩, ⟨x, g + 1⟩, ⟨x, g + 2⟩].foldl (nearStep (hmAt q r n)) s).1 (x + 1) ([⟨x, g - 1⟩, ⟨x, g⟩, ⟨x, g + 1⟩, ⟨x, g + 2⟩].foldl (nearStep (hmAt q r n)) s).2) := by
  simp only [List.foldl_cons, List.foldl_nil]
  rw [near_in hg hn hq hr hG hx (by omega) (by omega)]
  have l1 := nearStep_len (hmAt q r n) s ⟨x, g - 1⟩
  generalize nearStep (hmAt q r n) s ⟨x, g - 1⟩ = s1 at *
  rw [near_in hg hn hq hr hG hx (by omega) (by omega)]
  rw [show g - 1 + 1 = g by omega]
  have l2 := nearStep_len (hmAt q r n) s1 ⟨x, g⟩
  generalize nearStep (hmAt q r n) s1 ⟨x, g⟩ = s2 at *
  rw [near_in hg hn hq hr hG hx (by omega) (by omega)]
  have l3 := nearStep_len (hmAt q r n) s2 ⟨x, g + 1⟩
  generalize nearStep (hmAt q r n) s2 ⟨x, g + 1⟩ = s3 at *
  rw [near_in hg hn hq hr hG hx (by omega) (by omega)]
  rw [show g + 1 + 1 = g + 2 by omega]
  have l4 := nearStep_len (hmAt q r n) s3 ⟨x, g + 2⟩
  generalize nearStep (hmAt q r n) s3 ⟨x, g + 2⟩ = s4 at *
  rw [loop_eq]
  have : ¬ g + 2 + 1 ≤ g + 2 := by omega
  simp only [Bi_nearestTo, hg, Option.bind_some, w64 (n := g + 2) (by omega), w64 (n := x + 1) (by omega), this, if_false, goOn]

/-- The sixteen cells looked at, in order. -/
def cells16 (f g : Int) : List Gi_Hex :=
  [⟨f - 1, g - 1⟩, ⟨f - 1, g⟩, ⟨f - 1, g + 1⟩, ⟨f - 1, g + 2⟩, ⟨f, g - 1⟩, ⟨f, g⟩, ⟨f, g + 1⟩, ⟨f, g + 2⟩, ⟨f + 1, g - 1⟩, ⟨f + 1, g⟩, ⟨f + 1, g + 1⟩, ⟨f + 1, g + 2⟩, ⟨f + 2, g - 1⟩, ⟨f + 2, g⟩, ⟨f + 2, g + 1⟩, ⟨f + 2, g + 2⟩]

theorem nearFold_len (m : Gi_Hex → Int) : ∀ (l : List Gi_Hex) (s : Int × List Gi_Hex), (l.foldl (nearStep m) s).2.length ≤ s.2.length + l.length
  | [], s => by simp
  | x :: l, s => by
    have h1 := nearFold_len m l (nearStep m s x)
    have h2 := nearStep_len m s x
    simp only [List.foldl_cons, List.length_cons]
    omega

theorem near_row1 {q r n f g : Int} (hf : Di_floorDiv q n = some f) (hg : Di_floorDiv r n = some g) (hn : -200 ≤ n ∧ n ≤ 200) (hq : -1000000 ≤ q ∧ q ≤ 1000000) (hr : -1000000 ≤ r ∧ r ≤ 1000000) (hF : -100000 ≤ f ∧ f ≤ 100000) (hG : -100000 ≤ g ∧ g ≤ 100000)
    {x : Int} (hx : -200000 ≤ x ∧ x ≤ f + 2) (s : Int × List Gi_Hex) (ha : s.2.length ≤ 900) :
    loop Bi_nearestTo (.h1 q r n s.1 x s.2) = loop Bi_nearestTo (.h1 q r n ([⟨x, g - 1⟩, ⟨x, g⟩, ⟨x, g + 1⟩, ⟨x, g + 2⟩].foldl (nearStep (hmAt q r n)) s).1 (x + 1) ([⟨x, g - 1⟩, ⟨x, g⟩, ⟨x, g + 1⟩, ⟨x, g + 2⟩].foldl (nearStep (hmAt q r n)) s).2) := by
  rw [← near_row hg hn hq hr hG (by omega) s ha, loop_eq]
  simp only [Bi_nearestTo, hf, hg, Option.bind_some, w64 (n := f + 2) (by omega), w64 (n := g - 1) (by omega), hx.2, if_true, goOn]

theorem near_all {q r n f g : Int} (hf : Di_floorDiv q n = some f) (hg : Di_floorDiv r n = some g) (hn : -200 ≤ n ∧ n ≤ 200) (hq : -1000000 ≤ q ∧ q ≤ 1000000) (hr : -1000000 ≤ r ∧ r ≤ 1000000) (hF : -100000 ≤ f ∧ f ≤ 100000) (hG : -100000 ≤ g ∧ g ≤ 100000) :
    Di_nearestTo q r n = some ((cells16 f g).foldl (nearStep (hmAt q r n)) (-1, [])).2 := by
  have e : cells16 f g = [⟨f - 1, g - 1⟩, ⟨f - 1, g⟩, ⟨f - 1, g + 1⟩, ⟨f - 1, g + 2⟩] ++ ([⟨f, g - 1⟩, ⟨f, g⟩, ⟨f, g + 1⟩, ⟨f, g + 2⟩] ++ ([⟨f + 1, g - 1⟩, ⟨f + 1, g⟩, ⟨f + 1, g + 1⟩, ⟨f + 1, g + 2⟩] ++ [⟨f + 2, g - 1⟩, ⟨f + 2, g⟩, ⟨f + 2, g + 1⟩, ⟨f + 2, g + 2⟩])) := rfl
  rw [e, List.foldl_append, List.foldl_append, List.foldl_append]
  unfold Di_nearestTo
  simp only [hf, Option.bind_some, w64 (n := f - 1) (by omega)]
  have r1 := near_row1 hf hg hn hq hr hF hG (x := f - 1) (by omega) (-1, []) (by simp)
  rw [show f - 1 + 1 = f by omega] at r1
  simp only at r1
  rw [r1]
  have l1 := nearFold_len (hmAt q r n) [⟨f - 1, g - 1⟩, ⟨f - 1, g⟩, ⟨f - 1, g + 1⟩, ⟨f - 1, g + 2⟩] (-1, [])
  simp only [List.length_cons, List.length_nil] at l1
  generalize List.foldl (nearStep (hmAt q r n)) (-1, []) [⟨f - 1, g - 1⟩, ⟨f - 1, g⟩, ⟨f - 1, g + 1⟩, ⟨f - 1, g + 2⟩] = s1 at *
  rw [near_row1 hf hg hn hq hr hF hG (x := f) (by omega) s1 (by omega)]
  have l2 := nearFold_len (hmAt q r n) [⟨f, g - 1⟩, ⟨f, g⟩, ⟨f, g + 1⟩, ⟨f, g + 2⟩] s1
  simp only [List.length_cons, List.length_nil] at l2
  generalize List.foldl (nearStep (hmAt q r n)) s1 [⟨f, g - 1⟩, ⟨f, g⟩, ⟨f, g + 1⟩, ⟨f, g + 2⟩] = s2 at *
  rw [near_row1 hf hg hn hq hr hF hG (x := f + 1) (by omega) s2 (by omega)]
  have l3 := nearFold_len (hmAt q r n) [⟨f + 1, g - 1⟩, ⟨f + 1, g⟩, ⟨f + 1, g + 1⟩, ⟨f + 1, g + 2⟩] s2
  simp only [List.length_cons, List.length_nil] at l3
  generalize List.foldl (nearStep (hmAt q r n)) s2 [⟨f + 1, g - 1⟩, ⟨f + 1, g⟩, ⟨f + 1, g + 1⟩, ⟨f + 1, g + 2⟩] = s3 at *
  rw [show f + 1 + 1 = f + 2 by omega, near_row1 hf hg hn hq hr hF hG (x := f + 2) (by omega) s3 (by omega)]
  rw [loop_eq]
  have : ¬ f + 2 + 1 ≤ f + 2 := by omega
  simp only [Bi_nearestTo, hf, Option.bind_some, w64 (n := f + 2) (by omega), this, if_false, goOn]

/-- Floor division: quotient and rest. -/
theorem floorDiv_ok {q n : Int} (hn : 0 < n ∧ n ≤ 200) (hq : -1000000 ≤ q ∧ q ≤ 1000000) :
    Di_floorDiv q n = some (q / n) := by
  unfold Di_floorDiv
  have h1 := Int.mul_tdiv_add_tmod q n
  have h2 := Int.mul_ediv_add_emod q n
  have h3 := Int.emod_nonneg q (b := n) (by omega)
  have h4 := Int.emod_lt_of_pos q hn.1
  have h5 := mulb (a := n) (b := q.tdiv n) (A := 200) (B := 1000000)
  have hb : -1000000 ≤ q.tdiv n ∧ q.tdiv n ≤ 1000000 := by
    have : (q.tdiv n).natAbs ≤ q.natAbs := by
      rw [Int.natAbs_tdiv]
      exact Nat.div_le_self ..
    omega
  rw [if_pos (by omega), if_pos (by omega), w64 (n := q.tdiv n) (by omega), w64 (n := q.tdiv n - 1) (by omega), Int.tdiv_eq_ediv, Int.tmod_eq_emod]
  have e1 : n.sign = 1 := Int.sign_eq_one_of_pos hn.1
  have e2 : (n.natAbs : Int) = n := by omega
  by_cases c : 0 ≤ q ∨ n ∣ q
  · simp only [c, if_true]
    rw [if_neg (by omega)]
    simp
  · simp only [c, if_false, e1, e2]
    rw [if_pos (by omega)]
    congr 1
    omega

theorem nearA1 {n f g b : Int} (hn : 0 < n ∧ n ≤ 200) (hb : 0 ≤ b ∧ b < n) (h : 2 * b < n) :
    ((cells16 f g).foldl (nearStep (hmAt (n * f) (n * g + b) n)) (-1, [])).2 = [⟨f, g⟩] := by
  have m0 : hmAt (n * f) (n * g + b) n ⟨f - 1, g - 1⟩ = 3 * (n * n) - (-3) * (n * b) + b * b := by
    simp only [hmAt, hmet]
    grind
  have m1 : hmAt (n * f) (n * g + b) n ⟨f - 1, g⟩ = 1 * (n * n) - (-1) * (n * b) + b * b := by
    simp only [hmAt, hmet]
    grind
  have m2 : hmAt (n * f) (n * g + b) n ⟨f - 1, g + 1⟩ = 1 * (n * n) - 1 * (n * b) + b * b := by
    simp only [hmAt, hmet]
    grind
  have m3 : hmAt (n * f) (n * g + b) n ⟨f - 1, g + 2⟩ = 3 * (n * n) - 3 * (n * b) + b * b := by
    simp only [hmAt, hmet]
    grind
  have m4 : hmAt (n * f) (n * g + b) n ⟨f, g - 1⟩ = 1 * (n * n) - (-2) * (n * b) + b * b := by
    simp only [hmAt, hmet]
    grind
  have m5 : hmAt (n * f) (n * g + b) n ⟨f, g⟩ = 0 * (n * n) - 0 * (n * b) + b * b := by
    simp only [hmAt, hmet]
    grind
  have m6 : hmAt (n * f) (n * g + b) n ⟨f, g + 1⟩ = 1 * (n * n) - 2 * (n * b) + b * b := by
    simp only [hmAt, hmet]
    grind
  have m7 : hmAt (n * f) (n * g + b) n ⟨f, g + 2⟩ = 4 * (n * n) - 4 * (n * b) + b * b := by
    simp only [hmAt, hmet]
    grind
  have m8 : hmAt (n * f) (n * g + b) n ⟨f + 1, g - 1⟩ = 1 * (n * n) - (-1) * (n * b) + b * b := by
    simp only [hmAt, hmet]
    grind
  have m9 : hmAt (n * f) (n * g + b) n ⟨f + 1, g⟩ = 1 * (n * n) - 1 * (n * b) + b * b := by
    simp only [hmAt, hmet]
    grind
  have m10 : hmAt (n * f) (n * g + b) n ⟨f + 1, g + 1⟩ = 3 * (n * n) - 3 * (n * b) + b * b := by
    simp only [hmAt, hmet]
    grind
  have m11 : hmAt (n * f) (n * g + b) n ⟨f + 1, g + 2⟩ = 7 * (n * n) - 5 * (n * b) + b * b := by
    simp only [hmAt, hmet]
    grind
  have m12 : hmAt (n * f) (n * g + b) n ⟨f + 2, g - 1⟩ = 3 * (n * n) - 0 * (n * b) + b * b := by
    simp only [hmAt, hmet]
    grind
  have m13 : hmAt (n * f) (n * g + b) n ⟨f + 2, g⟩ = 4 * (n * n) - 2 * (n * b) + b * b := by
    simp only [hmAt, hmet]
    grind
  have m14 : hmAt (n * f) (n * g + b) n ⟨f + 2, g + 1⟩ = 7 * (n * n) - 4 * (n * b) + b * b := by
    simp only [hmAt, hmet]
    grind
  have m15 : hmAt (n * f) (n * g + b) n ⟨f + 2, g + 2⟩ = 12 * (n * n) - 6 * (n * b) + b * b := by
    simp only [hmAt, hmet]
    grind
  have p1 := Int.mul_pos hn.1 (show 0 < n - 2 * b by omega)
  have p2 := Int.mul_nonneg hb.1 (show 0 ≤ n - 2 * b by omega)
  have p3 := Int.mul_pos hn.1 (show 0 < n - b by omega)
  have p4 := Int.mul_nonneg hb.1 (show 0 ≤ n - b by omega)
  have p5 := Int.mul_nonneg hb.1 hb.1
  have p6 := Int.mul_nonneg (show 0 ≤ n - b by omega) (show 0 ≤ n - b by omega)
  have p7 := Int.mul_pos hn.1 hn.1
  simp only [Int.mul_sub, Int.sub_mul, Int.mul_comm b n, Int.mul_comm b (2 * n), ← Int.mul_assoc, Int.mul_comm n 2, Int.mul_comm b 2] at p1 p2 p3 p4 p5 p6 p7
  simp only [Int.mul_assoc, Int.mul_comm b n] at p1 p2 p3 p4 p5 p6 p7
  generalize n * n = P at *
  generalize n * b = X at *
  generalize b * b = Y at *
  rw [nearFold (mn := Y) (by clear m0 m1 m2 m3 m4 m5 m6 m7 m8 m9 m10 m11 m12 m13 m14 m15; omega) (cells16 f g) (-1) [] (.inl (by decide)) (by
    intro x hx
    simp only [cells16, List.mem_cons, List.not_mem_nil, or_false] at hx
    rcases hx with rfl | rfl | rfl | rfl | rfl | rfl | rfl | rfl | rfl | rfl | rfl | rfl | rfl | rfl | rfl | rfl
    · rw [m0]; clear m0 m1 m2 m3 m4 m5 m6 m7 m8 m9 m10 m11 m12 m13 m14 m15; omega
    · rw [m1]; clear m0 m1 m2 m3 m4 m5 m6 m7 m8 m9 m10 m11 m12 m13 m14 m15; omega
    · rw [m2]; clear m0 m1 m2 m3 m4 m5 m6 m7 m8 m9 m10 m11 m12 m13 m14 m15; omega
    · rw [m3]; clear m0 m1 m2 m3 m4 m5 m6 m7 m8 m9 m10 m11 m12 m13 m14 m15; omega
    · rw [m4]; clear m0 m1 m2 m3 m4 m5 m6 m7 m8 m9 m10 m11 m12 m13 m14 m15; omega
    · rw [m5]; clear m0 m1 m2 m3 m4 m5 m6 m7 m8 m9 m10 m11 m12 m13 m14 m15; omega
    · rw [m6]; clear m0 m1 m2 m3 m4 m5 m6 m7 m8 m9 m10 m11 m12 m13 m14 m15; omega
    · rw [m7]; clear m0 m1 m2 m3 m4 m5 m6 m7 m8 m9 m10 m11 m12 m13 m14 m15; omega
    · rw [m8]; clear m0 m1 m2 m3 m4 m5 m6 m7 m8 m9 m10 m11 m12 m13 m14 m15; omega
    · rw [m9]; clear m0 m1 m2 m3 m4 m5 m6 m7 m8 m9 m10 m11 m12 m13 m14 m15; omega
    · rw [m10]; clear m0 m1 m2 m3 m4 m5 m6 m7 m8 m9 m10 m11 m12 m13 m14 m15; omega
    · rw [m11]; clear m0 m1 m2 m3 m4 m5 m6 m7 m8 m9 m10 m11 m12 m13 m14 m15; omega
    · rw [m12]; clear m0 m1 m2 m3 m4 m5 m6 m7 m8 m9 m10 m11 m12 m13 m14 m15; omega
    · rw [m13]; clear m0 m1 m2 m3 m4 m5 m6 m7 m8 m9 m10 m11 m12 m13 m14 m15; omega
    · rw [m14]; clear m0 m1 m2 m3 m4 m5 m6 m7 m8 m9 m10 m11 m12 m13 m14 m15; omega
    · rw [m15]; clear m0 m1 m2 m3 m4 m5 m6 m7 m8 m9 m10 m11 m12 m13 m14 m15; omega
    ) (.inr ⟨⟨f, g⟩, by simp [cells16], by rw [m5]; clear m0 m1 m2 m3 m4 m5 m6 m7 m8 m9 m10 m11 m12 m13 m14 m15; omega⟩)]
  rw [if_neg (by clear m0 m1 m2 m3 m4 m5 m6 m7 m8 m9 m10 m11 m12 m13 m14 m15; omega), List.nil_append, cells16]
  rw [List.filter_cons_of_neg (by simp only [decide_eq_true_eq, m0]; clear m0 m1 m2 m3 m4 m5 m6 m7 m8 m9 m10 m11 m12 m13 m14 m15; omega)]
  rw [List.filter_cons_of_neg (by simp only [decide_eq_true_eq, m1]; clear m0 m1 m2 m3 m4 m5 m6 m7 m8 m9 m10 m11 m12 m13 m14 m15; omega)]
  rw [List.filter_cons_of_neg (by simp only [decide_eq_true_eq, m2]; clear m0 m1 m2 m3 m4 m5 m6 m7 m8 m9 m10 m11 m12 m13 m14 m15; omega)]
  rw [List.filter_cons_of_neg (by simp only [decide_eq_true_eq, m3]; clear m0 m1 m2 m3 m4 m5 m6 m7 m8 m9 m10 m11 m12 m13 m14 m15; omega)]
  rw [List.filter_cons_of_neg (by simp only [decide_eq_true_eq, m4]; clear m0 m1 m2 m3 m4 m5 m6 m7 m8 m9 m10 m11 m12 m13 m14 m15; omega)]
  rw [List.filter_cons_of_pos (by simp only [decide_eq_true_eq, m5]; clear m0 m1 m2 m3 m4 m5 m6 m7 m8 m9 m10 m11 m12 m13 m14 m15; omega)]
  rw [List.filter_cons_of_neg (by simp only [decide_eq_true_eq, m6]; clear m0 m1 m2 m3 m4 m5 m6 m7 m8 m9 m10 m11 m12 m13 m14 m15; omega)]
  rw [List.filter_cons_of_neg (by simp only [decide_eq_true_eq, m7]; clear m0 m1 m2 m3 m4 m5 m6 m7 m8 m9 m10 m11 m12 m13 m14 m15; omega)]
  rw [List.filter_cons_of_neg (by simp only [decide_eq_true_eq, m8]; clear m0 m1 m2 m3 m4 m5 m6 m7 m8 m9 m10 m11 m12 m13 m14 m15; omega)]
  rw [List.filter_cons_of_neg (by simp only [decide_eq_true_eq, m9]; clear m0 m1 m2 m3 m4 m5 m6 m7 m8 m9 m10 m11 m12 m13 m14 m15; omega)]
  rw [List.filter_cons_of_neg (by simp only [decide_eq_true_eq, m10]; clear m0 m1 m2 m3 m4 m5 m6 m7 m8 m9 m10 m11 m12 m13 m14 m15; omega)]
  rw [List.filter_cons_of_neg (by simp only [decide_eq_true_eq, m11]; clear m0 m1 m2 m3 m4 m5 m6 m7 m8 m9 m10 m11 m12 m13 m14 m15; omega)]
  rw [List.filter_cons_of_neg (by simp only [decide_eq_true_eq, m12]; clear m0 m1 m2 m3 m4 m5 m6 m7 m8 m9 m10 m11 m12 m13 m14 m15; omega)]
  rw [List.filter_cons_of_neg (by simp only [decide_eq_true_eq, m13]; clear m0 m1 m2 m3 m4 m5 m6 m7 m8 m9 m10 m11 m12 m13 m14 m15; omega)]
  rw [List.filter_cons_of_neg (by simp only [decide_eq_true_eq, m14]; clear m0 m1 m2 m3 m4 m5 m6 m7 m8 m9 m10 m11 m12 m13 m14 m15; omega)]
  rw [List.filter_cons_of_neg (by simp only [decide_eq_true_eq, m15]; clear m0 m1 m2 m3 m4 m5 m6 m7 m8 m9 m10 m11 m12 m13 m14 m15; omega)]
  rfl

theorem nearA2 {n f g b : Int} (hn : 0 < n ∧ n ≤ 200) (hb : 0 ≤ b ∧ b < n) (h : n < 2 * b) :
    ((cells16 f g).foldl (nearStep (hmAt (n * f) (n * g + b) n)) (-1, [])).2 = [⟨f, g + 1⟩] := by
  have m0 : hmAt (n * f) (n * g + b) n ⟨f - 1, g - 1⟩ = 3 * (n * n) - (-3) * (n * b) + b * b := by
    simp only [hmAt, hmet]
    grind
  have m1 : hmAt (n * f) (n * g + b) n ⟨f - 1, g⟩ = 1 * (n * n) - (-1) * (n * b) + b * b := by
    simp only [hmAt, hmet]
    grind
  have m2 : hmAt (n * f) (n * g + b) n ⟨f - 1, g + 1⟩ = 1 * (n * n) - 1 * (n * b) + b * b := by
    simp only [hmAt, hmet]
    grind
  have m3 : hmAt (n * f) (n * g + b) n ⟨f - 1, g + 2⟩ = 3 * (n * n) - 3 * (n * b) + b * b := by
    simp only [hmAt, hmet]
    grind
  have m4 : hmAt (n * f) (n * g + b) n ⟨f, g - 1⟩ = 1 * (n * n) - (-2) * (n * b) + b * b := by
    simp only [hmAt, hmet]
    grind
  have m5 : hmAt (n * f) (n * g + b) n ⟨f, g⟩ = 0 * (n * n) - 0 * (n * b) + b * b := by
    simp only [hmAt, hmet]
    grind
  have m6 : hmAt (n * f) (n * g + b) n ⟨f, g + 1⟩ = 1 * (n * n) - 2 * (n * b) + b * b := by
    simp only [hmAt, hmet]
    grind
  have m7 : hmAt (n * f) (n * g + b) n ⟨f, g + 2⟩ = 4 * (n * n) - 4 * (n * b) + b * b := by
    simp only [hmAt, hmet]
    grind
  have m8 : hmAt (n * f) (n * g + b) n ⟨f + 1, g - 1⟩ = 1 * (n * n) - (-1) * (n * b) + b * b := by
    simp only [hmAt, hmet]
    grind
  have m9 : hmAt (n * f) (n * g + b) n ⟨f + 1, g⟩ = 1 * (n * n) - 1 * (n * b) + b * b := by
    simp only [hmAt, hmet]
    grind
  have m10 : hmAt (n * f) (n * g + b) n ⟨f + 1, g + 1⟩ = 3 * (n * n) - 3 * (n * b) + b * b := by
    simp only [hmAt, hmet]
    grind
  have m11 : hmAt (n * f) (n * g + b) n ⟨f + 1, g + 2⟩ = 7 * (n * n) - 5 * (n * b) + b * b := by
    simp only [hmAt, hmet]
    grind
  have m12 : hmAt (n * f) (n * g + b) n ⟨f + 2, g - 1⟩ = 3 * (n * n) - 0 * (n * b) + b * b := by
    simp only [hmAt, hmet]
    grind
  have m13 : hmAt (n * f) (n * g + b) n ⟨f + 2, g⟩ = 4 * (n * n) - 2 * (n * b) + b * b := by
    simp only [hmAt, hmet]
    grind
  have m14 : hmAt (n * f) (n * g + b) n ⟨f + 2, g + 1⟩ = 7 * (n * n) - 4 * (n * b) + b * b := by
    simp only [hmAt, hmet]
    grind
  have m15 : hmAt (n * f) (n * g + b) n ⟨f + 2, g + 2⟩ = 12 * (n * n) - 6 * (n * b) + b * b := by
    simp only [hmAt, hmet]
    grind
  have p1 := Int.mul_pos hn.1 (show 0 < 2 * b - n by omega)
  have p2 := Int.mul_nonneg (show 0 ≤ n - b by omega) (show 0 ≤ 2 * b - n by omega)
  have p3 := Int.mul_pos hn.1 (show 0 < n - b by omega)
  have p4 := Int.mul_nonneg hb.1 (show 0 ≤ n - b by omega)
  have p5 := Int.mul_nonneg hb.1 hb.1
  have p6 := Int.mul_nonneg (show 0 ≤ n - b by omega) (show 0 ≤ n - b by omega)
  have p7 := Int.mul_pos hn.1 hn.1
  simp only [Int.mul_sub, Int.sub_mul, Int.mul_comm b n, Int.mul_comm b (2 * n), ← Int.mul_assoc, Int.mul_comm n 2, Int.mul_comm b 2] at p1 p2 p3 p4 p5 p6 p7
  simp only [Int.mul_assoc, Int.mul_comm b n] at p1 p2 p3 p4 p5 p6 p7
  generalize n * n = P at *
  generalize n * b = X at *
  generalize b * b = Y at *
  rw [nearFold (mn := P - 2 * (X) + Y) (by clear m0 m1 m2 m3 m4 m5 m6 m7 m8 m9 m10 m11 m12 m13 m14 m15; omega) (cells16 f g) (-1) [] (.inl (by decide)) (by
    intro x hx
    simp only [cells16, List.mem_cons, List.not_mem_nil, or_false] at hx
    rcases hx with rfl | rfl | rfl | rfl | rfl | rfl | rfl | rfl | rfl | rfl | rfl | rfl | rfl | rfl | rfl | rfl
    · rw [m0]; clear m0 m1 m2 m3 m4 m5 m6 m7 m8 m9 m10 m11 m12 m13 m14 m15; omega
    · rw [m1]; clear m0 m1 m2 m3 m4 m5 m6 m7 m8 m9 m10 m11 m12 m13 m14 m15; omega
    · rw [m2]; clear m0 m1 m2 m3 m4 m5 m6 m7 m8 m9 m10 m11 m12 m13 m14 m15; omega
    · rw [m3]; clear m0 m1 m2 m3 m4 m5 m6 m7 m8 m9 m10 m11 m12 m13 m14 m15; omega
    · rw [m4]; clear m0 m1 m2 m3 m4 m5 m6 m7 m8 m9 m10 m11 m12 m13 m14 m15; omega
    · rw [m5]; clear m0 m1 m2 m3 m4 m5 m6 m7 m8 m9 m10 m11 m12 m13 m14 m15; omega
    · rw [m6]; clear m0 m1 m2 m3 m4 m5 m6 m7 m8 m9 m10 m11 m12 m13 m14 m15; omega
    · rw [m7]; clear m0 m1 m2 m3 m4 m5 m6 m7 m8 m9 m10 m11 m12 m13 m14 m15; omega
    · rw [m8]; clear m0 m1 m2 m3 m4 m5 m6 m7 m8 m9 m10 m11 m12 m13 m14 m15; omega
    · rw [m9]; clear m0 m1 m2 m3 m4 m5 m6 m7 m8 m9 m10 m11 m12 m13 m14 m15; omega
    · rw [m10]; clear m0 m1 m2 m3 m4 m5 m6 m7 m8 m9 m10 m11 m12 m13 m14 m15; omega
    · rw [m11]; clear m0 m1 m2 m3 m4 m5 m6 m7 m8 m9 m10 m11 m12 m13 m14 m15; omega
    · rw [m12]; clear m0 m1 m2 m3 m4 m5 m6 m7 m8 m9 m10 m11 m12 m13 m14 m15; omega
    · rw [m13]; clear m0 m1 m2 m3 m4 m5 m6 m7 m8 m9 m10 m11 m12 m13 m14 m15; omega
    · rw [m14]; clear m0 m1 m2 m3 m4 m5 m6 m7 m8 m9 m10 m11 m12 m13 m14 m15; omega
    · rw [m15]; clear m0 m1 m2 m3 m4 m5 m6 m7 m8 m9 m10 m11 m12 m13 m14 m15; omega
    ) (.inr ⟨⟨f, g + 1⟩, by simp [cells16], by rw [m6]; clear m0 m1 m2 m3 m4 m5 m6 m7 m8 m9 m10 m11 m12 m13 m14 m15; omega⟩)]
  rw [if_neg (by clear m0 m1 m2 m3 m4 m5 m6 m7 m8 m9 m10 m11 m12 m13 m14 m15; omega), List.nil_append, cells16]
  rw [List.filter_cons_of_neg (by simp only [decide_eq_true_eq, m0]; clear m0 m1 m2 m3 m4 m5 m6 m7 m8 m9 m10 m11 m12 m13 m14 m15; omega)]
  rw [List.filter_cons_of_neg (by simp only [decide_eq_true_eq, m1]; clear m0 m1 m2 m3 m4 m5 m6 m7 m8 m9 m10 m11 m12 m13 m14 m15; omega)]
  rw [List.filter_cons_of_neg (by simp only [decide_eq_true_eq, m2]; clear m0 m1 m2 m3 m4 m5 m6 m7 m8 m9 m10 m11 m12 m13 m14 m15; omega)]
  rw [List.filter_cons_of_neg (by simp only [decide_eq_true_eq, m3]; clear m0 m1 m2 m3 m4 m5 m6 m7 m8 m9 m10 m11 m12 m13 m14 m15; omega)]
  rw [List.filter_cons_of_neg (by simp only [decide_eq_true_eq, m4]; clear m0 m1 m2 m3 m4 m5 m6 m7 m8 m9 m10 m11 m12 m13 m14 m15; omega)]
  rw [List.filter_cons_of_neg (by simp only [decide_eq_true_eq, m5]; clear m0 m1 m2 m3 m4 m5 m6 m7 m8 m9 m10 m11 m12 m13 m14 m15; omega)]
  rw [List.filter_cons_of_pos (by simp only [decide_eq_true_eq, m6]; clear m0 m1 m2 m3 m4 m5 m6 m7 m8 m9 m10 m11 m12 m13 m14 m15; omega)]
  rw [List.filter_cons_of_neg (by simp only [decide_eq_true_eq, m7]; clear m0 m1 m2 m3 m4 m5 m6 m7 m8 m9 m10 m11 m12 m13 m14 m15; omega)]
  rw [List.filter_cons_of_neg (by simp only [decide_eq_true_eq, m8]; clear m0 m1 m2 m3 m4 m5 m6 m7 m8 m9 m10 m11 m12 m13 m14 m15; omega)]
  rw [List.filter_cons_of_neg (by simp only [decide_eq_true_eq, m9]; clear m0 m1 m2 m3 m4 m5 m6 m7 m8 m9 m10 m11 m12 m13 m14 m15; omega)]
  rw [List.filter_cons_of_neg (by simp only [decide_eq_true_eq, m10]; clear m0 m1 m2 m3 m4 m5 m6 m7 m8 m9 m10 m11 m12 m13 m14 m15; omega)]
  rw [List.filter_cons_of_neg (by simp only [decide_eq_true_eq, m11]; clear m0 m1 m2 m3 m4 m5 m6 m7 m8 m9 m10 m11 m12 m13 m14 m15; omega)]
  rw [List.filter_cons_of_neg (by simp only [decide_eq_true_eq, m12]; clear m0 m1 m2 m3 m4 m5 m6 m7 m8 m9 m10 m11 m12 m13 m14 m15; omega)]
  rw [List.filter_cons_of_neg (by simp only [decide_eq_true_eq, m13]; clear m0 m1 m2 m3 m4 m5 m6 m7 m8 m9 m10 m11 m12 m13 m14 m15; omega)]
  rw [List.filter_cons_of_neg (by simp only [decide_eq_true_eq, m14]; clear m0 m1 m2 m3 m4 m5 m6 m7 m8 m9 m10 m11 m12 m13 m14 m15; omega)]
  rw [List.filter_cons_of_neg (by simp only [decide_eq_true_eq, m15]; clear m0 m1 m2 m3 m4 m5 m6 m7 m8 m9 m10 m11 m12 m13 m14 m15; omega)]
  rfl

theorem nearA3 {n f g b : Int} (hn : 0 < n ∧ n ≤ 200) (hb : 0 ≤ b ∧ b < n) (h : 2 * b = n) :
    ((cells16 f g).foldl (nearStep (hmAt (n * f) (n * g + b) n)) (-1, [])).2 = [⟨f, g⟩, ⟨f, g + 1⟩] := by
  have m0 : hmAt (n * f) (n * g + b) n ⟨f - 1, g - 1⟩ = 3 * (n * n) - (-3) * (n * b) + b * b := by
    simp only [hmAt, hmet]
    grind
  have m1 : hmAt (n * f) (n * g + b) n ⟨f - 1, g⟩ = 1 * (n * n) - (-1) * (n * b) + b * b := by
    simp only [hmAt, hmet]
    grind
  have m2 : hmAt (n * f) (n * g + b) n ⟨f - 1, g + 1⟩ = 1 * (n * n) - 1 * (n * b) + b * b := by
    simp only [hmAt, hmet]
    grind
  have m3 : hmAt (n * f) (n * g + b) n ⟨f - 1, g + 2⟩ = 3 * (n * n) - 3 * (n * b) + b * b := by
    simp only [hmAt, hmet]
    grind
  have m4 : hmAt (n * f) (n * g + b) n ⟨f, g - 1⟩ = 1 * (n * n) - (-2) * (n * b) + b * b := by
    simp only [hmAt, hmet]
    grind
  have m5 : hmAt (n * f) (n * g + b) n ⟨f, g⟩ = 0 * (n * n) - 0 * (n * b) + b * b := by
    simp only [hmAt, hmet]
    grind
  have m6 : hmAt (n * f) (n * g + b) n ⟨f, g + 1⟩ = 1 * (n * n) - 2 * (n * b) + b * b := by
    simp only [hmAt, hmet]
    grind
  have m7 : hmAt (n * f) (n * g + b) n ⟨f, g + 2⟩ = 4 * (n * n) - 4 * (n * b) + b * b := by
    simp only [hmAt, hmet]
    grind
  have m8 : hmAt (n * f) (n * g + b) n ⟨f + 1, g - 1⟩ = 1 * (n * n) - (-1) * (n * b) + b * b := by
    simp only [hmAt, hmet]
    grind
  have m9 : hmAt (n * f) (n * g + b) n ⟨f + 1, g⟩ = 1 * (n * n) - 1 * (n * b) + b * b := by
    simp only [hmAt, hmet]
    grind
  have m10 : hmAt (n * f) (n * g + b) n ⟨f + 1, g + 1⟩ = 3 * (n * n) - 3 * (n * b) + b * b := by
    simp only [hmAt, hmet]
    grind
  have m11 : hmAt (n * f) (n * g + b) n ⟨f + 1, g + 2⟩ = 7 * (n * n) - 5 * (n * b) + b * b := by
    simp only [hmAt, hmet]
    grind
  have m12 : hmAt (n * f) (n * g + b) n ⟨f + 2, g - 1⟩ = 3 * (n * n) - 0 * (n * b) + b * b := by
    simp only [hmAt, hmet]
    grind
  have m13 : hmAt (n * f) (n * g + b) n ⟨f + 2, g⟩ = 4 * (n * n) - 2 * (n * b) + b * b := by
    simp only [hmAt, hmet]
    grind
  have m14 : hmAt (n * f) (n * g + b) n ⟨f + 2, g + 1⟩ = 7 * (n * n) - 4 * (n * b) + b * b := by
    simp only [hmAt, hmet]
    grind
  have m15 : hmAt (n * f) (n * g + b) n ⟨f + 2, g + 2⟩ = 12 * (n * n) - 6 * (n * b) + b * b := by
    simp only [hmAt, hmet]
    grind
  have p1 : n * (n - 2 * b) = 0 := by rw [show n - 2 * b = 0 by omega, Int.mul_zero]
  have p2 : b * (n - 2 * b) = 0 := by rw [show n - 2 * b = 0 by omega, Int.mul_zero]
  have p3 := Int.mul_pos hn.1 (show 0 < n - b by omega)
  have p4 := Int.mul_nonneg hb.1 (show 0 ≤ n - b by omega)
  have p5 := Int.mul_nonneg hb.1 hb.1
  have p6 := Int.mul_nonneg (show 0 ≤ n - b by omega) (show 0 ≤ n - b by omega)
  have p7 := Int.mul_pos hn.1 hn.1
  simp only [Int.mul_sub, Int.sub_mul, Int.mul_comm b n, Int.mul_comm b (2 * n), ← Int.mul_assoc, Int.mul_comm n 2, Int.mul_comm b 2] at p1 p2 p3 p4 p5 p6 p7
  simp only [Int.mul_assoc, Int.mul_comm b n] at p1 p2 p3 p4 p5 p6 p7
  generalize n * n = P at *
  generalize n * b = X at *
  generalize b * b = Y at *
  rw [nearFold (mn := Y) (by clear m0 m1 m2 m3 m4 m5 m6 m7 m8 m9 m10 m11 m12 m13 m14 m15; omega) (cells16 f g) (-1) [] (.inl (by decide)) (by
    intro x hx
    simp only [cells16, List.mem_cons, List.not_mem_nil, or_false] at hx
    rcases hx with rfl | rfl | rfl | rfl | rfl | rfl | rfl | rfl | rfl | rfl | rfl | rfl | rfl | rfl | rfl | rfl
    · rw [m0]; clear m0 m1 m2 m3 m4 m5 m6 m7 m8 m9 m10 m11 m12 m13 m14 m15; omega
    · rw [m1]; clear m0 m1 m2 m3 m4 m5 m6 m7 m8 m9 m10 m11 m12 m13 m14 m15; omega
    · rw [m2]; clear m0 m1 m2 m3 m4 m5 m6 m7 m8 m9 m10 m11 m12 m13 m14 m15; omega
    · rw [m3]; clear m0 m1 m2 m3 m4 m5 m6 m7 m8 m9 m10 m11 m12 m13 m14 m15; omega
    · rw [m4]; clear m0 m1 m2 m3 m4 m5 m6 m7 m8 m9 m10 m11 m12 m13 m14 m15; omega
    · rw [m5]; clear m0 m1 m2 m3 m4 m5 m6 m7 m8 m9 m10 m11 m12 m13 m14 m15; omega
    · rw [m6]; clear m0 m1 m2 m3 m4 m5 m6 m7 m8 m9 m10 m11 m12 m13 m14 m15; omega
    · rw [m7]; clear m0 m1 m2 m3 m4 m5 m6 m7 m8 m9 m10 m11 m12 m13 m14 m15; omega
    · rw [m8]; clear m0 m1 m2 m3 m4 m5 m6 m7 m8 m9 m10 m11 m12 m13 m14 m15; omega
    · rw [m9]; clear m0 m1 m2 m3 m4 m5 m6 m7 m8 m9 m10 m11 m12 m13 m14 m15; omega
    · rw [m10]; clear m0 m1 m2 m3 m4 m5 m6 m7 m8 m9 m10 m11 m12 m13 m14 m15; omega
    · rw [m11]; clear m0 m1 m2 m3 m4 m5 m6 m7 m8 m9 m10 m11 m12 m13 m14 m15; omega
    · rw [m12]; clear m0 m1 m2 m3 m4 m5 m6 m7 m8 m9 m10 m11 m12 m13 m14 m15; omega
    · rw [m13]; clear m0 m1 m2 m3 m4 m5 m6 m7 m8 m9 m10 m11 m12 m13 m14 m15; omega
    · rw [m14]; clear m0 m1 m2 m3 m4 m5 m6 m7 m8 m9 m10 m11 m12 m13 m14 m15; omega
    · rw [m15]; clear m0 m1 m2 m3 m4 m5 m6 m7 m8 m9 m10 m11 m12 m13 m14 m15; omega
    ) (.inr ⟨⟨f, g⟩, by simp [cells16], by rw [m5]; clear m0 m1 m2 m3 m4 m5 m6 m7 m8 m9 m10 m11 m12 m13 m14 m15; omega⟩)]
  rw [if_neg (by clear m0 m1 m2 m3 m4 m5 m6 m7 m8 m9 m10 m11 m12 m13 m14 m15; omega), List.nil_append, cells16]
  rw [List.filter_cons_of_neg (by simp only [decide_eq_true_eq, m0]; clear m0 m1 m2 m3 m4 m5 m6 m7 m8 m9 m10 m11 m12 m13 m14 m15; omega)]
  rw [List.filter_cons_of_neg (by simp only [decide_eq_true_eq, m1]; clear m0 m1 m2 m3 m4 m5 m6 m7 m8 m9 m10 m11 m12 m13 m14 m15; omega)]
  rw [List.filter_cons_of_neg (by simp only [decide_eq_true_eq, m2]; clear m0 m1 m2 m3 m4 m5 m6 m7 m8 m9 m10 m11 m12 m13 m14 m15; omega)]
  rw [List.filter_cons_of_neg (by simp only [decide_eq_true_eq, m3]; clear m0 m1 m2 m3 m4 m5 m6 m7 m8 m9 m10 m11 m12 m13 m14 m15; omega)]
  rw [List.filter_cons_of_neg (by simp only [decide_eq_true_eq, m4]; clear m0 m1 m2 m3 m4 m5 m6 m7 m8 m9 m10 m11 m12 m13 m14 m15; omega)]
  rw [List.filter_cons_of_pos (by simp only [decide_eq_true_eq, m5]; clear m0 m1 m2 m3 m4 m5 m6 m7 m8 m9 m10 m11 m12 m13 m14 m15; omega)]
  rw [List.filter_cons_of_pos (by simp only [decide_eq_true_eq, m6]; clear m0 m1 m2 m3 m4 m5 m6 m7 m8 m9 m10 m11 m12 m13 m14 m15; omega)]
  rw [List.filter_cons_of_neg (by simp only [decide_eq_true_eq, m7]; clear m0 m1 m2 m3 m4 m5 m6 m7 m8 m9 m10 m11 m12 m13 m14 m15; omega)]
  rw [List.filter_cons_of_neg (by simp only [decide_eq_true_eq, m8]; clear m0 m1 m2 m3 m4 m5 m6 m7 m8 m9 m10 m11 m12 m13 m14 m15; omega)]
  rw [List.filter_cons_of_neg (by simp only [decide_eq_true_eq, m9]; clear m0 m1 m2 m3 m4 m5 m6 m7 m8 m9 m10 m11 m12 m13 m14 m15; omega)]
  rw [List.filter_cons_of_neg (by simp only [decide_eq_true_eq, m10]; clear m0 m1 m2 m3 m4 m5 m6 m7 m8 m9 m10 m11 m12 m13 m14 m15; omega)]
  rw [List.filter_cons_of_neg (by simp only [decide_eq_true_eq, m11]; clear m0 m1 m2 m3 m4 m5 m6 m7 m8 m9 m10 m11 m12 m13 m14 m15; omega)]
  rw [List.filter_cons_of_neg (by simp only [decide_eq_true_eq, m12]; clear m0 m1 m2 m3 m4 m5 m6 m7 m8 m9 m10 m11 m12 m13 m14 m15; omega)]
  rw [List.filter_cons_of_neg (by simp only [decide_eq_true_eq, m13]; clear m0 m1 m2 m3 m4 m5 m6 m7 m8 m9 m10 m11 m12 m13 m14 m15; omega)]
  rw [List.filter_cons_of_neg (by simp only [decide_eq_true_eq, m14]; clear m0 m1 m2 m3 m4 m5 m6 m7 m8 m9 m10 m11 m12 m13 m14 m15; omega)]
  rw [List.filter_cons_of_neg (by simp only [decide_eq_true_eq, m15]; clear m0 m1 m2 m3 m4 m5 m6 m7 m8 m9 m10 m11 m12 m13 m14 m15; omega)]
  rfl

theorem nearB1 {n f g b : Int} (hn : 0 < n ∧ n ≤ 200) (hb : 0 ≤ b ∧ b < n) (h : 2 * b < n) :
    ((cells16 f g).foldl (nearStep (hmAt (n * f + b) (n * g) n)) (-1, [])).2 = [⟨f, g⟩] := by
  have m0 : hmAt (n * f + b) (n * g) n ⟨f - 1, g - 1⟩ = 3 * (n * n) - (-3) * (n * b) + b * b := by
    simp only [hmAt, hmet]
    grind
  have m1 : hmAt (n * f + b) (n * g) n ⟨f - 1, g⟩ = 1 * (n * n) - (-2) * (n * b) + b * b := by
    simp only [hmAt, hmet]
    grind
  have m2 : hmAt (n * f + b) (n * g) n ⟨f - 1, g + 1⟩ = 1 * (n * n) - (-1) * (n * b) + b * b := by
    simp only [hmAt, hmet]
    grind
  have m3 : hmAt (n * f + b) (n * g) n ⟨f - 1, g + 2⟩ = 3 * (n * n) - 0 * (n * b) + b * b := by
    simp only [hmAt, hmet]
    grind
  have m4 : hmAt (n * f + b) (n * g) n ⟨f, g - 1⟩ = 1 * (n * n) - (-1) * (n * b) + b * b := by
    simp only [hmAt, hmet]
    grind
  have m5 : hmAt (n * f + b) (n * g) n ⟨f, g⟩ = 0 * (n * n) - 0 * (n * b) + b * b := by
    simp only [hmAt, hmet]
    grind
  have m6 : hmAt (n * f + b) (n * g) n ⟨f, g + 1⟩ = 1 * (n * n) - 1 * (n * b) + b * b := by
    simp only [hmAt, hmet]
    grind
  have m7 : hmAt (n * f + b) (n * g) n ⟨f, g + 2⟩ = 4 * (n * n) - 2 * (n * b) + b * b := by
    simp only [hmAt, hmet]
    grind
  have m8 : hmAt (n * f + b) (n * g) n ⟨f + 1, g - 1⟩ = 1 * (n * n) - 1 * (n * b) + b * b := by
    simp only [hmAt, hmet]
    grind
  have m9 : hmAt (n * f + b) (n * g) n ⟨f + 1, g⟩ = 1 * (n * n) - 2 * (n * b) + b * b := by
    simp only [hmAt, hmet]
    grind
  have m10 : hmAt (n * f + b) (n * g) n ⟨f + 1, g + 1⟩ = 3 * (n * n) - 3 * (n * b) + b * b := by
    simp only [hmAt, hmet]
    grind
  have m11 : hmAt (n * f + b) (n * g) n ⟨f + 1, g + 2⟩ = 7 * (n * n) - 4 * (n * b) + b * b := by
    simp only [hmAt, hmet]
    grind
  have m12 : hmAt (n * f + b) (n * g) n ⟨f + 2, g - 1⟩ = 3 * (n * n) - 3 * (n * b) + b * b := by
    simp only [hmAt, hmet]
    grind
  have m13 : hmAt (n * f + b) (n * g) n ⟨f + 2, g⟩ = 4 * (n * n) - 4 * (n * b) + b * b := by
    simp only [hmAt, hmet]
    grind
  have m14 : hmAt (n * f + b) (n * g) n ⟨f + 2, g + 1⟩ = 7 * (n * n) - 5 * (n * b) + b * b := by
    simp only [hmAt, hmet]
    grind
  have m15 : hmAt (n * f + b) (n * g) n ⟨f + 2, g + 2⟩ = 12 * (n * n) - 6 * (n * b) + b * b := by
    simp only [hmAt, hmet]
    grind
  have p1 := Int.mul_pos hn.1 (show 0 < n - 2 * b by omega)
  have p2 := Int.mul_nonneg hb.1 (show 0 ≤ n - 2 * b by omega)
  have p3 := Int.mul_pos hn.1 (show 0 < n - b by omega)
  have p4 := Int.mul_nonneg hb.1 (show 0 ≤ n - b by omega)
  have p5 := Int.mul_nonneg hb.1 hb.1
  have p6 := Int.mul_nonneg (show 0 ≤ n - b by omega) (show 0 ≤ n - b by omega)
  have p7 := Int.mul_pos hn.1 hn.1
  simp only [Int.mul_sub, Int.sub_mul, Int.mul_comm b n, Int.mul_comm b (2 * n), ← Int.mul_assoc, Int.mul_comm n 2, Int.mul_comm b 2] at p1 p2 p3 p4 p5 p6 p7
  simp only [Int.mul_assoc, Int.mul_comm b n] at p1 p2 p3 p4 p5 p6 p7
  generalize n * n = P at *
  generalize n * b = X at *
  generalize b * b = Y at *
  rw [nearFold (mn := Y) (by clear m0 m1 m2 m3 m4 m5 m6 m7 m8 m9 m10 m11 m12 m13 m14 m15; omega) (cells16 f g) (-1) [] (.inl (by decide)) (by
    intro x hx
    simp only [cells16, List.mem_cons, List.not_mem_nil, or_false] at hx
    rcases hx with rfl | rfl | rfl | rfl | rfl | rfl | rfl | rfl | rfl | rfl | rfl | rfl | rfl | rfl | rfl | rfl
    · rw [m0]; clear m0 m1 m2 m3 m4 m5 m6 m7 m8 m9 m10 m11 m12 m13 m14 m15; omega
    · rw [m1]; clear m0 m1 m2 m3 m4 m5 m6 m7 m8 m9 m10 m11 m12 m13 m14 m15; omega
    · rw [m2]; clear m0 m1 m2 m3 m4 m5 m6 m7 m8 m9 m10 m11 m12 m13 m14 m15; omega
    · rw [m3]; clear m0 m1 m2 m3 m4 m5 m6 m7 m8 m9 m10 m11 m12 m13 m14 m15; omega
    · rw [m4]; clear m0 m1 m2 m3 m4 m5 m6 m7 m8 m9 m10 m11 m12 m13 m14 m15; omega
    · rw [m5]; clear m0 m1 m2 m3 m4 m5 m6 m7 m8 m9 m10 m11 m12 m13 m14 m15; omega
    · rw [m6]; clear m0 m1 m2 m3 m4 m5 m6 m7 m8 m9 m10 m11 m12 m13 m14 m15; omega
    · rw [m7]; clear m0 m1 m2 m3 m4 m5 m6 m7 m8 m9 m10 m11 m12 m13 m14 m15; omega
    · rw [m8]; clear m0 m1 m2 m3 m4 m5 m6 m7 m8 m9 m10 m11 m12 m13 m14 m15; omega
    · rw [m9]; clear m0 m1 m2 m3 m4 m5 m6 m7 m8 m9 m10 m11 m12 m13 m14 m15; omega
    · rw [m10]; clear m0 m1 m2 m3 m4 m5 m6 m7 m8 m9 m10 m11 m12 m13 m14 m15; omega
    · rw [m11]; clear m0 m1 m2 m3 m4 m5 m6 m7 m8 m9 m10 m11 m12 m13 m14 m15; omega
    · rw [m12]; clear m0 m1 m2 m3 m4 m5 m6 m7 m8 m9 m10 m11 m12 m13 m14 m15; omega
    · rw [m13]; clear m0 m1 m2 m3 m4 m5 m6 m7 m8 m9 m10 m11 m12 m13 m14 m15; omega
    · rw [m14]; clear m0 m1 m2 m3 m4 m5 m6 m7 m8 m9 m10 m11 m12 m13 m14 m15; omega
    · rw [m15]; clear m0 m1 m2 m3 m4 m5 m6 m7 m8 m9 m10 m11 m12 m13 m14 m15; omega
    ) (.inr ⟨⟨f, g⟩, by simp [cells16], by rw [m5]; clear m0 m1 m2 m3 m4 m5 m6 m7 m8 m9 m10 m11 m12 m13 m14 m15; omega⟩)]
  rw [if_neg (by clear m0 m1 m2 m3 m4 m5 m6 m7 m8 m9 m10 m11 m12 m13 m14 m15; omega), List.nil_append, cells16]
  rw [List.filter_cons_of_neg (by simp only [decide_eq_true_eq, m0]; clear m0 m1 m2 m3 m4 m5 m6 m7 m8 m9 m10 m11 m12 m13 m14 m15; omega)]
  rw [List.filter_cons_of_neg (by simp only [decide_eq_true_eq, m1]; clear m0 m1 m2 m3 m4 m5 m6 m7 m8 m9 m10 m11 m12 m13 m14 m15; omega)]
  rw [List.filter_cons_of_neg (by simp only [decide_eq_true_eq, m2]; clear m0 m1 m2 m3 m4 m5 m6 m7 m8 m9 m10 m11 m12 m13 m14 m15; omega)]
  rw [List.filter_cons_of_neg (by simp only [decide_eq_true_eq, m3]; clear m0 m1 m2 m3 m4 m5 m6 m7 m8 m9 m10 m11 m12 m13 m14 m15; omega)]
  rw [List.filter_cons_of_neg (by simp only [decide_eq_true_eq, m4]; clear m0 m1 m2 m3 m4 m5 m6 m7 m8 m9 m10 m11 m12 m13 m14 m15; omega)]
  rw [List.filter_cons_of_pos (by simp only [decide_eq_true_eq, m5]; clear m0 m1 m2 m3 m4 m5 m6 m7 m8 m9 m10 m11 m12 m13 m14 m15; omega)]
  rw [List.filter_cons_of_neg (by simp only [decide_eq_true_eq, m6]; clear m0 m1 m2 m3 m4 m5 m6 m7 m8 m9 m10 m11 m12 m13 m14 m15; omega)]
  rw [List.filter_cons_of_neg (by simp only [decide_eq_true_eq, m7]; clear m0 m1 m2 m3 m4 m5 m6 m7 m8 m9 m10 m11 m12 m13 m14 m15; omega)]
  rw [List.filter_cons_of_neg (by simp only [decide_eq_true_eq, m8]; clear m0 m1 m2 m3 m4 m5 m6 m7 m8 m9 m10 m11 m12 m13 m14 m15; omega)]
  rw [List.filter_cons_of_neg (by simp only [decide_eq_true_eq, m9]; clear m0 m1 m2 m3 m4 m5 m6 m7 m8 m9 m10 m11 m12 m13 m14 m15; omega)]
  rw [List.filter_cons_of_neg (by simp only [decide_eq_true_eq, m10]; clear m0 m1 m2 m3 m4 m5 m6 m7 m8 m9 m10 m11 m12 m13 m14 m15; omega)]
  rw [List.filter_cons_of_neg (by simp only [decide_eq_true_eq, m11]; clear m0 m1 m2 m3 m4 m5 m6 m7 m8 m9 m10 m11 m12 m13 m14 m15; omega)]
  rw [List.filter_cons_of_neg (by simp only [decide_eq_true_eq, m12]; clear m0 m1 m2 m3 m4 m5 m6 m7 m8 m9 m10 m11 m12 m13 m14 m15; omega)]
  rw [List.filter_cons_of_neg (by simp only [decide_eq_true_eq, m13]; clear m0 m1 m2 m3 m4 m5 m6 m7 m8 m9 m10 m11 m12 m13 m14 m15; omega)]
  rw [List.filter_cons_of_neg (by simp only [decide_eq_true_eq, m14]; clear m0 m1 m2 m3 m4 m5 m6 m7 m8 m9 m10 m11 m12 m13 m14 m15; omega)]
  rw [List.filter_cons_of_neg (by simp only [decide_eq_true_eq, m15]; clear m0 m1 m2 m3 m4 m5 m6 m7 m8 m9 m10 m11 m12 m13 m14 m15; omega)]
  rfl

theorem nearB2 {n f g b : Int} (hn : 0 < n ∧ n ≤ 200) (hb : 0 ≤ b ∧ b < n) (h : n < 2 * b) :
    ((cells16 f g).foldl (nearStep (hmAt (n * f + b) (n * g) n)) (-1, [])).2 = [⟨f + 1, g⟩] := by
  have m0 : hmAt (n * f + b) (n * g) n ⟨f - 1, g - 1⟩ = 3 * (n * n) - (-3) * (n * b) + b * b := by
    simp only [hmAt, hmet]
    grind
  have m1 : hmAt (n * f + b) (n * g) n ⟨f - 1, g⟩ = 1 * (n * n) - (-2) * (n * b) + b * b := by
    simp only [hmAt, hmet]
    grind
  have m2 : hmAt (n * f + b) (n * g) n ⟨f - 1, g + 1⟩ = 1 * (n * n) - (-1) * (n * b) + b * b := by
    simp only [hmAt, hmet]
    grind
  have m3 : hmAt (n * f + b) (n * g) n ⟨f - 1, g + 2⟩ = 3 * (n * n) - 0 * (n * b) + b * b := by
    simp only [hmAt, hmet]
    grind
  have m4 : hmAt (n * f + b) (n * g) n ⟨f, g - 1⟩ = 1 * (n * n) - (-1) * (n * b) + b * b := by
    simp only [hmAt, hmet]
    grind
  have m5 : hmAt (n * f + b) (n * g) n ⟨f, g⟩ = 0 * (n * n) - 0 * (n * b) + b * b := by
    simp only [hmAt, hmet]
    grind
  have m6 : hmAt (n * f + b) (n * g) n ⟨f, g + 1⟩ = 1 * (n * n) - 1 * (n * b) + b * b := by
    simp only [hmAt, hmet]
    grind
  have m7 : hmAt (n * f + b) (n * g) n ⟨f, g + 2⟩ = 4 * (n * n) - 2 * (n * b) + b * b := by
    simp only [hmAt, hmet]
    grind
  have m8 : hmAt (n * f + b) (n * g) n ⟨f + 1, g - 1⟩ = 1 * (n * n) - 1 * (n * b) + b * b := by
    simp only [hmAt, hmet]
    grind
  have m9 : hmAt (n * f + b) (n * g) n ⟨f + 1, g⟩ = 1 * (n * n) - 2 * (n * b) + b * b := by
    simp only [hmAt, hmet]
    grind
  have m10 : hmAt (n * f + b) (n * g) n ⟨f + 1, g + 1⟩ = 3 * (n * n) - 3 * (n * b) + b * b := by
    simp only [hmAt, hmet]
    grind
  have m11 : hmAt (n * f + b) (n * g) n ⟨f + 1, g + 2⟩ = 7 * (n * n) - 4 * (n * b) + b * b := by
    simp only [hmAt, hmet]
    grind
  have m12 : hmAt (n * f + b) (n * g) n ⟨f + 2, g - 1⟩ = 3 * (n * n) - 3 * (n * b) + b * b := by
    simp only [hmAt, hmet]
    grind
  have m13 : hmAt (n * f + b) (n * g) n ⟨f + 2, g⟩ = 4 * (n * n) - 4 * (n * b) + b * b := by
    simp only [hmAt, hmet]
    grind
  have m14 : hmAt (n * f + b) (n * g) n ⟨f + 2, g + 1⟩ = 7 * (n * n) - 5 * (n * b) + b * b := by
    simp only [hmAt, hmet]
    grind
  have m15 : hmAt (n * f + b) (n * g) n ⟨f + 2, g + 2⟩ = 12 * (n * n) - 6 * (n * b) + b * b := by
    simp only [hmAt, hmet]
    grind
  have p1 := Int.mul_pos hn.1 (show 0 < 2 * b - n by omega)
  have p2 := Int.mul_nonneg (show 0 ≤ n - b by omega) (show 0 ≤ 2 * b - n by omega)
  have p3 := Int.mul_pos hn.1 (show 0 < n - b by omega)
  have p4 := Int.mul_nonneg hb.1 (show 0 ≤ n - b by omega)
  have p5 := Int.mul_nonneg hb.1 hb.1
  have p6 := Int.mul_nonneg (show 0 ≤ n - b by omega) (show 0 ≤ n - b by omega)
  have p7 := Int.mul_pos hn.1 hn.1
  simp only [Int.mul_sub, Int.sub_mul, Int.mul_comm b n, Int.mul_comm b (2 * n), ← Int.mul_assoc, Int.mul_comm n 2, Int.mul_comm b 2] at p1 p2 p3 p4 p5 p6 p7
  simp only [Int.mul_assoc, Int.mul_comm b n] at p1 p2 p3 p4 p5 p6 p7
  generalize n * n = P at *
  generalize n * b = X at *
  generalize b * b = Y at *
  rw [nearFold (mn := P - 2 * (X) + Y) (by clear m0 m1 m2 m3 m4 m5 m6 m7 m8 m9 m10 m11 m12 m13 m14 m15; omega) (cells16 f g) (-1) [] (.inl (by decide)) (by
    intro x hx
    simp only [cells16, List.mem_cons, List.not_mem_nil, or_false] at hx
    rcases hx with rfl | rfl | rfl | rfl | rfl | rfl | rfl | rfl | rfl | rfl | rfl | rfl | rfl | rfl | rfl | rfl
    · rw [m0]; clear m0 m1 m2 m3 m4 m5 m6 m7 m8 m9 m10 m11 m12 m13 m14 m15; omega
    · rw [m1]; clear m0 m1 m2 m3 m4 m5 m6 m7 m8 m9 m10 m11 m12 m13 m14 m15; omega
    · rw [m2]; clear m0 m1 m2 m3 m4 m5 m6 m7 m8 m9 m10 m11 m12 m13 m14 m15; omega
    · rw [m3]; clear m0 m1 m2 m3 m4 m5 m6 m7 m8 m9 m10 m11 m12 m13 m14 m15; omega
    · rw [m4]; clear m0 m1 m2 m3 m4 m5 m6 m7 m8 m9 m10 m11 m12 m13 m14 m15; omega
    · rw [m5]; clear m0 m1 m2 m3 m4 m5 m6 m7 m8 m9 m10 m11 m12 m13 m14 m15; omega
    · rw [m6]; clear m0 m1 m2 m3 m4 m5 m6 m7 m8 m9 m10 m11 m12 m13 m14 m15; omega
    · rw [m7]; clear m0 m1 m2 m3 m4 m5 m6 m7 m8 m9 m10 m11 m12 m13 m14 m15; omega
    · rw [m8]; clear m0 m1 m2 m3 m4 m5 m6 m7 m8 m9 m10 m11 m12 m13 m14 m15; omega
    · rw [m9]; clear m0 m1 m2 m3 m4 m5 m6 m7 m8 m9 m10 m11 m12 m13 m14 m15; omega
    · rw [m10]; clear m0 m1 m2 m3 m4 m5 m6 m7 m8 m9 m10 m11 m12 m13 m14 m15; omega
    · rw [m11]; clear m0 m1 m2 m3 m4 m5 m6 m7 m8 m9 m10 m11 m12 m13 m14 m15; omega
    · rw [m12]; clear m0 m1 m2 m3 m4 m5 m6 m7 m8 m9 m10 m11 m12 m13 m14 m15; omega
    · rw [m13]; clear m0 m1 m2 m3 m4 m5 m6 m7 m8 m9 m10 m11 m12 m13 m14 m15; omega
    · rw [m14]; clear m0 m1 m2 m3 m4 m5 m6 m7 m8 m9 m10 m11 m12 m13 m14 m15; omega
    · rw [m15]; clear m0 m1 m2 m3 m4 m5 m6 m7 m8 m9 m10 m11 m12 m13 m14 m15; omega
    ) (.inr ⟨⟨f + 1, g⟩, by simp [cells16], by rw [m9]; clear m0 m1 m2 m3 m4 m5 m6 m7 m8 m9 m10 m11 m12 m13 m14 m15; omega⟩)]
  rw [if_neg (by clear m0 m1 m2 m3 m4 m5 m6 m7 m8 m9 m10 m11 m12 m13 m14 m15; omega), List.nil_append, cells16]
  rw [List.filter_cons_of_neg (by simp only [decide_eq_true_eq, m0]; clear m0 m1 m2 m3 m4 m5 m6 m7 m8 m9 m10 m11 m12 m13 m14 m15; omega)]
  rw [List.filter_cons_of_neg (by simp only [decide_eq_true_eq, m1]; clear m0 m1 m2 m3 m4 m5 m6 m7 m8 m9 m10 m11 m12 m13 m14 m15; omega)]
  rw [List.filter_cons_of_neg (by simp only [decide_eq_true_eq, m2]; clear m0 m1 m2 m3 m4 m5 m6 m7 m8 m9 m10 m11 m12 m13 m14 m15; omega)]
  rw [List.filter_cons_of_neg (by simp only [decide_eq_true_eq, m3]; clear m0 m1 m2 m3 m4 m5 m6 m7 m8 m9 m10 m11 m12 m13 m14 m15; omega)]
  rw [List.filter_cons_of_neg (by simp only [decide_eq_true_eq, m4]; clear m0 m1 m2 m3 m4 m5 m6 m7 m8 m9 m10 m11 m12 m13 m14 m15; omega)]
  rw [List.filter_cons_of_neg (by simp only [decide_eq_true_eq, m5]; clear m0 m1 m2 m3 m4 m5 m6 m7 m8 m9 m10 m11 m12 m13 m14 m15; omega)]
  rw [List.filter_cons_of_neg (by simp only [decide_eq_true_eq, m6]; clear m0 m1 m2 m3 m4 m5 m6 m7 m8 m9 m10 m11 m12 m13 m14 m15; omega)]
  rw [List.filter_cons_of_neg (by simp only [decide_eq_true_eq, m7]; clear m0 m1 m2 m3 m4 m5 m6 m7 m8 m9 m10 m11 m12 m13 m14 m15; omega)]
  rw [List.filter_cons_of_neg (by simp only [decide_eq_true_eq, m8]; clear m0 m1 m2 m3 m4 m5 m6 m7 m8 m9 m10 m11 m12 m13 m14 m15; omega)]
  rw [List.filter_cons_of_pos (by simp only [decide_eq_true_eq, m9]; clear m0 m1 m2 m3 m4 m5 m6 m7 m8 m9 m10 m11 m12 m13 m14 m15; omega)]
  rw [List.filter_cons_of_neg (by simp only [decide_eq_true_eq, m10]; clear m0 m1 m2 m3 m4 m5 m6 m7 m8 m9 m10 m11 m12 m13 m14 m15; omega)]
  rw [List.filter_cons_of_neg (by simp only [decide_eq_true_eq, m11]; clear m0 m1 m2 m3 m4 m5 m6 m7 m8 m9 m10 m11 m12 m13 m14 m15; omega)]
  rw [List.filter_cons_of_neg (by simp only [decide_eq_true_eq, m12]; clear m0 m1 m2 m3 m4 m5 m6 m7 m8 m9 m10 m11 m12 m13 m14 m15; omega)]
  rw [List.filter_cons_of_neg (by simp only [decide_eq_true_eq, m13]; clear m0 m1 m2 m3 m4 m5 m6 m7 m8 m9 m10 m11 m12 m13 m14 m15; omega)]
  rw [List.filter_cons_of_neg (by simp only [decide_eq_true_eq, m14]; clear m0 m1 m2 m3 m4 m5 m6 m7 m8 m9 m10 m11 m12 m13 m14 m15; omega)]
  rw [List.filter_cons_of_neg (by simp only [decide_eq_true_eq, m15]; clear m0 m1 m2 m3 m4 m5 m6 m7 m8 m9 m10 m11 m12 m13 m14 m15; omega)]
  rfl

theorem nearB3 {n f g b : Int} (hn : 0 < n ∧ n ≤ 200) (hb : 0 ≤ b ∧ b < n) (h : 2 * b = n) :
    ((cells16 f g).foldl (nearStep (hmAt (n * f + b) (n * g) n)) (-1, [])).2 = [⟨f, g⟩, ⟨f + 1, g⟩] := by
  have m0 : hmAt (n * f + b) (n * g) n ⟨f - 1, g - 1⟩ = 3 * (n * n) - (-3) * (n * b) + b * b := by
    simp only [hmAt, hmet]
    grind
  have m1 : hmAt (n * f + b) (n * g) n ⟨f - 1, g⟩ = 1 * (n * n) - (-2) * (n * b) + b * b := by
    simp only [hmAt, hmet]
    grind
  have m2 : hmAt (n * f + b) (n * g) n ⟨f - 1, g + 1⟩ = 1 * (n * n) - (-1) * (n * b) + b * b := by
    simp only [hmAt, hmet]
    grind
  have m3 : hmAt (n * f + b) (n * g) n ⟨f - 1, g + 2⟩ = 3 * (n * n) - 0 * (n * b) + b * b := by
    simp only [hmAt, hmet]
    grind
  have m4 : hmAt (n * f + b) (n * g) n ⟨f, g - 1⟩ = 1 * (n * n) - (-1) * (n * b) + b * b := by
    simp only [hmAt, hmet]
    grind
  have m5 : hmAt (n * f + b) (n * g) n ⟨f, g⟩ = 0 * (n * n) - 0 * (n * b) + b * b := by
    simp only [hmAt, hmet]
    grind
  have m6 : hmAt (n * f + b) (n * g) n ⟨f, g + 1⟩ = 1 * (n * n) - 1 * (n * b) + b * b := by
    simp only [hmAt, hmet]
    grind
  have m7 : hmAt (n * f + b) (n * g) n ⟨f, g + 2⟩ = 4 * (n * n) - 2 * (n * b) + b * b := by
    simp only [hmAt, hmet]
    grind
  have m8 : hmAt (n * f + b) (n * g) n ⟨f + 1, g - 1⟩ = 1 * (n * n) - 1 * (n * b) + b * b := by
    simp only [hmAt, hmet]
    grind
  have m9 : hmAt (n * f + b) (n * g) n ⟨f + 1, g⟩ = 1 * (n * n) - 2 * (n * b) + b * b := by
    simp only [hmAt, hmet]
    grind
  have m10 : hmAt (n * f + b) (n * g) n ⟨f + 1, g + 1⟩ = 3 * (n * n) - 3 * (n * b) + b * b := by
    simp only [hmAt, hmet]
    grind
  have m11 : hmAt (n * f + b) (n * g) n ⟨f + 1, g + 2⟩ = 7 * (n * n) - 4 * (n * b) + b * b := by
    simp only [hmAt, hmet]
    grind
  have m12 : hmAt (n * f + b) (n * g) n ⟨f + 2, g - 1⟩ = 3 * (n * n) - 3 * (n * b) + b * b := by
    simp only [hmAt, hmet]
    grind
  have m13 : hmAt (n * f + b) (n * g) n ⟨f + 2, g⟩ = 4 * (n * n) - 4 * (n * b) + b * b := by
    simp only [hmAt, hmet]
    grind
  have m14 : hmAt (n * f + b) (n * g) n ⟨f + 2, g + 1⟩ = 7 * (n * n) - 5 * (n * b) + b * b := by
    simp only [hmAt, hmet]
    grind
  have m15 : hmAt (n * f + b) (n * g) n ⟨f + 2, g + 2⟩ = 12 * (n * n) - 6 * (n * b) + b * b := by
    simp only [hmAt, hmet]
    grind
  have p1 : n * (n - 2 * b) = 0 := by rw [show n - 2 * b = 0 by omega, Int.mul_zero]
  have p2 : b * (n - 2 * b) = 0 := by rw [show n - 2 * b = 0 by omega, Int.mul_zero]
  have p3 := Int.mul_pos hn.1 (show 0 < n - b by omega)
  have p4 := Int.mul_nonneg hb.1 (show 0 ≤ n - b by omega)
  have p5 := Int.mul_nonneg hb.1 hb.1
  have p6 := Int.mul_nonneg (show 0 ≤ n - b by omega) (show 0 ≤ n - b by omega)
  have p7 := Int.mul_pos hn.1 hn.1
  simp only [Int.mul_sub, Int.sub_mul, Int.mul_comm b n, Int.mul_comm b (2 * n), ← Int.mul_assoc, Int.mul_comm n 2, Int.mul_comm b 2] at p1 p2 p3 p4 p5 p6 p7
  simp only [Int.mul_assoc, Int.mul_comm b n] at p1 p2 p3 p4 p5 p6 p7
  generalize n * n = P at *
  generalize n * b = X at *
  generalize b * b = Y at *
  rw [nearFold (mn := Y) (by clear m0 m1 m2 m3 m4 m5 m6 m7 m8 m9 m10 m11 m12 m13 m14 m15; omega) (cells16 f g) (-1) [] (.inl (by decide)) (by
    intro x hx
    simp only [cells16, List.mem_cons, List.not_mem_nil, or_false] at hx
    rcases hx with rfl | rfl | rfl | rfl | rfl | rfl | rfl | rfl | rfl | rfl | rfl | rfl | rfl | rfl | rfl | rfl
    · rw [m0]; clear m0 m1 m2 m3 m4 m5 m6 m7 m8 m9 m10 m11 m12 m13 m14 m15; omega
    · rw [m1]; clear m0 m1 m2 m3 m4 m5 m6 m7 m8 m9 m10 m11 m12 m13 m14 m15; omega
    · rw [m2]; clear m0 m1 m2 m3 m4 m5 m6 m7 m8 m9 m10 m11 m12 m13 m14 m15; omega
    · rw [m3]; clear m0 m1 m2 m3 m4 m5 m6 m7 m8 m9 m10 m11 m12 m13 m14 m15; omega
    · rw [m4]; clear m0 m1 m2 m3 m4 m5 m6 m7 m8 m9 m10 m11 m12 m13 m14 m15; omega
    · rw [m5]; clear m0 m1 m2 m3 m4 m5 m6 m7 m8 m9 m10 m11 m12 m13 m14 m15; omega
    · rw [m6]; clear m0 m1 m2 m3 m4 m5 m6 m7 m8 m9 m10 m11 m12 m13 m14 m15; omega
    · rw [m7]; clear m0 m1 m2 m3 m4 m5 m6 m7 m8 m9 m10 m11 m12 m13 m14 m15; omega
    · rw [m8]; clear m0 m1 m2 m3 m4 m5 m6 m7 m8 m9 m10 m11 m12 m13 m14 m15; omega
    · rw [m9]; clear m0 m1 m2 m3 m4 m5 m6 m7 m8 m9 m10 m11 m12 m13 m14 m15; omega
    · rw [m10]; clear m0 m1 m2 m3 m4 m5 m6 m7 m8 m9 m10 m11 m12 m13 m14 m15; omega
    · rw [m11]; clear m0 m1 m2 m3 m4 m5 m6 m7 m8 m9 m10 m11 m12 m13 m14 m15; omega
    · rw [m12]; clear m0 m1 m2 m3 m4 m5 m6 m7 m8 m9 m10 m11 m12 m13 m14 m15; omega
    · rw [m13]; clear m0 m1 m2 m3 m4 m5 m6 m7 m8 m9 m10 m11 m12 m13 m14 m15; omega
    · rw [m14]; clear m0 m1 m2 m3 m4 m5 m6 m7 m8 m9 m10 m11 m12 m13 m14 m15; omega
    · rw [m15]; clear m0 m1 m2 m3 m4 m5 m6 m7 m8 m9 m10 m11 m12 m13 m14 m15; omega
    ) (.inr ⟨⟨f, g⟩, by simp [cells16], by rw [m5]; clear m0 m1 m2 m3 m4 m5 m6 m7 m8 m9 m10 m11 m12 m13 m14 m15; omega⟩)]
  rw [if_neg (by clear m0 m1 m2 m3 m4 m5 m6 m7 m8 m9 m10 m11 m12 m13 m14 m15; omega), List.nil_append, cells16]
  rw [List.filter_cons_of_neg (by simp only [decide_eq_true_eq, m0]; clear m0 m1 m2 m3 m4 m5 m6 m7 m8 m9 m10 m11 m12 m13 m14 m15; omega)]
  rw [List.filter_cons_of_neg (by simp only [decide_eq_true_eq, m1]; clear m0 m1 m2 m3 m4 m5 m6 m7 m8 m9 m10 m11 m12 m13 m14 m15; omega)]
  rw [List.filter_cons_of_neg (by simp only [decide_eq_true_eq, m2]; clear m0 m1 m2 m3 m4 m5 m6 m7 m8 m9 m10 m11 m12 m13 m14 m15; omega)]
  rw [List.filter_cons_of_neg (by simp only [decide_eq_true_eq, m3]; clear m0 m1 m2 m3 m4 m5 m6 m7 m8 m9 m10 m11 m12 m13 m14 m15; omega)]
  rw [List.filter_cons_of_neg (by simp only [decide_eq_true_eq, m4]; clear m0 m1 m2 m3 m4 m5 m6 m7 m8 m9 m10 m11 m12 m13 m14 m15; omega)]
  rw [List.filter_cons_of_pos (by simp only [decide_eq_true_eq, m5]; clear m0 m1 m2 m3 m4 m5 m6 m7 m8 m9 m10 m11 m12 m13 m14 m15; omega)]
  rw [List.filter_cons_of_neg (by simp only [decide_eq_true_eq, m6]; clear m0 m1 m2 m3 m4 m5 m6 m7 m8 m9 m10 m11 m12 m13 m14 m15; omega)]
  rw [List.filter_cons_of_neg (by simp only [decide_eq_true_eq, m7]; clear m0 m1 m2 m3 m4 m5 m6 m7 m8 m9 m10 m11 m12 m13 m14 m15; omega)]
  rw [List.filter_cons_of_neg (by simp only [decide_eq_true_eq, m8]; clear m0 m1 m2 m3 m4 m5 m6 m7 m8 m9 m10 m11 m12 m13 m14 m15; omega)]
  rw [List.filter_cons_of_pos (by simp only [decide_eq_true_eq, m9]; clear m0 m1 m2 m3 m4 m5 m6 m7 m8 m9 m10 m11 m12 m13 m14 m15; omega)]
  rw [List.filter_cons_of_neg (by simp only [decide_eq_true_eq, m10]; clear m0 m1 m2 m3 m4 m5 m6 m7 m8 m9 m10 m11 m12 m13 m14 m15; omega)]
  rw [List.filter_cons_of_neg (by simp only [decide_eq_true_eq, m11]; clear m0 m1 m2 m3 m4 m5 m6 m7 m8 m9 m10 m11 m12 m13 m14 m15; omega)]
  rw [List.filter_cons_of_neg (by simp only [decide_eq_true_eq, m12]; clear m0 m1 m2 m3 m4 m5 m6 m7 m8 m9 m10 m11 m12 m13 m14 m15; omega)]
  rw [List.filter_cons_of_neg (by simp only [decide_eq_true_eq, m13]; clear m0 m1 m2 m3 m4 m5 m6 m7 m8 m9 m10 m11 m12 m13 m14 m15; omega)]
  rw [List.filter_cons_of_neg (by simp only [decide_eq_true_eq, m14]; clear m0 m1 m2 m3 m4 m5 m6 m7 m8 m9 m10 m11 m12 m13 m14 m15; omega)]
  rw [List.filter_cons_of_neg (by simp only [decide_eq_true_eq, m15]; clear m0 m1 m2 m3 m4 m5 m6 m7 m8 m9 m10 m11 m12 m13 m14 m15; omega)]
  rfl

theorem nearC1 {n f g b : Int} (hn : 0 < n ∧ n ≤ 200) (hb : 0 ≤ b ∧ b < n) (h : 2 * b < n) :
    ((cells16 f g).foldl (nearStep (hmAt (n * f + b) (n * g + (n - b)) n)) (-1, [])).2 = [⟨f, g + 1⟩] := by
  have m0 : hmAt (n * f + b) (n * g + (n - b)) n ⟨f - 1, g - 1⟩ = 7 * (n * n) - 1 * (n * b) + b * b := by
    simp only [hmAt, hmet]
    grind
  have m1 : hmAt (n * f + b) (n * g + (n - b)) n ⟨f - 1, g⟩ = 3 * (n * n) - 0 * (n * b) + b * b := by
    simp only [hmAt, hmet]
    grind
  have m2 : hmAt (n * f + b) (n * g + (n - b)) n ⟨f - 1, g + 1⟩ = 1 * (n * n) - (-1) * (n * b) + b * b := by
    simp only [hmAt, hmet]
    grind
  have m3 : hmAt (n * f + b) (n * g + (n - b)) n ⟨f - 1, g + 2⟩ = 1 * (n * n) - (-2) * (n * b) + b * b := by
    simp only [hmAt, hmet]
    grind
  have m4 : hmAt (n * f + b) (n * g + (n - b)) n ⟨f, g - 1⟩ = 4 * (n * n) - 2 * (n * b) + b * b := by
    simp only [hmAt, hmet]
    grind
  have m5 : hmAt (n * f + b) (n * g + (n - b)) n ⟨f, g⟩ = 1 * (n * n) - 1 * (n * b) + b * b := by
    simp only [hmAt, hmet]
    grind
  have m6 : hmAt (n * f + b) (n * g + (n - b)) n ⟨f, g + 1⟩ = 0 * (n * n) - 0 * (n * b) + b * b := by
    simp only [hmAt, hmet]
    grind
  have m7 : hmAt (n * f + b) (n * g + (n - b)) n ⟨f, g + 2⟩ = 1 * (n * n) - (-1) * (n * b) + b * b := by
    simp only [hmAt, hmet]
    grind
  have m8 : hmAt (n * f + b) (n * g + (n - b)) n ⟨f + 1, g - 1⟩ = 3 * (n * n) - 3 * (n * b) + b * b := by
    simp only [hmAt, hmet]
    grind
  have m9 : hmAt (n * f + b) (n * g + (n - b)) n ⟨f + 1, g⟩ = 1 * (n * n) - 2 * (n * b) + b * b := by
    simp only [hmAt, hmet]
    grind
  have m10 : hmAt (n * f + b) (n * g + (n - b)) n ⟨f + 1, g + 1⟩ = 1 * (n * n) - 1 * (n * b) + b * b := by
    simp only [hmAt, hmet]
    grind
  have m11 : hmAt (n * f + b) (n * g + (n - b)) n ⟨f + 1, g + 2⟩ = 3 * (n * n) - 0 * (n * b) + b * b := by
    simp only [hmAt, hmet]
    grind
  have m12 : hmAt (n * f + b) (n * g + (n - b)) n ⟨f + 2, g - 1⟩ = 4 * (n * n) - 4 * (n * b) + b * b := by
    simp only [hmAt, hmet]
    grind
  have m13 : hmAt (n * f + b) (n * g + (n - b)) n ⟨f + 2, g⟩ = 3 * (n * n) - 3 * (n * b) + b * b := by
    simp only [hmAt, hmet]
    grind
  have m14 : hmAt (n * f + b) (n * g + (n - b)) n ⟨f + 2, g + 1⟩ = 4 * (n * n) - 2 * (n * b) + b * b := by
    simp only [hmAt, hmet]
    grind
  have m15 : hmAt (n * f + b) (n * g + (n - b)) n ⟨f + 2, g + 2⟩ = 7 * (n * n) - 1 * (n * b) + b * b := by
    simp only [hmAt, hmet]
    grind
  have p1 := Int.mul_pos hn.1 (show 0 < n - 2 * b by omega)
  have p2 := Int.mul_nonneg hb.1 (show 0 ≤ n - 2 * b by omega)
  have p3 := Int.mul_pos hn.1 (show 0 < n - b by omega)
  have p4 := Int.mul_nonneg hb.1 (show 0 ≤ n - b by omega)
  have p5 := Int.mul_nonneg hb.1 hb.1
  have p6 := Int.mul_nonneg (show 0 ≤ n - b by omega) (show 0 ≤ n - b by omega)
  have p7 := Int.mul_pos hn.1 hn.1
  simp only [Int.mul_sub, Int.sub_mul, Int.mul_comm b n, Int.mul_comm b (2 * n), ← Int.mul_assoc, Int.mul_comm n 2, Int.mul_comm b 2] at p1 p2 p3 p4 p5 p6 p7
  simp only [Int.mul_assoc, Int.mul_comm b n] at p1 p2 p3 p4 p5 p6 p7
  generalize n * n = P at *
  generalize n * b = X at *
  generalize b * b = Y at *
  rw [nearFold (mn := Y) (by clear m0 m1 m2 m3 m4 m5 m6 m7 m8 m9 m10 m11 m12 m13 m14 m15; omega) (cells16 f g) (-1) [] (.inl (by decide)) (by
    intro x hx
    simp only [cells16, List.mem_cons, List.not_mem_nil, or_false] at hx
    rcases hx with rfl | rfl | rfl | rfl | rfl | rfl | rfl | rfl | rfl | rfl | rfl | rfl | rfl | rfl | rfl | rfl
    · rw [m0]; clear m0 m1 m2 m3 m4 m5 m6 m7 m8 m9 m10 m11 m12 m13 m14 m15; omega
    · rw [m1]; clear m0 m1 m2 m3 m4 m5 m6 m7 m8 m9 m10 m11 m12 m13 m14 m15; omega
    · rw [m2]; clear m0 m1 m2 m3 m4 m5 m6 m7 m8 m9 m10 m11 m12 m13 m14 m15; omega
    · rw [m3]; clear m0 m1 m2 m3 m4 m5 m6 m7 m8 m9 m10 m11 m12 m13 m14 m15; omega
    · rw [m4]; clear m0 m1 m2 m3 m4 m5 m6 m7 m8 m9 m10 m11 m12 m13 m14 m15; omega
    · rw [m5]; clear m0 m1 m2 m3 m4 m5 m6 m7 m8 m9 m10 m11 m12 m13 m14 m15; omega
    · rw [m6]; clear m0 m1 m2 m3 m4 m5 m6 m7 m8 m9 m10 m11 m12 m13 m14 m15; omega
    · rw [m7]; clear m0 m1 m2 m3 m4 m5 m6 m7 m8 m9 m10 m11 m12 m13 m14 m15; omega
    · rw [m8]; clear m0 m1 m2 m3 m4 m5 m6 m7 m8 m9 m10 m11 m12 m13 m14 m15; omega
    · rw [m9]; clear m0 m1 m2 m3 m4 m5 m6 m7 m8 m9 m10 m11 m12 m13 m14 m15; omega
    · rw [m10]; clear m0 m1 m2 m3 m4 m5 m6 m7 m8 m9 m10 m11 m12 m13 m14 m15; omega
    · rw [m11]; clear m0 m1 m2 m3 m4 m5 m6 m7 m8 m9 m10 m11 m12 m13 m14 m15; omega
    · rw [m12]; clear m0 m1 m2 m3 m4 m5 m6 m7 m8 m9 m10 m11 m12 m13 m14 m15; omega
    · rw [m13]; clear m0 m1 m2 m3 m4 m5 m6 m7 m8 m9 m10 m11 m12 m13 m14 m15; omega
    · rw [m14]; clear m0 m1 m2 m3 m4 m5 m6 m7 m8 m9 m10 m11 m12 m13 m14 m15; omega
    · rw [m15]; clear m0 m1 m2 m3 m4 m5 m6 m7 m8 m9 m10 m11 m12 m13 m14 m15; omega
    ) (.inr ⟨⟨f, g + 1⟩, by simp [cells16], by rw [m6]; clear m0 m1 m2 m3 m4 m5 m6 m7 m8 m9 m10 m11 m12 m13 m14 m15; omega⟩)]
  rw [if_neg (by clear m0 m1 m2 m3 m4 m5 m6 m7 m8 m9 m10 m11 m12 m13 m14 m15; omega), List.nil_append, cells16]
  rw [List.filter_cons_of_neg (by simp only [decide_eq_true_eq, m0]; clear m0 m1 m2 m3 m4 m5 m6 m7 m8 m9 m10 m11 m12 m13 m14 m15; omega)]
  rw [List.filter_cons_of_neg (by simp only [decide_eq_true_eq, m1]; clear m0 m1 m2 m3 m4 m5 m6 m7 m8 m9 m10 m11 m12 m13 m14 m15; omega)]
  rw [List.filter_cons_of_neg (by simp only [decide_eq_true_eq, m2]; clear m0 m1 m2 m3 m4 m5 m6 m7 m8 m9 m10 m11 m12 m13 m14 m15; omega)]
  rw [List.filter_cons_of_neg (by simp only [decide_eq_true_eq, m3]; clear m0 m1 m2 m3 m4 m5 m6 m7 m8 m9 m10 m11 m12 m13 m14 m15; omega)]
  rw [List.filter_cons_of_neg (by simp only [decide_eq_true_eq, m4]; clear m0 m1 m2 m3 m4 m5 m6 m7 m8 m9 m10 m11 m12 m13 m14 m15; omega)]
  rw [List.filter_cons_of_neg (by simp only [decide_eq_true_eq, m5]; clear m0 m1 m2 m3 m4 m5 m6 m7 m8 m9 m10 m11 m12 m13 m14 m15; omega)]
  rw [List.filter_cons_of_pos (by simp only [decide_eq_true_eq, m6]; clear m0 m1 m2 m3 m4 m5 m6 m7 m8 m9 m10 m11 m12 m13 m14 m15; omega)]
  rw [List.filter_cons_of_neg (by simp only [decide_eq_true_eq, m7]; clear m0 m1 m2 m3 m4 m5 m6 m7 m8 m9 m10 m11 m12 m13 m14 m15; omega)]
  rw [List.filter_cons_of_neg (by simp only [decide_eq_true_eq, m8]; clear m0 m1 m2 m3 m4 m5 m6 m7 m8 m9 m10 m11 m12 m13 m14 m15; omega)]
  rw [List.filter_cons_of_neg (by simp only [decide_eq_true_eq, m9]; clear m0 m1 m2 m3 m4 m5 m6 m7 m8 m9 m10 m11 m12 m13 m14 m15; omega)]
  rw [List.filter_cons_of_neg (by simp only [decide_eq_true_eq, m10]; clear m0 m1 m2 m3 m4 m5 m6 m7 m8 m9 m10 m11 m12 m13 m14 m15; omega)]
  rw [List.filter_cons_of_neg (by simp only [decide_eq_true_eq, m11]; clear m0 m1 m2 m3 m4 m5 m6 m7 m8 m9 m10 m11 m12 m13 m14 m15; omega)]
  rw [List.filter_cons_of_neg (by simp only [decide_eq_true_eq, m12]; clear m0 m1 m2 m3 m4 m5 m6 m7 m8 m9 m10 m11 m12 m13 m14 m15; omega)]
  rw [List.filter_cons_of_neg (by simp only [decide_eq_true_eq, m13]; clear m0 m1 m2 m3 m4 m5 m6 m7 m8 m9 m10 m11 m12 m13 m14 m15; omega)]
  rw [List.filter_cons_of_neg (by simp only [decide_eq_true_eq, m14]; clear m0 m1 m2 m3 m4 m5 m6 m7 m8 m9 m10 m11 m12 m13 m14 m15; omega)]
  rw [List.filter_cons_of_neg (by simp only [decide_eq_true_eq, m15]; clear m0 m1 m2 m3 m4 m5 m6 m7 m8 m9 m10 m11 m12 m13 m14 m15; omega)]
  rfl

theorem nearC2 {n f g b : Int} (hn : 0 < n ∧ n ≤ 200) (hb : 0 ≤ b ∧ b < n) (h : n < 2 * b) :
    ((cells16 f g).foldl (nearStep (hmAt (n * f + b) (n * g + (n - b)) n)) (-1, [])).2 = [⟨f + 1, g⟩] := by
  have m0 : hmAt (n * f + b) (n * g + (n - b)) n ⟨f - 1, g - 1⟩ = 7 * (n * n) - 1 * (n * b) + b * b := by
    simp only [hmAt, hmet]
    grind
  have m1 : hmAt (n * f + b) (n * g + (n - b)) n ⟨f - 1, g⟩ = 3 * (n * n) - 0 * (n * b) + b * b := by
    simp only [hmAt, hmet]
    grind
  have m2 : hmAt (n * f + b) (n * g + (n - b)) n ⟨f - 1, g + 1⟩ = 1 * (n * n) - (-1) * (n * b) + b * b := by
    simp only [hmAt, hmet]
    grind
  have m3 : hmAt (n * f + b) (n * g + (n - b)) n ⟨f - 1, g + 2⟩ = 1 * (n * n) - (-2) * (n * b) + b * b := by
    simp only [hmAt, hmet]
    grind
  have m4 : hmAt (n * f + b) (n * g + (n - b)) n ⟨f, g - 1⟩ = 4 * (n * n) - 2 * (n * b) + b * b := by
    simp only [hmAt, hmet]
    grind
  have m5 : hmAt (n * f + b) (n * g + (n - b)) n ⟨f, g⟩ = 1 * (n * n) - 1 * (n * b) + b * b := by
    simp only [hmAt, hmet]
    grind
  have m6 : hmAt (n * f + b) (n * g + (n - b)) n ⟨f, g + 1⟩ = 0 * (n * n) - 0 * (n * b) + b * b := by
    simp only [hmAt, hmet]
    grind
  have m7 : hmAt (n * f + b) (n * g + (n - b)) n ⟨f, g + 2⟩ = 1 * (n * n) - (-1) * (n * b) + b * b := by
    simp only [hmAt, hmet]
    grind
  have m8 : hmAt (n * f + b) (n * g + (n - b)) n ⟨f + 1, g - 1⟩ = 3 * (n * n) - 3 * (n * b) + b * b := by
    simp only [hmAt, hmet]
    grind
  have m9 : hmAt (n * f + b) (n * g + (n - b)) n ⟨f + 1, g⟩ = 1 * (n * n) - 2 * (n * b) + b * b := by
    simp only [hmAt, hmet]
    grind
  have m10 : hmAt (n * f + b) (n * g + (n - b)) n ⟨f + 1, g + 1⟩ = 1 * (n * n) - 1 * (n * b) + b * b := by
    simp only [hmAt, hmet]
    grind
  have m11 : hmAt (n * f + b) (n * g + (n - b)) n ⟨f + 1, g + 2⟩ = 3 * (n * n) - 0 * (n * b) + b * b := by
    simp only [hmAt, hmet]
    grind
  have m12 : hmAt (n * f + b) (n * g + (n - b)) n ⟨f + 2, g - 1⟩ = 4 * (n * n) - 4 * (n * b) + b * b := by
    simp only [hmAt, hmet]
    grind
  have m13 : hmAt (n * f + b) (n * g + (n - b)) n ⟨f + 2, g⟩ = 3 * (n * n) - 3 * (n * b) + b * b := by
    simp only [hmAt, hmet]
    grind
  have m14 : hmAt (n * f + b) (n * g + (n - b)) n ⟨f + 2, g + 1⟩ = 4 * (n * n) - 2 * (n * b) + b * b := by
    simp only [hmAt, hmet]
    grind
  have m15 : hmAt (n * f + b) (n * g + (n - b)) n ⟨f + 2, g + 2⟩ = 7 * (n * n) - 1 * (n * b) + b * b := by
    simp only [hmAt, hmet]
    grind
  have p1 := Int.mul_pos hn.1 (show 0 < 2 * b - n by omega)
  have p2 := Int.mul_nonneg (show 0 ≤ n - b by omega) (show 0 ≤ 2 * b - n by omega)
  have p3 := Int.mul_pos hn.1 (show 0 < n - b by omega)
  have p4 := Int.mul_nonneg hb.1 (show 0 ≤ n - b by omega)
  have p5 := Int.mul_nonneg hb.1 hb.1
  have p6 := Int.mul_nonneg (show 0 ≤ n - b by omega) (show 0 ≤ n - b by omega)
  have p7 := Int.mul_pos hn.1 hn.1
  simp only [Int.mul_sub, Int.sub_mul, Int.mul_comm b n, Int.mul_comm b (2 * n), ← Int.mul_assoc, Int.mul_comm n 2, Int.mul_comm b 2] at p1 p2 p3 p4 p5 p6 p7
  simp only [Int.mul_assoc, Int.mul_comm b n] at p1 p2 p3 p4 p5 p6 p7
  generalize n * n = P at *
  generalize n * b = X at *
  generalize b * b = Y at *
  rw [nearFold (mn := P - 2 * (X) + Y) (by clear m0 m1 m2 m3 m4 m5 m6 m7 m8 m9 m10 m11 m12 m13 m14 m15; omega) (cells16 f g) (-1) [] (.inl (by decide)) (by
    intro x hx
    simp only [cells16, List.mem_cons, List.not_mem_nil, or_false] at hx
    rcases hx with rfl | rfl | rfl | rfl | rfl | rfl | rfl | rfl | rfl | rfl | rfl | rfl | rfl | rfl | rfl | rfl
    · rw [m0]; clear m0 m1 m2 m3 m4 m5 m6 m7 m8 m9 m10 m11 m12 m13 m14 m15; omega
    · rw [m1]; clear m0 m1 m2 m3 m4 m5 m6 m7 m8 m9 m10 m11 m12 m13 m14 m15; omega
    · rw [m2]; clear m0 m1 m2 m3 m4 m5 m6 m7 m8 m9 m10 m11 m12 m13 m14 m15; omega
    · rw [m3]; clear m0 m1 m2 m3 m4 m5 m6 m7 m8 m9 m10 m11 m12 m13 m14 m15; omega
    · rw [m4]; clear m0 m1 m2 m3 m4 m5 m6 m7 m8 m9 m10 m11 m12 m13 m14 m15; omega
    · rw [m5]; clear m0 m1 m2 m3 m4 m5 m6 m7 m8 m9 m10 m11 m12 m13 m14 m15; omega
    · rw [m6]; clear m0 m1 m2 m3 m4 m5 m6 m7 m8 m9 m10 m11 m12 m13 m14 m15; omega
    · rw [m7]; clear m0 m1 m2 m3 m4 m5 m6 m7 m8 m9 m10 m11 m12 m13 m14 m15; omega
    · rw [m8]; clear m0 m1 m2 m3 m4 m5 m6 m7 m8 m9 m10 m11 m12 m13 m14 m15; omega
    · rw [m9]; clear m0 m1 m2 m3 m4 m5 m6 m7 m8 m9 m10 m11 m12 m13 m14 m15; omega
    · rw [m10]; clear m0 m1 m2 m3 m4 m5 m6 m7 m8 m9 m10 m11 m12 m13 m14 m15; omega
    · rw [m11]; clear m0 m1 m2 m3 m4 m5 m6 m7 m8 m9 m10 m11 m12 m13 m14 m15; omega
    · rw [m12]; clear m0 m1 m2 m3 m4 m5 m6 m7 m8 m9 m10 m11 m12 m13 m14 m15; omega
    · rw [m13]; clear m0 m1 m2 m3 m4 m5 m6 m7 m8 m9 m10 m11 m12 m13 m14 m15; omega
    · rw [m14]; clear m0 m1 m2 m3 m4 m5 m6 m7 m8 m9 m10 m11 m12 m13 m14 m15; omega
    · rw [m15]; clear m0 m1 m2 m3 m4 m5 m6 m7 m8 m9 m10 m11 m12 m13 m14 m15; omega
    ) (.inr ⟨⟨f + 1, g⟩, by simp [cells16], by rw [m9]; clear m0 m1 m2 m3 m4 m5 m6 m7 m8 m9 m10 m11 m12 m13 m14 m15; omega⟩)]
  rw [if_neg (by clear m0 m1 m2 m3 m4 m5 m6 m7 m8 m9 m10 m11 m12 m13 m14 m15; omega), List.nil_append, cells16]
  rw [List.filter_cons_of_neg (by simp only [decide_eq_true_eq, m0]; clear m0 m1 m2 m3 m4 m5 m6 m7 m8 m9 m10 m11 m12 m13 m14 m15; omega)]
  rw [List.filter_cons_of_neg (by simp only [decide_eq_true_eq, m1]; clear m0 m1 m2 m3 m4 m5 m6 m7 m8 m9 m10 m11 m12 m13 m14 m15; omega)]
  rw [List.filter_cons_of_neg (by simp only [decide_eq_true_eq, m2]; clear m0 m1 m2 m3 m4 m5 m6 m7 m8 m9 m10 m11 m12 m13 m14 m15; omega)]
  rw [List.filter_cons_of_neg (by simp only [decide_eq_true_eq, m3]; clear m0 m1 m2 m3 m4 m5 m6 m7 m8 m9 m10 m11 m12 m13 m14 m15; omega)]
  rw [List.filter_cons_of_neg (by simp only [decide_eq_true_eq, m4]; clear m0 m1 m2 m3 m4 m5 m6 m7 m8 m9 m10 m11 m12 m13 m14 m15; omega)]
  rw [List.filter_cons_of_neg (by simp only [decide_eq_true_eq, m5]; clear m0 m1 m2 m3 m4 m5 m6 m7 m8 m9 m10 m11 m12 m13 m14 m15; omega)]
  rw [List.filter_cons_of_neg (by simp only [decide_eq_true_eq, m6]; clear m0 m1 m2 m3 m4 m5 m6 m7 m8 m9 m10 m11 m12 m13 m14 m15; omega)]
  rw [List.filter_cons_of_neg (by simp only [decide_eq_true_eq, m7]; clear m0 m1 m2 m3 m4 m5 m6 m7 m8 m9 m10 m11 m12 m13 m14 m15; omega)]
  rw [List.filter_cons_of_neg (by simp only [decide_eq_true_eq, m8]; clear m0 m1 m2 m3 m4 m5 m6 m7 m8 m9 m10 m11 m12 m13 m14 m15; omega)]
  rw [List.filter_cons_of_pos (by simp only [decide_eq_true_eq, m9]; clear m0 m1 m2 m3 m4 m5 m6 m7 m8 m9 m10 m11 m12 m13 m14 m15; omega)]
  rw [List.filter_cons_of_neg (by simp only [decide_eq_true_eq, m10]; clear m0 m1 m2 m3 m4 m5 m6 m7 m8 m9 m10 m11 m12 m13 m14 m15; omega)]
  rw [List.filter_cons_of_neg (by simp only [decide_eq_true_eq, m11]; clear m0 m1 m2 m3 m4 m5 m6 m7 m8 m9 m10 m11 m12 m13 m14 m15; omega)]
  rw [List.filter_cons_of_neg (by simp only [decide_eq_true_eq, m12]; clear m0 m1 m2 m3 m4 m5 m6 m7 m8 m9 m10 m11 m12 m13 m14 m15; omega)]
  rw [List.filter_cons_of_neg (by simp only [decide_eq_true_eq, m13]; clear m0 m1 m2 m3 m4 m5 m6 m7 m8 m9 m10 m11 m12 m13 m14 m15; omega)]
  rw [List.filter_cons_of_neg (by simp only [decide_eq_true_eq, m14]; clear m0 m1 m2 m3 m4 m5 m6 m7 m8 m9 m10 m11 m12 m13 m14 m15; omega)]
  rw [List.filter_cons_of_neg (by simp only [decide_eq_true_eq, m15]; clear m0 m1 m2 m3 m4 m5 m6 m7 m8 m9 m10 m11 m12 m13 m14 m15; omega)]
  rfl

theorem nearC3 {n f g b : Int} (hn : 0 < n ∧ n ≤ 200) (hb : 0 ≤ b ∧ b < n) (h : 2 * b = n) :
    ((cells16 f g).foldl (nearStep (hmAt (n * f + b) (n * g + (n - b)) n)) (-1, [])).2 = [⟨f, g + 1⟩, ⟨f + 1, g⟩] := by
  have m0 : hmAt (n * f + b) (n * g + (n - b)) n ⟨f - 1, g - 1⟩ = 7 * (n * n) - 1 * (n * b) + b * b := by
    simp only [hmAt, hmet]
    grind
  have m1 : hmAt (n * f + b) (n * g + (n - b)) n ⟨f - 1, g⟩ = 3 * (n * n) - 0 * (n * b) + b * b := by
    simp only [hmAt, hmet]
    grind
  have m2 : hmAt (n * f + b) (n * g + (n - b)) n ⟨f - 1, g + 1⟩ = 1 * (n * n) - (-1) * (n * b) + b * b := by
    simp only [hmAt, hmet]
    grind
  have m3 : hmAt (n * f + b) (n * g + (n - b)) n ⟨f - 1, g + 2⟩ = 1 * (n * n) - (-2) * (n * b) + b * b := by
    simp only [hmAt, hmet]
    grind
  have m4 : hmAt (n * f + b) (n * g + (n - b)) n ⟨f, g - 1⟩ = 4 * (n * n) - 2 * (n * b) + b * b := by
    simp only [hmAt, hmet]
    grind
  have m5 : hmAt (n * f + b) (n * g + (n - b)) n ⟨f, g⟩ = 1 * (n * n) - 1 * (n * b) + b * b := by
    simp only [hmAt, hmet]
    grind
  have m6 : hmAt (n * f + b) (n * g + (n - b)) n ⟨f, g + 1⟩ = 0 * (n * n) - 0 * (n * b) + b * b := by
    simp only [hmAt, hmet]
    grind
  have m7 : hmAt (n * f + b) (n * g + (n - b)) n ⟨f, g + 2⟩ = 1 * (n * n) - (-1) * (n * b) + b * b := by
    simp only [hmAt, hmet]
    grind
  have m8 : hmAt (n * f + b) (n * g + (n - b)) n ⟨f + 1, g - 1⟩ = 3 * (n * n) - 3 * (n * b) + b * b := by
    simp only [hmAt, hmet]
    grind
  have m9 : hmAt (n * f + b) (n * g + (n - b)) n ⟨f + 1, g⟩ = 1 * (n * n) - 2 * (n * b) + b * b := by
    simp only [hmAt, hmet]
    grind
  have m10 : hmAt (n * f + b) (n * g + (n - b)) n ⟨f + 1, g + 1⟩ = 1 * (n * n) - 1 * (n * b) + b * b := by
    simp only [hmAt, hmet]
    grind
  have m11 : hmAt (n * f + b) (n * g + (n - b)) n ⟨f + 1, g + 2⟩ = 3 * (n * n) - 0 * (n * b) + b * b := by
    simp only [hmAt, hmet]
    grind
  have m12 : hmAt (n * f + b) (n * g + (n - b)) n ⟨f + 2, g - 1⟩ = 4 * (n * n) - 4 * (n * b) + b * b := by
    simp only [hmAt, hmet]
    grind
  have m13 : hmAt (n * f + b) (n * g + (n - b)) n ⟨f + 2, g⟩ = 3 * (n * n) - 3 * (n * b) + b * b := by
    simp only [hmAt, hmet]
    grind
  have m14 : hmAt (n * f + b) (n * g + (n - b)) n ⟨f + 2, g + 1⟩ = 4 * (n * n) - 2 * (n * b) + b * b := by
    simp only [hmAt, hmet]
    grind
  have m15 : hmAt (n * f + b) (n * g + (n - b)) n ⟨f + 2, g + 2⟩ = 7 * (n * n) - 1 * (n * b) + b * b := by
    simp only [hmAt, hmet]
    grind
  have p1 : n * (n - 2 * b) = 0 := by rw [show n - 2 * b = 0 by omega, Int.mul_zero]
  have p2 : b * (n - 2 * b) = 0 := by rw [show n - 2 * b = 0 by omega, Int.mul_zero]
  have p3 := Int.mul_pos hn.1 (show 0 < n - b by omega)
  have p4 := Int.mul_nonneg hb.1 (show 0 ≤ n - b by omega)
  have p5 := Int.mul_nonneg hb.1 hb.1
  have p6 := Int.mul_nonneg (show 0 ≤ n - b by omega) (show 0 ≤ n - b by omega)
  have p7 := Int.mul_pos hn.1 hn.1
  simp only [Int.mul_sub, Int.sub_mul, Int.mul_comm b n, Int.mul_comm b (2 * n), ← Int.mul_assoc, Int.mul_comm n 2, Int.mul_comm b 2] at p1 p2 p3 p4 p5 p6 p7
  simp only [Int.mul_assoc, Int.mul_comm b n] at p1 p2 p3 p4 p5 p6 p7
  generalize n * n = P at *
  generalize n * b = X at *
  generalize b * b = Y at *
  rw [nearFold (mn := Y) (by clear m0 m1 m2 m3 m4 m5 m6 m7 m8 m9 m10 m11 m12 m13 m14 m15; omega) (cells16 f g) (-1) [] (.inl (by decide)) (by
    intro x hx
    simp only [cells16, List.mem_cons, List.not_mem_nil, or_false] at hx
    rcases hx with rfl | rfl | rfl | rfl | rfl | rfl | rfl | rfl | rfl | rfl | rfl | rfl | rfl | rfl | rfl | rfl
    · rw [m0]; clear m0 m1 m2 m3 m4 m5 m6 m7 m8 m9 m10 m11 m12 m13 m14 m15; omega
    · rw [m1]; clear m0 m1 m2 m3 m4 m5 m6 m7 m8 m9 m10 m11 m12 m13 m14 m15; omega
    · rw [m2]; clear m0 m1 m2 m3 m4 m5 m6 m7 m8 m9 m10 m11 m12 m13 m14 m15; omega
    · rw [m3]; clear m0 m1 m2 m3 m4 m5 m6 m7 m8 m9 m10 m11 m12 m13 m14 m15; omega
    · rw [m4]; clear m0 m1 m2 m3 m4 m5 m6 m7 m8 m9 m10 m11 m12 m13 m14 m15; omega
    · rw [m5]; clear m0 m1 m2 m3 m4 m5 m6 m7 m8 m9 m10 m11 m12 m13 m14 m15; omega
    · rw [m6]; clear m0 m1 m2 m3 m4 m5 m6 m7 m8 m9 m10 m11 m12 m13 m14 m15; omega
    · rw [m7]; clear m0 m1 m2 m3 m4 m5 m6 m7 m8 m9 m10 m11 m12 m13 m14 m15; omega
    · rw [m8]; clear m0 m1 m2 m3 m4 m5 m6 m7 m8 m9 m10 m11 m12 m13 m14 m15; omega
    · rw [m9]; clear m0 m1 m2 m3 m4 m5 m6 m7 m8 m9 m10 m11 m12 m13 m14 m15; omega
    · rw [m10]; clear m0 m1 m2 m3 m4 m5 m6 m7 m8 m9 m10 m11 m12 m13 m14 m15; omega
    · rw [m11]; clear m0 m1 m2 m3 m4 m5 m6 m7 m8 m9 m10 m11 m12 m13 m14 m15; omega
    · rw [m12]; clear m0 m1 m2 m3 m4 m5 m6 m7 m8 m9 m10 m11 m12 m13 m14 m15; omega
    · rw [m13]; clear m0 m1 m2 m3 m4 m5 m6 m7 m8 m9 m10 m11 m12 m13 m14 m15; omega
    · rw [m14]; clear m0 m1 m2 m3 m4 m5 m6 m7 m8 m9 m10 m11 m12 m13 m14 m15; omega
    · rw [m15]; clear m0 m1 m2 m3 m4 m5 m6 m7 m8 m9 m10 m11 m12 m13 m14 m15; omega
    ) (.inr ⟨⟨f, g + 1⟩, by simp [cells16], by rw [m6]; clear m0 m1 m2 m3 m4 m5 m6 m7 m8 m9 m10 m11 m12 m13 m14 m15; omega⟩)]
  rw [if_neg (by clear m0 m1 m2 m3 m4 m5 m6 m7 m8 m9 m10 m11 m12 m13 m14 m15; omega), List.nil_append, cells16]
  rw [List.filter_cons_of_neg (by simp only [decide_eq_true_eq, m0]; clear m0 m1 m2 m3 m4 m5 m6 m7 m8 m9 m10 m11 m12 m13 m14 m15; omega)]
  rw [List.filter_cons_of_neg (by simp only [decide_eq_true_eq, m1]; clear m0 m1 m2 m3 m4 m5 m6 m7 m8 m9 m10 m11 m12 m13 m14 m15; omega)]
  rw [List.filter_cons_of_neg (by simp only [decide_eq_true_eq, m2]; clear m0 m1 m2 m3 m4 m5 m6 m7 m8 m9 m10 m11 m12 m13 m14 m15; omega)]
  rw [List.filter_cons_of_neg (by simp only [decide_eq_true_eq, m3]; clear m0 m1 m2 m3 m4 m5 m6 m7 m8 m9 m10 m11 m12 m13 m14 m15; omega)]
  rw [List.filter_cons_of_neg (by simp only [decide_eq_true_eq, m4]; clear m0 m1 m2 m3 m4 m5 m6 m7 m8 m9 m10 m11 m12 m13 m14 m15; omega)]
  rw [List.filter_cons_of_neg (by simp only [decide_eq_true_eq, m5]; clear m0 m1 m2 m3 m4 m5 m6 m7 m8 m9 m10 m11 m12 m13 m14 m15; omega)]
  rw [List.filter_cons_of_pos (by simp only [decide_eq_true_eq, m6]; clear m0 m1 m2 m3 m4 m5 m6 m7 m8 m9 m10 m11 m12 m13 m14 m15; omega)]
  rw [List.filter_cons_of_neg (by simp only [decide_eq_true_eq, m7]; clear m0 m1 m2 m3 m4 m5 m6 m7 m8 m9 m10 m11 m12 m13 m14 m15; omega)]
  rw [List.filter_cons_of_neg (by simp only [decide_eq_true_eq, m8]; clear m0 m1 m2 m3 m4 m5 m6 m7 m8 m9 m10 m11 m12 m13 m14 m15; omega)]
  rw [List.filter_cons_of_pos (by simp only [decide_eq_true_eq, m9]; clear m0 m1 m2 m3 m4 m5 m6 m7 m8 m9 m10 m11 m12 m13 m14 m15; omega)]
  rw [List.filter_cons_of_neg (by simp only [decide_eq_true_eq, m10]; clear m0 m1 m2 m3 m4 m5 m6 m7 m8 m9 m10 m11 m12 m13 m14 m15; omega)]
  rw [List.filter_cons_of_neg (by simp only [decide_eq_true_eq, m11]; clear m0 m1 m2 m3 m4 m5 m6 m7 m8 m9 m10 m11 m12 m13 m14 m15; omega)]
  rw [List.filter_cons_of_neg (by simp only [decide_eq_true_eq, m12]; clear m0 m1 m2 m3 m4 m5 m6 m7 m8 m9 m10 m11 m12 m13 m14 m15; omega)]
  rw [List.filter_cons_of_neg (by simp only [decide_eq_true_eq, m13]; clear m0 m1 m2 m3 m4 m5 m6 m7 m8 m9 m10 m11 m12 m13 m14 m15; omega)]
  rw [List.filter_cons_of_neg (by simp only [decide_eq_true_eq, m14]; clear m0 m1 m2 m3 m4 m5 m6 m7 m8 m9 m10 m11 m12 m13 m14 m15; omega)]
  rw [List.filter_cons_of_neg (by simp only [decide_eq_true_eq, m15]; clear m0 m1 m2 m3 m4 m5 m6 m7 m8 m9 m10 m11 m12 m13 m14 m15; omega)]
  rfl


/-- Cells near a value: one, or two at the middle. -/
def nearOf (q n : Int) : List Int := if 2 * (q % n) < n then [q / n] else if n < 2 * (q % n) then [q / n + 1] else [q / n, q / n + 1]

theorem divb {q n : Int} (hn : 0 < n ∧ n ≤ 200) (hq : -1000000 ≤ q ∧ q ≤ 1000000) : -1000000 ≤ q.tdiv n ∧ q.tdiv n ≤ 1000000 := by
  have : (q.tdiv n).natAbs ≤ q.natAbs := by
    rw [Int.natAbs_tdiv]
    exact Nat.div_le_self ..
  omega

theorem hNear_ok {q n : Int} (hn : 0 < n ∧ n ≤ 200) (hq : -1000000 ≤ q ∧ q ≤ 1000000) : Ds_hNear q n = some (nearOf q n) := by
  have h2 := Int.mul_ediv_add_emod q n
  have h3 := Int.emod_nonneg q (b := n) (by omega)
  have h4 := Int.emod_lt_of_pos q hn.1
  have hb := divb hn hq
  have e1 : n.sign = 1 := Int.sign_eq_one_of_pos hn.1
  have e2 : (n.natAbs : Int) = n := by omega
  have e3 := Int.mul_comm n (q / n)
  have ht := Int.tdiv_eq_ediv (a := q) (b := n)
  have hm := Int.tmod_eq_emod (a := q) (b := n)
  unfold Ds_hNear nearOf
  rw [if_pos (by omega), if_pos (by omega)]
  by_cases c : 0 ≤ q ∨ n ∣ q
  · simp only [c, if_true, Int.add_zero, Int.sub_zero] at ht hm
    rw [hm, ht, if_neg (by omega)]
    rw [ht] at hb
    rw [w64 (n := q / n) (by omega), w64 (n := q / n * n) (by omega), w64 (n := q - q / n * n) (by omega), w64 (n := q / n + 1) (by omega), show q - q / n * n = q % n by omega, w64 (n := 2 * (q % n)) (by omega)]
    by_cases c1 : 2 * (q % n) < n
    · simp [c1]
    · by_cases c2 : n < 2 * (q % n) <;> simp [c1, c2]
  · simp only [c, if_false, e1, e2] at ht hm
    rw [hm, if_pos (by omega)]
    rw [w64 (n := q.tdiv n) (by omega), w64 (n := q.tdiv n - 1) (by omega), show q.tdiv n - 1 = q / n by omega]
    rw [w64 (n := q / n * n) (by omega), w64 (n := q - q / n * n) (by omega), w64 (n := q / n + 1) (by omega), show q - q / n * n = q % n by omega, w64 (n := 2 * (q % n)) (by omega)]
    by_cases c1 : 2 * (q % n) < n
    · simp [c1]
    · by_cases c2 : n < 2 * (q % n) <;> simp [c1, c2]

theorem cellsOne {α σ : Type} {B : σ → Option (σ ⊕ List α)} {S : Int → List α → List Int → σ} {g : Int → α}
    (xs : List Int) (hs : ∀ (i : Nat) x out, xs[i]? = some x → i < xs.length → out.length = i → B (S i out xs) = some (.inl (S ((i + 1 : Nat) : Int) (out ++ [g x]) xs))) (he : ∀ out, B (S xs.length out xs) = some (.inr out)) :
    loop B (S 0 [] xs) = some (xs.map g) := by
  have key : ∀ (k i : Nat), i + k = xs.length → loop B (S i ((xs.take i).map g) xs) = some (xs.map g) := by
    intro k
    induction k with
    | zero =>
      intro i h
      have : i = xs.length := by omega
      subst this
      rw [loop_eq, he]
      simp [goOn]
    | succ k ih =>
      intro i h
      have hlt : i < xs.length := by omega
      rw [loop_eq, hs i xs[i] _ (List.getElem?_eq_getElem hlt) hlt (by simp; omega)]
      have e : (xs.take i).map g ++ [g xs[i]] = (xs.take (i + 1)).map g := by
        rw [List.take_add_one, List.getElem?_eq_getElem hlt, List.map_append]
        rfl
      rw [e]
      exact ih (i + 1) (by omega)
  simpa using key xs.length 0 (by omega)

theorem nearOf_len (q n : Int) : (nearOf q n).length ≤ 2 := by
  unfold nearOf
  split
  · simp
  · split <;> simp

theorem cells_h1 {n q : Int} (hn : 0 < n) (xs : List Int) (hl : xs.length ≤ 2) :
    loop Bs_hCells (.h1 n q ((xs.length : Nat) : Int) 0 [] xs) = some (xs.map fun x => Gi_Hex.mk (IntKind.wrap .i64 (q.tdiv n)) x) := by
  refine cellsOne (S := fun i out xs' => Ss_hCells.h1 n q ((xs.length : Nat) : Int) i out xs') xs ?_ ?_
  · intro i x out hx hlt ho
    have h1 : ((i : Int) < ((xs.length : Nat) : Int)) := by omega
    have h2 : (0 : Int) ≤ (i : Int) := by omega
    have h3 : ¬ n = 0 := by omega
    have h4 : (out ++ [Gi_Hex.mk (IntKind.wrap .i64 (q.tdiv n)) x]).length * 16 ≤ 70368744177664 := by
      rw [List.length_append, List.length_singleton]
      omega
    simp only [Bs_hCells, h1, h2, if_true, Int.toNat_natCast, hx, Option.bind_some, h3, not_false_eq_true, h4, wsucc (i := i) (by omega)]
  · intro out
    have h1 : ¬ ((xs.length : Nat) : Int) < ((xs.length : Nat) : Int) := by omega
    simp only [Bs_hCells, h1, if_false]

theorem cells_h2a {n q r : Int} (hn : 0 < n) (hr : r.tmod n = 0) (xs : List Int) (hl : xs.length ≤ 2) :
    loop Bs_hCells (.h2 n q r ((xs.length : Nat) : Int) 0 [] xs) = some (xs.map fun x => Gi_Hex.mk x (IntKind.wrap .i64 (r.tdiv n))) := by
  refine cellsOne (S := fun i out xs' => Ss_hCells.h2 n q r ((xs.length : Nat) : Int) i out xs') xs ?_ ?_
  · intro i x out hx hlt ho
    have h1 : ((i : Int) < ((xs.length : Nat) : Int)) := by omega
    have h2 : (0 : Int) ≤ (i : Int) := by omega
    have h3 : ¬ n = 0 := by omega
    have h4 : (out ++ [Gi_Hex.mk x (IntKind.wrap .i64 (r.tdiv n))]).length * 16 ≤ 70368744177664 := by
      rw [List.length_append, List.length_singleton]
      omega
    simp only [Bs_hCells, h1, h2, if_true, Int.toNat_natCast, hx, Option.bind_some, h3, not_false_eq_true, hr, h4, wsucc (i := i) (by omega)]
  · intro out
    have h1 : ¬ ((xs.length : Nat) : Int) < ((xs.length : Nat) : Int) := by omega
    simp only [Bs_hCells, h1, if_false]

theorem cells_h2b {n q r : Int} (hn : 0 < n) (hr : ¬ r.tmod n = 0) (xs : List Int) (hl : xs.length ≤ 2) :
    loop Bs_hCells (.h2 n q r ((xs.length : Nat) : Int) 0 [] xs) = some (xs.map fun x => Gi_Hex.mk x (IntKind.wrap .i64 ((IntKind.wrap .i64 (Int.tdiv (IntKind.wrap .i64 (q + r)) n)) - x))) := by
  refine cellsOne (S := fun i out xs' => Ss_hCells.h2 n q r ((xs.length : Nat) : Int) i out xs') xs ?_ ?_
  · intro i x out hx hlt ho
    have h1 : ((i : Int) < ((xs.length : Nat) : Int)) := by omega
    have h2 : (0 : Int) ≤ (i : Int) := by omega
    have h3 : ¬ n = 0 := by omega
    have h4 : (out ++ [Gi_Hex.mk x (IntKind.wrap .i64 ((IntKind.wrap .i64 (Int.tdiv (IntKind.wrap .i64 (q + r)) n)) - x))]).length * 16 ≤ 70368744177664 := by
      rw [List.length_append, List.length_singleton]
      omega
    simp only [Bs_hCells, h1, h2, if_true, Int.toNat_natCast, hx, Option.bind_some, h3, not_false_eq_true, hr, if_false, h4, wsucc (i := i) (by omega)]
  · intro out
    have h1 : ¬ ((xs.length : Nat) : Int) < ((xs.length : Nat) : Int) := by omega
    simp only [Bs_hCells, h1, if_false]

/-- The cells of a line at the point (q/n, r/n). -/
def lineCells (q r n : Int) : List Gi_Hex :=
  if q % n = 0 then (nearOf r n).map (Gi_Hex.mk (q / n)) else if r % n = 0 then (nearOf q n).map (fun x => Gi_Hex.mk x (r / n)) else (nearOf q n).map (fun x => Gi_Hex.mk x (q / n + r / n + 1 - x))

theorem ediv_b {q n : Int} (hn : 0 < n ∧ n ≤ 200) (hq : -90000 ≤ q ∧ q ≤ 90000) : -100000 ≤ q / n ∧ q / n ≤ 100000 := by
  have h2 := Int.mul_ediv_add_emod q n
  have h3 := Int.emod_nonneg q (b := n) (by omega)
  have h4 := Int.emod_lt_of_pos q hn.1
  constructor
  · rcases Int.lt_or_le (q / n) (-100000) with h | h
    · have := Int.mul_le_mul_of_nonneg_left (show q / n ≤ -100000 by omega) (show 0 ≤ n by omega)
      omega
    · exact h
  · rcases Int.lt_or_le 100000 (q / n) with h | h
    · have := Int.mul_le_mul_of_nonneg_left (show 100000 ≤ q / n by omega) (show 0 ≤ n by omega)
      omega
    · exact h

theorem nearest_eq {q r n : Int} (hn : 0 < n ∧ n ≤ 200) (hq : -90000 ≤ q ∧ q ≤ 90000) (hr : -90000 ≤ r ∧ r ≤ 90000) (h : q % n = 0 ∨ r % n = 0 ∨ q % n + r % n = n) :
    Di_nearestTo q r n = some (lineCells q r n) := by
  have q3 := Int.emod_nonneg q (b := n) (by omega)
  have q4 := Int.emod_lt_of_pos q hn.1
  have r3 := Int.emod_nonneg r (b := n) (by omega)
  have r4 := Int.emod_lt_of_pos r hn.1
  have q2 := Int.mul_ediv_add_emod q n
  have r2 := Int.mul_ediv_add_emod r n
  rw [near_all (floorDiv_ok hn (by omega)) (floorDiv_ok hn (by omega)) (by omega) (by omega) (by omega) (ediv_b hn hq) (ediv_b hn hr)]
  congr 1
  unfold lineCells nearOf
  generalize hf : q / n = f at *
  generalize hg : r / n = g at *
  generalize ha : q % n = a at *
  generalize hb : r % n = b at *
  clear hf hg ha hb hq hr
  by_cases c1 : a = 0
  · subst c1
    have e : q = n * f := by omega
    rw [if_pos rfl, e, ← r2]
    by_cases d1 : 2 * b < n
    · rw [nearA1 hn ⟨r3, r4⟩ d1, if_pos d1]; rfl
    · by_cases d2 : n < 2 * b
      · rw [nearA2 hn ⟨r3, r4⟩ d2, if_neg d1, if_pos d2]; rfl
      · rw [nearA3 hn ⟨r3, r4⟩ (by omega), if_neg d1, if_neg d2]; rfl
  · rw [if_neg c1]
    by_cases c2 : b = 0
    · subst c2
      have e : r = n * g := by omega
      rw [if_pos rfl, e, ← q2]
      by_cases d1 : 2 * a < n
      · rw [nearB1 hn ⟨q3, q4⟩ d1, if_pos d1]; rfl
      · by_cases d2 : n < 2 * a
        · rw [nearB2 hn ⟨q3, q4⟩ d2, if_neg d1, if_pos d2]; rfl
        · rw [nearB3 hn ⟨q3, q4⟩ (by omega), if_neg d1, if_neg d2]; rfl
    · rw [if_neg c2]
      have e : b = n - a := by omega
      subst e
      rw [← q2, ← r2]
      by_cases d1 : 2 * a < n
      · rw [nearC1 hn ⟨q3, q4⟩ d1, if_pos d1]
        simp only [List.map_cons, List.map_nil, List.cons.injEq, Gi_Hex.mk.injEq, and_true, true_and]
        omega
      · by_cases d2 : n < 2 * a
        · rw [nearC2 hn ⟨q3, q4⟩ d2, if_neg d1, if_pos d2]
          simp only [List.map_cons, List.map_nil, List.cons.injEq, Gi_Hex.mk.injEq, and_true, true_and]
          omega
        · rw [nearC3 hn ⟨q3, q4⟩ (by omega), if_neg d1, if_neg d2]
          simp only [List.map_cons, List.map_nil, List.cons.injEq, Gi_Hex.mk.injEq, and_true, true_and]
          omega

theorem tm0 {q n : Int} (hn : 0 < n) : q.tmod n = 0 ↔ q % n = 0 := by
  rw [← Int.dvd_iff_tmod_eq_zero, Int.dvd_iff_emod_eq_zero]

theorem td0 {q n k : Int} (hn : 0 < n) (h : q = n * k) : q.tdiv n = k := by
  subst h
  exact Int.mul_tdiv_cancel_left k (by omega)

theorem hCells_eq {A B : Gi_Hex} {i n : Int} (hn : 0 < n ∧ n ≤ 200) (hi : 0 ≤ i ∧ i ≤ n) (hA : -41 ≤ A.Q ∧ A.Q ≤ 41 ∧ -41 ≤ A.R ∧ A.R ≤ 41) (hB : -41 ≤ B.Q ∧ B.Q ≤ 41 ∧ -41 ≤ B.R ∧ B.R ≤ 41)
    {q r : Int} (eq : q = A.Q * n + (B.Q - A.Q) * i) (er : r = A.R * n + (B.R - A.R) * i)
    (h : q % n = 0 ∨ r % n = 0 ∨ q % n + r % n = n) : Ds_hCells A B i n = some (lineCells q r n) ∧ -90000 ≤ q ∧ q ≤ 90000 ∧ -90000 ≤ r ∧ r ≤ 90000 := by
  have b1 := mulb (a := A.Q) (b := n) (A := 41) (B := 200) (by omega) (by omega)
  have b2 := mulb (a := A.R) (b := n) (A := 41) (B := 200) (by omega) (by omega)
  have b3 := mulb (a := B.Q - A.Q) (b := i) (A := 82) (B := 200) (by omega) (by omega)
  have b4 := mulb (a := B.R - A.R) (b := i) (A := 82) (B := 200) (by omega) (by omega)
  have hq : -90000 ≤ q ∧ q ≤ 90000 := by omega
  have hr : -90000 ≤ r ∧ r ≤ 90000 := by omega
  refine ⟨?_, hq.1, hq.2, hr.1, hr.2⟩
  unfold Ds_hCells
  rw [w64 (n := A.Q * n) (by omega), w64 (n := A.R * n) (by omega), w64 (n := B.Q - A.Q) (by omega), w64 (n := B.R - A.R) (by omega), w64 (n := (B.Q - A.Q) * i) (by omega), w64 (n := (B.R - A.R) * i) (by omega), ← eq, ← er, w64 (n := q) (by omega), w64 (n := r) (by omega)]
  have q3 := Int.emod_nonneg q (b := n) (by omega)
  have q4 := Int.emod_lt_of_pos q hn.1
  have r3 := Int.emod_nonneg r (b := n) (by omega)
  have r4 := Int.emod_lt_of_pos r hn.1
  have q2 := Int.mul_ediv_add_emod q n
  have r2 := Int.mul_ediv_add_emod r n
  have qb := ediv_b hn hq
  have rb := ediv_b hn hr
  rw [if_pos (by omega), hNear_ok hn (q := q) (by omega), hNear_ok hn (q := r) (by omega)]
  simp only [Option.bind_some, tm0 hn.1]
  unfold lineCells
  by_cases c1 : q % n = 0
  · rw [if_pos c1, if_pos c1, cells_h1 hn.1 _ (nearOf_len r n), td0 hn.1 (show q = n * (q / n) by omega), w64 (by omega)]
  · rw [if_neg c1, if_neg c1]
    by_cases c2 : r % n = 0
    · rw [if_pos c2, cells_h2a hn.1 ((tm0 hn.1).2 c2) _ (nearOf_len q n), td0 hn.1 (show r = n * (r / n) by omega), w64 (by omega)]
    · have e : q + r = n * (q / n + r / n + 1) := by
        rw [Int.mul_add, Int.mul_add]
        omega
      rw [if_neg c2, cells_h2b hn.1 (fun x => c2 ((tm0 hn.1).1 x)) _ (nearOf_len q n), w64 (n := q + r) (by omega), td0 hn.1 e, w64 (n := q / n + r / n + 1) (by omega)]
      congr 1
      apply List.map_congr_left
      intro x hx
      have : -200000 ≤ x ∧ x ≤ 200000 := by
        unfold nearOf at hx
        split at hx
        · simp at hx; omega
        · split at hx
          · simp at hx; omega
          · simp at hx; omega
      rw [w64 (by omega)]

/-- The hexes' distance. -/
def hd (A B : Gi_Hex) : Int := ((B.Q - A.Q).natAbs + (B.R - A.R).natAbs + (B.Q - A.Q + (B.R - A.R)).natAbs : Nat) / 2

theorem abs_i {x : Int} (h : -100000 ≤ x ∧ x ≤ 100000) : Di_absOf x = some (x.natAbs : Int) := by
  unfold Di_absOf
  split
  · rw [w64 (by omega)]
    congr 1
    omega
  · congr 1
    omega

theorem abs_s {x : Int} (h : -100000 ≤ x ∧ x ≤ 100000) : Ds_l1Abs x = some (x.natAbs : Int) := by
  unfold Ds_l1Abs Ds_l1Most
  rw [w64 (by omega)]
  split
  · simp only [Option.bind_some]
    congr 1
    omega
  · simp only [Option.bind_some]
    congr 1
    omega

theorem hd_i {A B : Gi_Hex} (hA : -10000 ≤ A.Q ∧ A.Q ≤ 10000 ∧ -10000 ≤ A.R ∧ A.R ≤ 10000) (hB : -10000 ≤ B.Q ∧ B.Q ≤ 10000 ∧ -10000 ≤ B.R ∧ B.R ≤ 10000) : Di_distance A B = some (hd A B) := by
  unfold Di_distance hd
  rw [w64 (n := B.Q - A.Q) (by omega), w64 (n := B.R - A.R) (by omega), w64 (n := B.Q - A.Q + (B.R - A.R)) (by omega), abs_i (by omega), abs_i (by omega), abs_i (by omega)]
  simp only [Option.bind_some]
  rw [w64 (n := ((B.Q - A.Q).natAbs : Int) + ((B.R - A.R).natAbs : Int)) (by omega), w64 (n := ((B.Q - A.Q).natAbs : Int) + ((B.R - A.R).natAbs : Int) + ((B.Q - A.Q + (B.R - A.R)).natAbs : Int)) (by omega), Int.tdiv_eq_ediv_of_nonneg (by omega), w64 (by omega)]
  congr 1

theorem hd_s {A B : Gi_Hex} (hA : -10000 ≤ A.Q ∧ A.Q ≤ 10000 ∧ -10000 ≤ A.R ∧ A.R ≤ 10000) (hB : -10000 ≤ B.Q ∧ B.Q ≤ 10000 ∧ -10000 ≤ B.R ∧ B.R ≤ 10000) : Ds_hDistance A B = some (hd A B) := by
  unfold Ds_hDistance hd
  rw [w64 (n := B.Q - A.Q) (by omega), w64 (n := B.R - A.R) (by omega), w64 (n := B.Q - A.Q + (B.R - A.R)) (by omega), abs_s (by omega), abs_s (by omega), abs_s (by omega)]
  simp only [Option.bind_some]
  rw [w64 (n := ((B.Q - A.Q).natAbs : Int) + ((B.R - A.R).natAbs : Int)) (by omega), w64 (n := ((B.Q - A.Q).natAbs : Int) + ((B.R - A.R).natAbs : Int) + ((B.Q - A.Q + (B.R - A.R)).natAbs : Int)) (by omega), Int.tdiv_eq_ediv_of_nonneg (by omega), w64 (by omega)]
  congr 1

/-- Of three sides the longest is the distance: so a point of a line lies on a grid line. -/
theorem side {A B : Gi_Hex} {n i q r : Int} (hn : 0 < n) (e : n = hd A B) (eq : q = A.Q * n + (B.Q - A.Q) * i) (er : r = A.R * n + (B.R - A.R) * i) : q % n = 0 ∨ r % n = 0 ∨ q % n + r % n = n := by
  have h : B.Q - A.Q = n ∨ B.Q - A.Q = -n ∨ B.R - A.R = n ∨ B.R - A.R = -n ∨ B.Q - A.Q + (B.R - A.R) = n ∨ B.Q - A.Q + (B.R - A.R) = -n := by
    unfold hd at e
    omega
  have z : ∀ k x y : Int, x = y * n + k * i → (k = n ∨ k = -n) → x % n = 0 := by
    intro k x y h1 h2
    apply Int.emod_eq_zero_of_dvd
    rcases h2 with h2 | h2
    · exact ⟨y + i, by subst h2; subst h1; grind⟩
    · exact ⟨y - i, by subst h2; subst h1; grind⟩
  rcases h with h | h | h | h | h | h
  · exact .inl (z _ _ _ eq (.inl h))
  · exact .inl (z _ _ _ eq (.inr h))
  · exact .inr (.inl (z _ _ _ er (.inl h)))
  · exact .inr (.inl (z _ _ _ er (.inr h)))
  all_goals
    have hs : (q + r) % n = 0 := z (B.Q - A.Q + (B.R - A.R)) (q + r) (A.Q + A.R) (by subst eq; subst er; grind) (by omega)
    rw [Int.add_emod] at hs
    have q3 := Int.emod_nonneg q (b := n) (by omega)
    have q4 := Int.emod_lt_of_pos q hn
    have r3 := Int.emod_nonneg r (b := n) (by omega)
    have r4 := Int.emod_lt_of_pos r hn
    rcases Int.lt_or_le (q % n + r % n) n with c | c
    · rw [Int.emod_eq_of_lt (by omega) c] at hs
      omega
    · have := Int.emod_add_mul_ediv (q % n + r % n - n) n
      have e2 : (q % n + r % n) % n = (q % n + r % n - n) % n := (Int.sub_emod_right ..).symm
      rw [e2, Int.emod_eq_of_lt (by omega) (by omega)] at hs
      omega

theorem range_loop {α σ : Type} {B : σ → Option (σ ⊕ List α)} {S : Int → List α → σ} {g : Nat → α} (n : Nat)
    (hs : ∀ (i : Nat) out, i < n → out.length = i → B (S i out) = some (.inl (S ((i + 1 : Nat) : Int) (out ++ [g i])))) (he : ∀ out, B (S n out) = some (.inr out)) :
    loop B (S 0 []) = some ((List.range n).map g) := by
  have key : ∀ (k i : Nat), i + k = n → loop B (S i ((List.range i).map g)) = some ((List.range n).map g) := by
    intro k
    induction k with
    | zero =>
      intro i h
      have : i = n := by omega
      subst this
      rw [loop_eq, he]
      rfl
    | succ k ih =>
      intro i h
      rw [loop_eq, hs i _ (by omega) (by simp)]
      have e : (List.range i).map g ++ [g i] = (List.range (i + 1)).map g := by
        rw [List.range_succ, List.map_append]
        rfl
      rw [e]
      exact ih (i + 1) (by omega)
  exact key n 0 (by omega)

def HexOk (A : Gi_Hex) : Prop := -40 ≤ A.Q ∧ A.Q ≤ 40 ∧ -40 ≤ A.R ∧ A.R ≤ 40

/-- The cells of the line from A to B at step i. -/
def hexLineAt (A B : Gi_Hex) (i : Nat) : List Gi_Hex := lineCells (A.Q * hd A B + (B.Q - A.Q) * i) (A.R * hd A B + (B.R - A.R) * i) (hd A B)
def hexLineR (A B : Gi_Hex) : List (List Gi_Hex) := if hd A B = 0 then [[A]] else (List.range ((hd A B).toNat + 1)).map (hexLineAt A B)

theorem hd_b {A B : Gi_Hex} (hA : HexOk A) (hB : HexOk B) : 0 ≤ hd A B ∧ hd A B ≤ 160 := by
  unfold HexOk at hA hB
  unfold hd
  omega

theorem lineOf_i {A B : Gi_Hex} (hA : HexOk A) (hB : HexOk B) : Di_lineOf A B = some (hexLineR A B) := by
  have hb := hd_b hA hB
  have hA' := hA
  have hB' := hB
  unfold HexOk at hA' hB'
  unfold Di_lineOf hexLineR
  rw [hd_i (by omega) (by omega)]
  simp only [Option.bind_some]
  by_cases c : hd A B = 0
  · rw [if_pos c, if_pos c]
  · rw [if_neg c, if_neg c]
    refine range_loop (S := fun i out => Si_lineOf.h1 (hd A B) i A B out) (g := hexLineAt A B) _ ?_ ?_
    · intro i out hi ho
      obtain ⟨_, q1, q2, r1, r2⟩ := hCells_eq (A := A) (B := B) (i := i) (n := hd A B) (by omega) (by omega) (by omega) (by omega) rfl rfl (side (by omega) rfl rfl rfl)
      have h3 := nearest_eq (n := hd A B) (by omega) ⟨q1, q2⟩ ⟨r1, r2⟩ (side (by omega) rfl rfl rfl)
      have b1 := mulb (a := A.Q) (b := hd A B) (A := 41) (B := 200) (by omega) (by omega)
      have b2 := mulb (a := A.R) (b := hd A B) (A := 41) (B := 200) (by omega) (by omega)
      have b3 := mulb (a := B.Q - A.Q) (b := i) (A := 82) (B := 200) (by omega) (by omega)
      have b4 := mulb (a := B.R - A.R) (b := i) (A := 82) (B := 200) (by omega) (by omega)
      simp only [Bi_lineOf]
      rw [if_pos (by omega), Int.mul_comm (i : Int), Int.mul_comm (i : Int), w64 (n := B.Q - A.Q) (by omega), w64 (n := B.R - A.R) (by omega), w64 (n := A.Q * hd A B) (by omega), w64 (n := A.R * hd A B) (by omega), w64 (n := (B.Q - A.Q) * i) (by omega), w64 (n := (B.R - A.R) * i) (by omega), w64 (n := A.Q * hd A B + (B.Q - A.Q) * i) (by omega), w64 (n := A.R * hd A B + (B.R - A.R) * i) (by omega), h3]
      simp only [Option.bind_some]
      rw [if_pos (by rw [List.length_append, List.length_singleton]; omega), wsucc (by omega)]
      rfl
    · intro out
      simp only [Bi_lineOf]
      rw [if_neg (by omega)]

theorem hLine_s {A B : Gi_Hex} (hA : HexOk A) (hB : HexOk B) : Ds_hLine A B = some (hexLineR A B) := by
  have hb := hd_b hA hB
  have hA' := hA
  have hB' := hB
  unfold HexOk at hA' hB'
  unfold Ds_hLine hexLineR
  rw [hd_s (by omega) (by omega)]
  simp only [Option.bind_some]
  by_cases c : hd A B = 0
  · rw [if_pos c, if_pos c]
  · rw [if_neg c, if_neg c]
    refine range_loop (S := fun i out => Ss_hLine.h1 (hd A B) i A B out) (g := hexLineAt A B) _ ?_ ?_
    · intro i out hi ho
      obtain ⟨h3, _⟩ := hCells_eq (A := A) (B := B) (i := i) (n := hd A B) (by omega) (by omega) (by omega) (by omega) rfl rfl (side (by omega) rfl rfl rfl)
      simp only [Bs_hLine]
      rw [if_pos (by omega), h3]
      simp only [Option.bind_some]
      rw [if_pos (by rw [List.length_append, List.length_singleton]; omega), wsucc (by omega)]
      rfl
    · intro out
      simp only [Bs_hLine]
      rw [if_neg (by omega)]

theorem same_hexes {l : List Gi_Hex} (hl : l.length < 9223372036854775807) : Dw_pSameHexes l l = some true := by
  unfold Dw_pSameHexes
  rw [if_pos rfl]
  refine true_loop (S := fun i => Sw_pSameHexes.h1 l l (l.length : Int) (i : Int)) (n := l.length) ?_ ?_
  · intro i hi
    simp only [Bw_pSameHexes]
    rw [if_pos (by omega), if_pos (by omega), Int.toNat_natCast, List.getElem?_eq_getElem hi]
    simp only [Option.bind_some, BEq.rfl, Bool.and_self, Bool.not_true, Bool.false_eq_true, if_false]
    rw [if_pos (by omega), wsucc (by omega)]
  · simp only [Bw_pSameHexes]
    rw [if_neg (by omega)]

theorem same_lines {l : List (List Gi_Hex)} (hl : l.length < 9223372036854775807) (h : ∀ x ∈ l, x.length < 9223372036854775807) : Dw_pSameLines l l = some true := by
  unfold Dw_pSameLines
  rw [if_pos rfl]
  refine true_loop (S := fun i => Sw_pSameLines.h1 l l (l.length : Int) (i : Int)) (n := l.length) ?_ ?_
  · intro i hi
    simp only [Bw_pSameLines]
    rw [if_pos (by omega), if_pos (by omega), Int.toNat_natCast, List.getElem?_eq_getElem hi]
    simp only [Option.bind_some, same_hexes (h _ (List.getElem_mem hi))]
    rw [if_pos (by omega), if_pos trivial, wsucc (by omega)]
  · simp only [Bw_pSameLines]
    rw [if_neg (by omega)]

theorem bndX {n X d i u : Int} (hn : 0 < n) (hd : -n ≤ d ∧ d ≤ n) (hi : 0 ≤ i) (hu : -n < u ∧ u < n) (e : n * X = d * i + u) : -i ≤ X ∧ X ≤ i := by
  have h1 := Int.mul_le_mul_of_nonneg_right hd.2 hi
  have h2 := Int.mul_le_mul_of_nonneg_right hd.1 hi
  have h5 : -n * i = -(n * i) := Int.neg_mul ..
  constructor
  · rcases Int.lt_or_le X (-i) with h | h
    · have h3 := Int.mul_le_mul_of_nonneg_left (show X ≤ -i - 1 by omega) (show 0 ≤ n by omega)
      have h4 : n * (-i - 1) = -(n * i) - n := by grind
      omega
    · exact h
  · rcases Int.lt_or_le i X with h | h
    · have h3 := Int.mul_le_mul_of_nonneg_left (show i + 1 ≤ X by omega) (show 0 ≤ n by omega)
      have h4 : n * (i + 1) = n * i + n := by grind
      omega
    · exact h

theorem exX {n X d i : Int} (hn : 0 < n) (hd : d = n ∨ d = -n) (e : n * X = d * i) : X = i ∨ X = -i := by
  rcases hd with h | h
  · left
    subst h
    exact Int.eq_of_mul_eq_mul_left (by omega) e
  · right
    subst h
    exact Int.eq_of_mul_eq_mul_left (show n ≠ 0 by omega) (by rw [e]; grind)

theorem near_mem {q n x : Int} (hn : 0 < n) (h : x ∈ nearOf q n) : (n * x - q = -(q % n) ∧ 2 * (q % n) ≤ n ∧ x = q / n) ∨ (n * x - q = n - q % n ∧ n ≤ 2 * (q % n) ∧ x = q / n + 1) := by
  have q2 := Int.mul_ediv_add_emod q n
  have e : n * (q / n + 1) = n * (q / n) + n := by grind
  unfold nearOf at h
  split at h
  · simp only [List.mem_singleton] at h
    subst h
    left
    omega
  · split at h
    · simp only [List.mem_singleton] at h
      subst h
      right
      omega
    · simp only [List.mem_cons, List.not_mem_nil, or_false] at h
      rcases h with h | h
      · subst h
        left
        omega
      · subst h
        right
        omega

theorem cell_uv {q r n : Int} (hn : 0 < n) (h : q % n = 0 ∨ r % n = 0 ∨ q % n + r % n = n) {x : Gi_Hex} (hx : x ∈ lineCells q r n) :
    ∃ u v, n * x.Q = q + u ∧ n * x.R = r + v ∧ (-n < u ∧ u < n) ∧ (-n < v ∧ v < n) ∧ (-n < u + v ∧ u + v < n) ∧ (q % n = 0 → u = 0) ∧ (r % n = 0 → v = 0) ∧ (q % n + r % n = 0 ∨ q % n + r % n = n → u + v = 0) := by
  have q3 := Int.emod_nonneg q (b := n) (by omega)
  have q4 := Int.emod_lt_of_pos q hn
  have r3 := Int.emod_nonneg r (b := n) (by omega)
  have r4 := Int.emod_lt_of_pos r hn
  have q2 := Int.mul_ediv_add_emod q n
  have r2 := Int.mul_ediv_add_emod r n
  refine ⟨n * x.Q - q, n * x.R - r, by omega, by omega, ?_⟩
  unfold lineCells at hx
  split at hx
  · obtain ⟨y, hy, rfl⟩ := List.mem_map.1 hx
    have := near_mem hn hy
    simp only
    omega
  · split at hx
    · obtain ⟨y, hy, rfl⟩ := List.mem_map.1 hx
      have := near_mem hn hy
      simp only
      omega
    · obtain ⟨y, hy, rfl⟩ := List.mem_map.1 hx
      have h1 := near_mem hn hy
      simp only
      have e : n * (q / n + r / n + 1 - y) = n * (q / n) + n * (r / n) + n - n * y := by grind
      omega

theorem cell_ok {A B : Gi_Hex} (hA : HexOk A) (hB : HexOk B) (hn : 0 < hd A B) {i : Nat} (hi : (i : Int) ≤ hd A B) {x : Gi_Hex} (hx : x ∈ hexLineAt A B i) :
    HexOk x ∧ hd A x = i ∧ hd x B = hd A B - i := by
  unfold hexLineAt at hx
  have hs := side hn rfl (i := i) (q := A.Q * hd A B + (B.Q - A.Q) * i) (r := A.R * hd A B + (B.R - A.R) * i) rfl rfl
  obtain ⟨u, v, e1, e2, hu, hv, huv, z1, z2, z3⟩ := cell_uv hn hs hx
  have hside : (-hd A B ≤ B.Q - A.Q ∧ B.Q - A.Q ≤ hd A B) ∧ (-hd A B ≤ B.R - A.R ∧ B.R - A.R ≤ hd A B) ∧ (-hd A B ≤ B.Q - A.Q + (B.R - A.R) ∧ B.Q - A.Q + (B.R - A.R) ≤ hd A B) := by
    unfold hd
    omega
  have hex : (B.Q - A.Q = hd A B ∨ B.Q - A.Q = -hd A B) ∨ (B.R - A.R = hd A B ∨ B.R - A.R = -hd A B) ∨ (B.Q - A.Q + (B.R - A.R) = hd A B ∨ B.Q - A.Q + (B.R - A.R) = -hd A B) := by
    unfold hd
    omega
  have zz : ∀ k x y : Int, (k = hd A B ∨ k = -hd A B) → (y * hd A B + k * x) % hd A B = 0 := by
    intro k x y h2
    apply Int.emod_eq_zero_of_dvd
    rcases h2 with h2 | h2
    · exact ⟨y + x, by rw [h2]; grind⟩
    · exact ⟨y - x, by rw [h2]; grind⟩
  have exq : B.Q - A.Q = hd A B ∨ B.Q - A.Q = -hd A B → u = 0 := fun h => z1 (zz _ _ _ h)
  have exr : B.R - A.R = hd A B ∨ B.R - A.R = -hd A B → v = 0 := fun h => z2 (zz _ _ _ h)
  have exs : B.Q - A.Q + (B.R - A.R) = hd A B ∨ B.Q - A.Q + (B.R - A.R) = -hd A B → u + v = 0 := by
    intro h
    apply z3
    have hz := zz _ (i : Int) (A.Q + A.R) h
    have e : (A.Q + A.R) * hd A B + (B.Q - A.Q + (B.R - A.R)) * i = (A.Q * hd A B + (B.Q - A.Q) * i) + (A.R * hd A B + (B.R - A.R) * i) := by grind
    rw [e, Int.add_emod] at hz
    have q3 := Int.emod_nonneg (A.Q * hd A B + (B.Q - A.Q) * i) (b := hd A B) (by omega)
    have q4 := Int.emod_lt_of_pos (A.Q * hd A B + (B.Q - A.Q) * i) hn
    have r3 := Int.emod_nonneg (A.R * hd A B + (B.R - A.R) * i) (b := hd A B) (by omega)
    have r4 := Int.emod_lt_of_pos (A.R * hd A B + (B.R - A.R) * i) hn
    generalize (A.Q * hd A B + (B.Q - A.Q) * i) % hd A B = a at *
    generalize (A.R * hd A B + (B.R - A.R) * i) % hd A B = b at *
    rcases Int.lt_or_le (a + b) (hd A B) with c | c
    · rw [Int.emod_eq_of_lt (by omega) c] at hz
      exact .inl hz
    · have e2 : (a + b) % hd A B = (a + b - hd A B) % hd A B := (Int.sub_emod_right ..).symm
      rw [e2, Int.emod_eq_of_lt (by omega) (by omega)] at hz
      omega
  generalize hN : hd A B = n at *
  have a1 : n * (x.Q - A.Q) = (B.Q - A.Q) * i + u := by grind
  have a2 : n * (x.R - A.R) = (B.R - A.R) * i + v := by grind
  have a3 : n * (x.Q - A.Q + (x.R - A.R)) = (B.Q - A.Q + (B.R - A.R)) * i + (u + v) := by grind
  have c1 : n * (B.Q - x.Q) = (B.Q - A.Q) * (n - i) + -u := by grind
  have c2 : n * (B.R - x.R) = (B.R - A.R) * (n - i) + -v := by grind
  have c3 : n * (B.Q - x.Q + (B.R - x.R)) = (B.Q - A.Q + (B.R - A.R)) * (n - i) + -(u + v) := by grind
  have d1 := bndX hn hside.1 (by omega) hu a1
  have d2 := bndX hn hside.2.1 (by omega) hv a2
  have d3 := bndX hn hside.2.2 (by omega) huv a3
  have f1 := bndX hn hside.1 (by omega) (by omega) c1
  have f2 := bndX hn hside.2.1 (by omega) (by omega) c2
  have f3 := bndX hn hside.2.2 (by omega) (by omega) c3
  have hA' := hA
  have hB' := hB
  unfold HexOk at hA' hB'
  have both : hd A x = i ∧ hd x B = n - i := by
    unfold hd
    rcases hex with h | h | h
    · have g1 := exX hn h (by rw [a1, exq h, Int.add_zero])
      have g2 := exX hn h (by rw [c1, exq h, Int.neg_zero, Int.add_zero])
      omega
    · have g1 := exX hn h (by rw [a2, exr h, Int.add_zero])
      have g2 := exX hn h (by rw [c2, exr h, Int.neg_zero, Int.add_zero])
      omega
    · have g1 := exX hn h (by rw [a3, exs h, Int.add_zero])
      have g2 := exX hn h (by rw [c3, exs h, Int.neg_zero, Int.add_zero])
      omega
  refine ⟨?_, both⟩
  have bo : ∀ a b y w : Int, -40 ≤ a ∧ a ≤ 40 → -40 ≤ b ∧ b ≤ 40 → n * y = a * n + (b - a) * i + w → (-n < w ∧ w < n) → -40 ≤ y ∧ y ≤ 40 := by
    intro a b y w ha hb e hw
    have e' : n * y = a * (n - i) + b * i + w := by grind
    have p1 := Int.mul_le_mul_of_nonneg_right ha.2 (show 0 ≤ n - i by omega)
    have p2 := Int.mul_le_mul_of_nonneg_right ha.1 (show 0 ≤ n - i by omega)
    have p3 := Int.mul_le_mul_of_nonneg_right hb.2 (show (0 : Int) ≤ i by omega)
    have p4 := Int.mul_le_mul_of_nonneg_right hb.1 (show (0 : Int) ≤ i by omega)
    constructor
    · rcases Int.lt_or_le y (-40) with h | h
      · have := Int.mul_le_mul_of_nonneg_left (show y ≤ -41 by omega) (show 0 ≤ n by omega)
        omega
      · exact h
    · rcases Int.lt_or_le 40 y with h | h
      · have := Int.mul_le_mul_of_nonneg_left (show 41 ≤ y by omega) (show 0 ≤ n by omega)
        omega
      · exact h
  have k1 := bo A.Q B.Q x.Q u (by omega) (by omega) e1 hu
  have k2 := bo A.R B.R x.R v (by omega) (by omega) e2 hv
  exact ⟨k1.1, k1.2, k2.1, k2.2⟩

instance hexOkDec (A : Gi_Hex) : Decidable (HexOk A) := by unfold HexOk; infer_instance

theorem isHex_i (A : Gi_Hex) : Di_IsHex A = some (decide (HexOk A)) := by
  have _ := hexOkDec A
  unfold Di_IsHex Di_inRange HexOk
  by_cases c1 : -40 ≤ A.Q <;> by_cases c2 : A.Q ≤ 40 <;> by_cases c3 : -40 ≤ A.R <;> by_cases c4 : A.R ≤ 40 <;> simp [c1, c2, c3, c4]

theorem good_s (A : Gi_Hex) : Ds_hGood A = some (decide (HexOk A)) := by
  have _ := hexOkDec A
  unfold Ds_hGood Ds_l1In HexOk
  by_cases c1 : -40 ≤ A.Q <;> by_cases c2 : A.Q ≤ 40 <;> by_cases c3 : -40 ≤ A.R <;> by_cases c4 : A.R ≤ 40 <;> simp [c1, c2, c3, c4]

theorem all_hexes {l : List Gi_Hex} (hl : l.length < 9223372036854775807) (h : ∀ x ∈ l, HexOk x) : Di_allHexes l = some true := by
  unfold Di_allHexes
  refine true_loop (S := fun i => Si_allHexes.h1 l (l.length : Int) (i : Int)) (n := l.length) ?_ ?_
  · intro i hi
    simp only [Bi_allHexes]
    rw [if_pos (by omega), if_pos (by omega), Int.toNat_natCast, List.getElem?_eq_getElem hi]
    simp only [Option.bind_some, isHex_i, decide_eq_true (h _ (List.getElem_mem hi)), if_true]
    rw [wsucc (by omega)]
  · simp only [Bi_allHexes]
    rw [if_neg (by omega)]

theorem lineCells_len (q r n : Int) : (lineCells q r n).length ≤ 2 := by
  have h1 := nearOf_len q n
  have h2 := nearOf_len r n
  unfold lineCells
  split
  · simpa using h2
  · split <;> simpa using h1

theorem hexLineR_mem {A B : Gi_Hex} (hA : HexOk A) (hB : HexOk B) {i : Nat} {c : List Gi_Hex} (h : (hexLineR A B)[i]? = some c) :
    c.length ≤ 2 ∧ ((hexLineR A B).length : Int) = hd A B + 1 ∧ ∀ x ∈ c, HexOk x ∧ hd A x = i ∧ hd x B = hd A B - i := by
  have hb := hd_b hA hB
  unfold hexLineR at h ⊢
  by_cases c0 : hd A B = 0
  · rw [if_pos c0] at h ⊢
    cases i with
    | zero =>
      simp only [List.getElem?_cons_zero, Option.some.injEq] at h
      subst h
      refine ⟨by simp, by simp [c0], ?_⟩
      intro x hx
      simp only [List.mem_singleton] at hx
      subst hx
      refine ⟨hA, ?_, by omega⟩
      unfold hd
      omega
    | succ i => simp at h
  · rw [if_neg c0] at h ⊢
    have hi : i < (hd A B).toNat + 1 := by
      have := (List.getElem?_eq_some_iff.1 h).1
      simpa using this
    rw [List.getElem?_map, List.getElem?_range hi] at h
    simp only [Option.map_some, Option.some.injEq] at h
    subst h
    refine ⟨lineCells_len _ _ _, ?_, fun x hx => cell_ok hA hB (by omega) (by omega) hx⟩
    simp only [List.length_map, List.length_range]
    omega

theorem hexLineR_len {A B : Gi_Hex} (hA : HexOk A) (hB : HexOk B) : ((hexLineR A B).length : Int) = hd A B + 1 := by
  have hb := hd_b hA hB
  unfold hexLineR
  split
  · simp only [List.length_singleton]; omega
  · simp only [List.length_map, List.length_range]; omega

theorem LineOf_i (A B : Gi_Hex) : Di_LineOf A B = some (if HexOk A ∧ HexOk B then (hexLineR A B, true) else ([], false)) := by
  unfold Di_LineOf
  rw [isHex_i, isHex_i]
  by_cases hA : HexOk A
  · by_cases hB : HexOk B
    · simp only [Option.bind_some, decide_eq_true hA, decide_eq_true hB, if_true, lineOf_i hA hB, hA, hB, and_self]
      have hb := hd_b hA hB
      have hl := hexLineR_len hA hB
      refine true_loop (S := fun i => Si_LineOf.h1 ((hexLineR A B).length : Int) (i : Int) (hexLineR A B)) (n := (hexLineR A B).length) ?_ ?_
      · intro i hi
        have hx := List.getElem?_eq_getElem hi
        have hm := hexLineR_mem hA hB hx
        simp only [Bi_LineOf]
        rw [if_pos (by omega), if_pos (by omega), Int.toNat_natCast, hx]
        simp only [Option.bind_some, all_hexes (by omega) (fun x h => (hm.2.2 x h).1), if_true]
        rw [wsucc (by omega)]
      · simp only [Bi_LineOf]
        rw [if_neg (by omega)]
    · simp [hA, hB]
  · simp [hA]

theorem LineOf_s (A B : Gi_Hex) : Ds_LineOf A B = some (if HexOk A ∧ HexOk B then (hexLineR A B, true) else ([], false)) := by
  unfold Ds_LineOf
  rw [good_s, good_s]
  by_cases hA : HexOk A
  · by_cases hB : HexOk B
    · simp [hA, hB, hLine_s hA hB]
    · simp [hA, hB]
  · simp [hA]

theorem dist_i {A B : Gi_Hex} (hA : HexOk A) (hB : HexOk B) : Di_DistanceOf A B = some (hd A B, true) := by
  have hA' := hA
  have hB' := hB
  unfold HexOk at hA' hB'
  unfold Di_DistanceOf
  rw [isHex_i, isHex_i, hd_i (by omega) (by omega)]
  simp only [Option.bind_some, decide_eq_true hA, decide_eq_true hB, if_true]

theorem hd_comm (A B : Gi_Hex) : hd A B = hd B A := by
  unfold hd
  omega

theorem hexLineR_turn {A B : Gi_Hex} (hA : HexOk A) (hB : HexOk B) {i : Nat} (hi : i < (hexLineR A B).length) : (hexLineR B A)[(hexLineR A B).length - 1 - i]? = (hexLineR A B)[i]? := by
  have hb := hd_b hA hB
  have hl := hexLineR_len hA hB
  have hc := hd_comm A B
  have e : (hexLineR A B).length = (hd A B).toNat + 1 := by omega
  rw [e] at hi ⊢
  unfold hexLineR
  rw [← hc]
  by_cases c0 : hd A B = 0
  · rw [if_pos c0, if_pos c0]
    have hi0 : i = 0 := by omega
    have hAB : A = B := by
      unfold hd at c0
      cases A
      cases B
      simp only [Gi_Hex.mk.injEq] at c0 ⊢
      omega
    subst hi0
    subst hAB
    simp [c0]
  · rw [if_neg c0, if_neg c0, List.getElem?_map, List.getElem?_map, List.getElem?_range (by omega), List.getElem?_range hi]
    simp only [Option.map_some, Option.some.injEq]
    unfold hexLineAt
    rw [← hc]
    have e2 : (((hd A B).toNat + 1 - 1 - i : Nat) : Int) = hd A B - i := by omega
    rw [e2]
    congr 1 <;> grind

theorem lines2 {A B : Gi_Hex} (L M : List (List Gi_Hex)) (t0 t2 : Int) (c : List Gi_Hex) (hA : HexOk A) (hB : HexOk B) (hb : 0 ≤ hd A B ∧ hd A B ≤ 160) (hl : (L.length : Int) = hd A B + 1) (t1 : Int) (h2 : c.length ≤ 2) (hc : ∀ x ∈ c, HexOk x ∧ hd A x = t0 ∧ hd x B = hd A B - t0) (ht : 0 ≤ t2 ∧ t2 < 1000) :
    ∀ (k j : Nat), j + k = c.length → loop Bw_FnLines (.h2 t0 t1 t2 c (c.length : Int) (j : Int) A B L M) = loop Bw_FnLines (.h1 t1 (t2 + 1) A B L M) := by
  intro k
  induction k with
  | zero =>
    intro j hj
    rw [loop_eq]
    simp only [Bw_FnLines]
    rw [if_neg (by omega), w64 (n := t2 + 1) (by omega)]
    rfl
  | succ k ih =>
    intro j hj
    have hlt : j < c.length := by omega
    obtain ⟨x1, x2, x3⟩ := hc _ (List.getElem_mem hlt)
    rw [loop_eq]
    simp only [Bw_FnLines]
    have hb1 := hd_b hA x1
    have hb2 := hd_b x1 hB
    rw [if_pos (by omega), if_pos (by omega), Int.toNat_natCast, List.getElem?_eq_getElem hlt]
    simp only [Option.bind_some, dist_i hA x1, dist_i x1 hB, if_true]
    rw [w64 (n := hd A c[j] + hd c[j] B) (by omega), w64 (n := (L.length : Int) - 1) (by omega), if_pos (by omega), if_pos x2, wsucc (by omega)]
    exact ih (j + 1) (by omega)

theorem lines1 {A B : Gi_Hex} (hA : HexOk A) (hB : HexOk B) :
    ∀ (k i : Nat), i + k = (hexLineR A B).length → loop Bw_FnLines (.h1 ((hexLineR A B).length : Int) (i : Int) A B (hexLineR A B) (hexLineR B A)) = some true := by
  have hb := hd_b hA hB
  have hl := hexLineR_len hA hB
  intro k
  induction k with
  | zero =>
    intro i hi
    rw [loop_eq]
    simp only [Bw_FnLines]
    rw [if_neg (by omega)]
    rfl
  | succ k ih =>
    intro i hi
    have hlt : i < (hexLineR A B).length := by omega
    have hx := List.getElem?_eq_getElem hlt
    obtain ⟨h2, _, hc⟩ := hexLineR_mem hA hB hx
    have ht := hexLineR_turn hA hB hlt
    rw [hx] at ht
    rw [loop_eq]
    simp only [Bw_FnLines]
    rw [if_pos (by omega), if_pos (by omega), Int.toNat_natCast, hx]
    simp only [Option.bind_some]
    rw [w64 (n := ((hexLineR A B).length : Int) - 1) (by omega), w64 (n := ((hexLineR A B).length : Int) - 1 - i) (by omega), if_pos (by omega), show (((hexLineR A B).length : Int) - 1 - i).toNat = (hexLineR A B).length - 1 - i by omega, ht]
    simp only [Option.bind_some, same_hexes (show ((hexLineR A B)[i]).length < 9223372036854775807 by omega), if_true, goOn]
    have := lines2 (hexLineR A B) (hexLineR B A) i i _ hA hB hb hl ((hexLineR A B).length : Int) h2 hc (by omega) _ 0 (Nat.zero_add _)
    rw [show ((0 : Nat) : Int) = 0 from rfl] at this
    rw [this]
    exact ih (i + 1) (by omega)

theorem lawLines_of (code more : List Int) (hbig : ∃ b, Dw_big code more = some b) (hdr : (Dw_big code more = some false) → ∃ p, Ds_DrawLineOf code = some p) : Dw_FnLines code more = some true := by
  unfold Dw_FnLines
  obtain ⟨b, eb⟩ := hbig
  cases b with
  | true => simp only [eb, Option.bind_some, if_true]
  | false =>
    obtain ⟨⟨A, B⟩, ed⟩ := hdr eb
    simp only [eb, ed, Option.bind_some, Bool.false_eq_true, if_false, LineOf_i, LineOf_s]
    by_cases h : HexOk A ∧ HexOk B
    · have hb := hd_b h.1 h.2
      have hl := hexLineR_len h.1 h.2
      have hl2 := hexLineR_len h.2 h.1
      have hc := hd_comm A B
      have hs : Dw_pSameLines (hexLineR A B) (hexLineR A B) = some true := by
        refine same_lines (by omega) fun x hx => ?_
        obtain ⟨i, hi, e⟩ := List.mem_iff_getElem.1 hx
        have := (hexLineR_mem h.1 h.2 (i := i) (c := x) (by rw [List.getElem?_eq_getElem hi, e])).1
        omega
      have h' : HexOk B ∧ HexOk A := ⟨h.2, h.1⟩
      rw [if_pos h, if_pos h']
      simp only [if_true, BEq.rfl, Bool.not_true, Bool.false_eq_true, if_false, hs, Option.bind_some]
      rw [if_pos (by omega)]
      exact lines1 h.1 h.2 _ 0 (Nat.zero_add _)
    · have hs : Dw_pSameLines [] [] = some true := same_lines (by simp) (by simp)
      rw [if_neg h]
      simp only [BEq.rfl, Bool.not_true, Bool.false_eq_true, if_false, hs, Option.bind_some, if_true]

theorem cuHex {c : Gs_l1Cur} {k : Int} (h : Cu c k) (hk : k + 8 ≤ 1099511627776) : ∃ v c', Ds_l1Cur_hex c = some (v, c') ∧ Cu c' (k + 8) := by
  obtain ⟨v1, c1, e1, _, h1⟩ := cuPick h (by omega) 13
  obtain ⟨v2, c2, e2, _, h2⟩ := cuPick h1 (by omega) 13
  obtain ⟨v3, c3, e3, _, h3⟩ := cuPick h2 (by omega) 16
  obtain ⟨v4, c4, e4, _, h4⟩ := cuAmong h3 (by omega) [40, (-40), 38] (by simp)
  obtain ⟨v5, c5, e5, _, h5⟩ := cuAmong h3 (by omega) [40, (-40), 39] (by simp)
  unfold Ds_l1Cur_hex
  rw [e1, Option.bind_some, e2, Option.bind_some, e3, Option.bind_some]
  by_cases z : v3 = 0
  · rw [if_pos z, e4]
    exact ⟨_, _, rfl, h4.mono (by omega) (by omega)⟩
  · rw [if_neg z]
    by_cases z1 : v3 = 1
    · rw [if_pos z1, e5]
      exact ⟨_, _, rfl, h5.mono (by omega) (by omega)⟩
    · rw [if_neg z1]
      exact ⟨_, _, rfl, h3.mono (by omega) (by omega)⟩

theorem cuAnyHex {c : Gs_l1Cur} {k : Int} (h : Cu c k) (hk : k + 12 ≤ 1099511627776) : ∃ v c', Ds_l1Cur_anyHex c = some (v, c') ∧ Cu c' (k + 12) := by
  obtain ⟨v1, c1, e1, h1⟩ := cuHex h (by omega)
  obtain ⟨v2, c2, e2, h2⟩ := cuOne h1 (by omega) 24
  obtain ⟨v4, c4, e4, _, h4⟩ := cuAmong h2 (by omega) [41, (-41)] (by simp)
  unfold Ds_l1Cur_anyHex
  rw [e1, Option.bind_some, e2, Option.bind_some]
  by_cases z : v2 = true
  · rw [if_pos z, e4]
    exact ⟨_, _, rfl, h4.mono (by omega) (by omega)⟩
  · rw [if_neg z]
    exact ⟨_, _, rfl, h2.mono (by omega) (by omega)⟩

theorem drawLineOf {code : List Int} (h : ∀ x ∈ code, 0 ≤ x ∧ x < 256) (hl : code.length ≤ 1048576) : ∃ r, Ds_DrawLineOf code = some r := by
  obtain ⟨v1, c1, e1, h1⟩ := cuAnyHex (cu0 h hl) (by omega)
  obtain ⟨v2, c2, e2, h2⟩ := cuAnyHex h1 (by omega)
  unfold Ds_DrawLineOf Ds_DrawDistanceOf
  rw [e1, Option.bind_some, e2]
  exact ⟨_, rfl⟩

theorem lawLines (code more : List Int) (hc : code.length < 9223372036854775808) (hm : more.length < 9223372036854775808) (h1 : ∀ x ∈ code, 0 ≤ x ∧ x < 256) (h2 : ∀ x ∈ more, 0 ≤ x ∧ x < 256) : Dw_FnLines code more = some true := by
  have eb := eBig code more hc hm
  refine lawLines_of code more ⟨_, eb⟩ fun h => drawLineOf h1 ?_
  rw [eb, Option.some.injEq] at h
  have := of_decide_eq_false h
  omega

end Go.Proofs.Ytlniejjcejackaa.Ab
