/- Part of the proof of FnStepsCard: no condition of its own. -/
import Derived.Test.YtlniejjcejackaaDoorB1FnStepsD
import Derived.Test.YtlniejjcejackaaDoorPuA
set_option linter.unusedVariables false
set_option linter.unusedSimpArgs false
open Go
namespace Go.Proofs.YtlniejjcejackaaDoor.Ab
structure Cu (c : Gs_l1Cur) (k : Int) : Prop where
  at0 : 0 ≤ c.at_
  atk : c.at_ ≤ k
  kk : k ≤ 1099511627776
  code : ∀ x ∈ c.code, 0 ≤ x ∧ x < 256
  len : c.code.length ≤ 1048576

theorem Cu.mono {c : Gs_l1Cur} {k k' : Int} (h : Cu c k) (hk : k ≤ k') (hb : k' ≤ 1099511627776) : Cu c k' := ⟨h.at0, by have := h.atk; omega, hb, h.code, h.len⟩

theorem and255 (x : Int) : 0 ≤ IntKind.wrap .i64 (IntKind.wrap .u64 ((BitVec.toNat (BitVec.ofInt (IntKind.bits .u64) x &&& BitVec.ofInt (IntKind.bits .u64) 255) : Nat) : Int)) ∧ IntKind.wrap .i64 (IntKind.wrap .u64 ((BitVec.toNat (BitVec.ofInt (IntKind.bits .u64) x &&& BitVec.ofInt (IntKind.bits .u64) 255) : Nat) : Int)) < 256 := by
  have h : (BitVec.ofInt (IntKind.bits .u64) x &&& BitVec.ofInt (IntKind.bits .u64) 255).toNat ≤ 255 := by
    rw [BitVec.toNat_and]
    have e : (BitVec.ofInt (IntKind.bits .u64) 255).toNat = 255 := by decide
    rw [e]
    exact Nat.and_le_right
  generalize (BitVec.ofInt (IntKind.bits .u64) x &&& BitVec.ofInt (IntKind.bits .u64) 255).toNat = n at h
  have h2 : IntKind.wrap .u64 (n : Int) = (n : Int) := by
    simp only [IntKind.wrap, IntKind.bits, IntKind.signed]
    simp
    omega
  rw [h2, w64 (by omega)]
  omega

theorem cuNext {c : Gs_l1Cur} {k : Int} (h : Cu c k) (hk : k + 1 ≤ 1099511627776) : ∃ v c', Ds_l1Cur_next c = some (v, c') ∧ (0 ≤ v ∧ v < 256) ∧ Cu c' (k + 1) := by
  have h0 := h.at0
  have h1 := h.atk
  have mk : ∀ s, Cu ⟨c.code, c.at_ + 1, s⟩ (k + 1) := fun s => ⟨by simp only; omega, by simp only; omega, hk, h.code, h.len⟩
  unfold Ds_l1Cur_next
  rw [w64 (n := c.at_ + 1) (by omega)]
  by_cases ha : c.at_ < (c.code.length : Int)
  · have hlt : c.at_.toNat < c.code.length := by omega
    have hx := List.getElem?_eq_getElem hlt
    have hv := h.code _ (List.mem_of_getElem? hx)
    rw [if_pos ha, if_pos h0, hx]
    simp only [Option.bind_some]
    split
    · exact ⟨_, _, rfl, by rw [w64 (by omega)]; exact hv, mk _⟩
    · exact ⟨_, _, rfl, and255 _, mk _⟩
  · rw [if_neg ha]
    split
    · exact ⟨_, _, rfl, by omega, mk _⟩
    · exact ⟨_, _, rfl, and255 _, mk _⟩

theorem cuPick {c : Gs_l1Cur} {k : Int} (h : Cu c k) (hk : k + 2 ≤ 1099511627776) (n : Int) : ∃ v c', Ds_l1Cur_pick c n = some (v, c') ∧ (0 ≤ v ∧ (1 ≤ n → v < n) ∧ v ≤ 65535) ∧ Cu c' (k + 2) := by
  unfold Ds_l1Cur_pick
  by_cases h1 : n ≤ 1
  · rw [if_pos h1]
    exact ⟨_, _, rfl, by omega, h.mono (by omega) hk⟩
  · rw [if_neg h1]
    obtain ⟨v, c1, e1, hv, hc1⟩ := cuNext h (by omega)
    rw [e1]
    simp only [Option.bind_some]
    by_cases h2 : n > 200
    · rw [if_pos h2]
      obtain ⟨u, c2, e2, hu, hc2⟩ := cuNext hc1 (by omega)
      rw [e2]
      simp only [Option.bind_some]
      rw [if_pos (by omega), w64 (n := v * 256) (by omega), w64 (by omega)]
      have a1 := Int.tmod_nonneg n (show 0 ≤ v * 256 + u by omega)
      have a2 := Int.tmod_lt_of_pos (v * 256 + u) (show 0 < n by omega)
      have a3 : Int.tmod (v * 256 + u) n ≤ v * 256 + u := by
        have b1 := Int.mul_tdiv_add_tmod (v * 256 + u) n
        have b2 := Int.mul_nonneg (show 0 ≤ n by omega) (Int.tdiv_nonneg (show 0 ≤ v * 256 + u by omega) (show 0 ≤ n by omega))
        omega
      exact ⟨_, _, rfl, ⟨a1, fun _ => a2, by omega⟩, by have := hc2; rw [Int.add_assoc] at this; exact this⟩
    · rw [if_neg h2, if_pos (by omega)]
      have a1 := Int.tmod_nonneg n hv.1
      have a2 := Int.tmod_lt_of_pos v (show 0 < n by omega)
      exact ⟨_, _, rfl, ⟨a1, fun _ => a2, by omega⟩, hc1.mono (by omega) hk⟩

theorem cuOne {c : Gs_l1Cur} {k : Int} (h : Cu c k) (hk : k + 2 ≤ 1099511627776) (n : Int) : ∃ v c', Ds_l1Cur_one c n = some (v, c') ∧ Cu c' (k + 2) := by
  obtain ⟨v, c1, e1, _, hc1⟩ := cuPick h hk n
  unfold Ds_l1Cur_one
  rw [e1]
  exact ⟨_, _, rfl, hc1⟩

theorem cuAmong {c : Gs_l1Cur} {k : Int} (h : Cu c k) (hk : k + 2 ≤ 1099511627776) (l : List Int) (hl : 0 < l.length) : ∃ v c', Ds_l1Cur_among c l = some (v, c') ∧ v ∈ l ∧ Cu c' (k + 2) := by
  obtain ⟨v, c1, e1, hv, hc1⟩ := cuPick h hk l.length
  unfold Ds_l1Cur_among
  rw [e1]
  have hlt : v.toNat < l.length := by have := hv.2.1 (by omega); omega
  have hx := List.getElem?_eq_getElem hlt
  simp only [Option.bind_some]
  rw [if_pos hv.1, hx]
  exact ⟨_, _, rfl, List.mem_of_getElem? hx, hc1⟩

theorem cu0 {code : List Int} (h : ∀ x ∈ code, 0 ≤ x ∧ x < 256) (hl : code.length ≤ 1048576) : Cu ⟨code, 0, 0⟩ 0 := ⟨Int.le_refl _, Int.le_refl _, by decide, h, hl⟩

theorem eBig (a b : List Int) (ha : a.length < 9223372036854775808) (hb : b.length < 9223372036854775808) : Dw_big a b = some (decide (1048576 < a.length + b.length)) := by
  unfold Dw_big
  by_cases h : (a.length : Int) > 1048576
  · rw [if_pos h, decide_eq_true (by omega)]
  · rw [if_neg h, w64 (by omega)]
    congr 1
    by_cases h2 : 1048576 < a.length + b.length
    · rw [decide_eq_true h2]; exact decide_eq_true (by omega)
    · rw [decide_eq_false h2]; exact decide_eq_false (by omega)

/-- The hexes' distance. -/
def hd (A B : Gi_Hex) : Int := ((B.Q - A.Q).natAbs + (B.R - A.R).natAbs + (B.Q - A.Q + (B.R - A.R)).natAbs : Nat) / 2

theorem abs_i {x : Int} (h : -100000 ≤ x ∧ x ≤ 100000) : Di_absOf x = some (x.natAbs : Int) := by
  unfold Di_absOf
  split
  · rw [w64 (by omega)]
    congr 1
    omega
  · congr 1
    omega

theorem abs_s {x : Int} (h : -100000 ≤ x ∧ x ≤ 100000) : Ds_l1Abs x = some (x.natAbs : Int) := by
  unfold Ds_l1Abs Ds_l1Most
  rw [w64 (by omega)]
  split
  · simp only [Option.bind_some]
    congr 1
    omega
  · simp only [Option.bind_some]
    congr 1
    omega

theorem hd_i {A B : Gi_Hex} (hA : -10000 ≤ A.Q ∧ A.Q ≤ 10000 ∧ -10000 ≤ A.R ∧ A.R ≤ 10000) (hB : -10000 ≤ B.Q ∧ B.Q ≤ 10000 ∧ -10000 ≤ B.R ∧ B.R ≤ 10000) : Di_distance A B = some (hd A B) := by
  unfold Di_distance hd
  rw [w64 (n := B.Q - A.Q) (by omega), w64 (n := B.R - A.R) (by omega), w64 (n := B.Q - A.Q + (B.R - A.R)) (by omega), abs_i (by omega), abs_i (by omega), abs_i (by omega)]
  simp only [Option.bind_some]
  rw [w64 (n := ((B.Q - A.Q).natAbs : Int) + ((B.R - A.R).natAbs : Int)) (by omega), w64 (n := ((B.Q - A.Q).natAbs : Int) + ((B.R - A.R).natAbs : Int) + ((B.Q - A.Q + (B.R - A.R)).natAbs : Int)) (by omega), Int.tdiv_eq_ediv_of_nonneg (by omega), w64 (by omega)]
  congr 1

theorem hd_s {A B : Gi_Hex} (hA : -10000 ≤ A.Q ∧ A.Q ≤ 10000 ∧ -10000 ≤ A.R ∧ A.R ≤ 10000) (hB : -10000 ≤ B.Q ∧ B.Q ≤ 10000 ∧ -10000 ≤ B.R ∧ B.R ≤ 10000) : Ds_hDistance A B = some (hd A B) := by
  unfold Ds_hDistance hd
  rw [w64 (n := B.Q - A.Q) (by omega), w64 (n := B.R - A.R) (by omega), w64 (n := B.Q - A.Q + (B.R - A.R)) (by omega), abs_s (by omega), abs_s (by omega), abs_s (by omega)]
  simp only [Option.bind_some]
  rw [w64 (n := ((B.Q - A.Q).natAbs : Int) + ((B.R - A.R).natAbs : Int)) (by omega), w64 (n := ((B.Q - A.Q).natAbs : Int) + ((B.R - A.R).natAbs : Int) + ((B.Q - A.Q + (B.R - A.R)).natAbs : Int)) (by omega), Int.tdiv_eq_ediv_of_nonneg (by omega), w64 (by omega)]
  congr 1

def HexOk (A : Gi_Hex) : Prop := -40 ≤ A.Q ∧ A.Q ≤ 40 ∧ -40 ≤ A.R ∧ A.R ≤ 40

instance hexOkDec (A : Gi_Hex) : Decidable (HexOk A) := by unfold HexOk; infer_instance

theorem isHex_i (A : Gi_Hex) : Di_IsHex A = some (decide (HexOk A)) := by
  have _ := hexOkDec A
  unfold Di_IsHex Di_inRange HexOk
  by_cases c1 : -40 ≤ A.Q <;> by_cases c2 : A.Q ≤ 40 <;> by_cases c3 : -40 ≤ A.R <;> by_cases c4 : A.R ≤ 40 <;> simp [c1, c2, c3, c4]

theorem good_s (A : Gi_Hex) : Ds_hGood A = some (decide (HexOk A)) := by
  have _ := hexOkDec A
  unfold Ds_hGood Ds_l1In HexOk
  by_cases c1 : -40 ≤ A.Q <;> by_cases c2 : A.Q ≤ 40 <;> by_cases c3 : -40 ≤ A.R <;> by_cases c4 : A.R ≤ 40 <;> simp [c1, c2, c3, c4]

theorem cuHex {c : Gs_l1Cur} {k : Int} (h : Cu c k) (hk : k + 8 ≤ 1099511627776) : ∃ v c', Ds_l1Cur_hex c = some (v, c') ∧ Cu c' (k + 8) := by
  obtain ⟨v1, c1, e1, _, h1⟩ := cuPick h (by omega) 13
  obtain ⟨v2, c2, e2, _, h2⟩ := cuPick h1 (by omega) 13
  obtain ⟨v3, c3, e3, _, h3⟩ := cuPick h2 (by omega) 16
  obtain ⟨v4, c4, e4, _, h4⟩ := cuAmong h3 (by omega) [40, (-40), 38] (by simp)
  obtain ⟨v5, c5, e5, _, h5⟩ := cuAmong h3 (by omega) [40, (-40), 39] (by simp)
  unfold Ds_l1Cur_hex
  rw [e1, Option.bind_some, e2, Option.bind_some, e3, Option.bind_some]
  by_cases z : v3 = 0
  · rw [if_pos z, e4]
    exact ⟨_, _, rfl, h4.mono (by omega) (by omega)⟩
  · rw [if_neg z]
    by_cases z1 : v3 = 1
    · rw [if_pos z1, e5]
      exact ⟨_, _, rfl, h5.mono (by omega) (by omega)⟩
    · rw [if_neg z1]
      exact ⟨_, _, rfl, h3.mono (by omega) (by omega)⟩

theorem cuAnyHex {c : Gs_l1Cur} {k : Int} (h : Cu c k) (hk : k + 12 ≤ 1099511627776) : ∃ v c', Ds_l1Cur_anyHex c = some (v, c') ∧ Cu c' (k + 12) := by
  obtain ⟨v1, c1, e1, h1⟩ := cuHex h (by omega)
  obtain ⟨v2, c2, e2, h2⟩ := cuOne h1 (by omega) 24
  obtain ⟨v4, c4, e4, _, h4⟩ := cuAmong h2 (by omega) [41, (-41)] (by simp)
  unfold Ds_l1Cur_anyHex
  rw [e1, Option.bind_some, e2, Option.bind_some]
  by_cases z : v2 = true
  · rw [if_pos z, e4]
    exact ⟨_, _, rfl, h4.mono (by omega) (by omega)⟩
  · rw [if_neg z]
    exact ⟨_, _, rfl, h2.mono (by omega) (by omega)⟩

def dQ (d : Int) : Int := if d = 0 then 1 else if d = 1 then 1 else if d = 2 then 0 else if d = 3 then -1 else if d = 4 then -1 else 0
def dR (d : Int) : Int := if d = 0 then 0 else if d = 1 then -1 else if d = 2 then -1 else if d = 3 then 0 else 1
def hexGo (h : Gi_Hex) (d n : Int) : Gi_Hex := ⟨h.Q + n * dQ d, h.R + n * dR d⟩
def HexMid (h : Gi_Hex) : Prop := -10000 ≤ h.Q ∧ h.Q ≤ 10000 ∧ -10000 ≤ h.R ∧ h.R ≤ 10000

theorem sixDirs {d : Int} (h : 0 ≤ d ∧ d < 6) : d = 0 ∨ d = 1 ∨ d = 2 ∨ d = 3 ∨ d = 4 ∨ d = 5 := by omega
theorem dirGet {d : Int} (h : 0 ≤ d ∧ d < 6) : gv0[d.toNat]? = some ⟨dQ d, dR d⟩ := by
  rcases sixDirs h with rfl | rfl | rfl | rfl | rfl | rfl <;> rfl
theorem dirQ {d : Int} (h : 0 ≤ d ∧ d < 6) : [1, 1, 0, (-1), (-1), 0][d.toNat]? = some (dQ d) := by
  rcases sixDirs h with rfl | rfl | rfl | rfl | rfl | rfl <;> rfl
theorem dirR {d : Int} (h : 0 ≤ d ∧ d < 6) : [0, (-1), (-1), 0, 1, 1][d.toNat]? = some (dR d) := by
  rcases sixDirs h with rfl | rfl | rfl | rfl | rfl | rfl <;> rfl
theorem dirB {d : Int} (h : 0 ≤ d ∧ d < 6) (n : Int) : (n * dQ d = n ∨ n * dQ d = 0 ∨ n * dQ d = -n) ∧ (n * dR d = n ∨ n * dR d = 0 ∨ n * dR d = -n) := by
  rcases sixDirs h with rfl | rfl | rfl | rfl | rfl | rfl <;> simp [dQ, dR] <;> omega
theorem dirInj {d e : Int} (h : 0 ≤ d ∧ d < 6) (h' : 0 ≤ e ∧ e < 6) (hq : dQ d = dQ e) (hr : dR d = dR e) : d = e := by
  rcases sixDirs h with rfl | rfl | rfl | rfl | rfl | rfl <;> rcases sixDirs h' with rfl | rfl | rfl | rfl | rfl | rfl <;> first | rfl | (exfalso; revert hq hr; decide)
theorem dirBack {d : Int} (h : 0 ≤ d ∧ d < 6) : 0 ≤ Int.tmod (d + 3) 6 ∧ Int.tmod (d + 3) 6 < 6 ∧ dQ (Int.tmod (d + 3) 6) = - dQ d ∧ dR (Int.tmod (d + 3) 6) = - dR d := by
  rcases sixDirs h with rfl | rfl | rfl | rfl | rfl | rfl <;> decide

theorem stepBy_i {h : Gi_Hex} {d n : Int} (hd : 0 ≤ d ∧ d < 6) (hh : HexMid h) (hn : -10000 ≤ n ∧ n ≤ 10000) : Di_stepBy h d n = some (hexGo h d n) := by
  obtain ⟨b1, b2⟩ := dirB hd n
  unfold HexMid at hh
  unfold Di_stepBy hexGo
  rw [if_pos hd.1, dirGet hd, Option.bind_some, if_pos hd.1, Option.bind_some]
  rw [w64 (n := n * dQ d) (by omega), w64 (n := n * dR d) (by omega), w64 (by omega), w64 (by omega)]
theorem hStep_s {h : Gi_Hex} {d : Int} (hd : 0 ≤ d ∧ d < 6) (hh : HexMid h) : Ds_hStep h d = some (hexGo h d 1) := by
  obtain ⟨b1, b2⟩ := dirB hd 1
  unfold HexMid at hh
  unfold Ds_hStep hexGo
  rw [if_pos hd.1, dirQ hd, Option.bind_some, if_pos hd.1, dirR hd, Option.bind_some]
  simp only [Int.one_mul] at b1 b2 ⊢
  rw [w64 (by omega), w64 (by omega)]
theorem hStep_any (h : Gi_Hex) {d : Int} (hd : 0 ≤ d ∧ d < 6) : ∃ r, Ds_hStep h d = some r := by
  unfold Ds_hStep
  rw [if_pos hd.1, dirQ hd, Option.bind_some, if_pos hd.1, dirR hd, Option.bind_some]
  exact ⟨_, rfl⟩
theorem hexOk_mid {h : Gi_Hex} (hh : HexOk h) : HexMid h := by
  unfold HexOk at hh
  unfold HexMid
  omega

theorem dist_i2 (A B : Gi_Hex) : Di_DistanceOf A B = some (if HexOk A ∧ HexOk B then (hd A B, true) else (0, false)) := by
  have _ := hexOkDec A
  unfold Di_DistanceOf
  rw [isHex_i, isHex_i]
  by_cases hA : HexOk A
  · by_cases hB : HexOk B
    · simp only [Option.bind_some, hA, hB, decide_true, if_true, and_self]
      rw [hd_i (hexOk_mid hA) (hexOk_mid hB)]
      rfl
    · simp [hA, hB]
  · simp [hA]
theorem dist_s2 (A B : Gi_Hex) : Ds_DistanceOf A B = some (if HexOk A ∧ HexOk B then (hd A B, true) else (0, false)) := by
  have _ := hexOkDec A
  unfold Ds_DistanceOf
  rw [good_s, good_s]
  by_cases hA : HexOk A
  · by_cases hB : HexOk B
    · simp only [Option.bind_some, hA, hB, decide_true, if_true, and_self]
      rw [hd_s (hexOk_mid hA) (hexOk_mid hB)]
      rfl
    · simp [hA, hB]
  · simp [hA]

theorem checked_i (A : Gi_Hex) : Di_checkedHex A = some (if HexOk A then (A, true) else (⟨0, 0⟩, false)) := by
  have _ := hexOkDec A
  unfold Di_checkedHex
  rw [isHex_i]
  by_cases hA : HexOk A <;> simp [hA]
theorem hIf_s (A : Gi_Hex) : Ds_hIf A = some (if HexOk A then (A, true) else (⟨0, 0⟩, false)) := by
  have _ := hexOkDec A
  unfold Ds_hIf
  rw [good_s]
  by_cases hA : HexOk A <;> simp [hA]

def dirF (A B : Gi_Hex) : Nat → Int → Int × Bool
  | 0, _ => (0, false)
  | k + 1, d => if (hexGo A d 1).Q = B.Q ∧ (hexGo A d 1).R = B.R then (d, true) else dirF A B k (d + 1)
theorem dirLoop {A B : Gi_Hex} (hA : HexMid A) : ∀ (k : Nat) (d : Int), 0 ≤ d → d + k = 6 → loop Bi_DirectionTo (.h1 d A B) = some (dirF A B k d) ∧ loop Bs_DirectionTo (.h1 d A B) = some (dirF A B k d)
  | 0, d, h0, h => by
    constructor
    · rw [loop_eq]; simp only [Bi_DirectionTo]; rw [if_neg (by omega)]; rfl
    · rw [loop_eq]; simp only [Bs_DirectionTo]; rw [if_neg (by omega)]; rfl
  | k + 1, d, h0, h => by
    obtain ⟨i1, i2⟩ := dirLoop hA k (d + 1) (by omega) (by omega) (B := B)
    constructor
    · rw [loop_eq]
      simp only [Bi_DirectionTo, dirF]
      rw [if_pos (by omega), stepBy_i ⟨h0, by omega⟩ hA (by decide)]
      simp only [Option.bind_some, Bool.and_eq_true, beq_iff_eq]
      by_cases c : (hexGo A d 1).Q = B.Q ∧ (hexGo A d 1).R = B.R
      · rw [if_pos c, if_pos c]; rfl
      · rw [if_neg c, if_neg c, w64 (by omega)]; exact i1
    · rw [loop_eq]
      simp only [Bs_DirectionTo, dirF]
      rw [if_pos (by omega), hStep_s ⟨h0, by omega⟩ hA]
      simp only [Option.bind_some, Bool.and_eq_true, beq_iff_eq]
      by_cases c : (hexGo A d 1).Q = B.Q ∧ (hexGo A d 1).R = B.R
      · rw [if_pos c, if_pos c]; rfl
      · rw [if_neg c, if_neg c, w64 (by omega)]; exact i2
def dirToR (A B : Gi_Hex) : Int × Bool := if HexOk A ∧ HexOk B then dirF A B 6 0 else (0, false)
theorem dirTo_i (A B : Gi_Hex) : Di_DirectionTo A B = some (dirToR A B) := by
  have _ := hexOkDec A
  unfold Di_DirectionTo dirToR
  rw [isHex_i, isHex_i]
  by_cases hA : HexOk A
  · by_cases hB : HexOk B
    · simp only [Option.bind_some, hA, hB, decide_true, if_true, and_self]
      exact (dirLoop (hexOk_mid hA) 6 0 (by decide) (by decide)).1
    · simp [hA, hB]
  · simp [hA]
theorem dirTo_s (A B : Gi_Hex) : Ds_DirectionTo A B = some (dirToR A B) := by
  have _ := hexOkDec A
  unfold Ds_DirectionTo dirToR
  rw [good_s, good_s]
  by_cases hA : HexOk A
  · by_cases hB : HexOk B
    · simp only [Option.bind_some, hA, hB, decide_true, if_true, and_self]
      exact (dirLoop (hexOk_mid hA) 6 0 (by decide) (by decide)).2
    · simp [hA, hB]
  · simp [hA]
theorem dirF_some {A B : Gi_Hex} : ∀ (k : Nat) (d : Int), 0 ≤ d → d + k = 6 → (dirF A B k d).2 = true → 0 ≤ (dirF A B k d).1 ∧ (dirF A B k d).1 < 6 ∧ hexGo A (dirF A B k d).1 1 = B
  | 0, d, _, _, h => by cases h
  | k + 1, d, h0, hk, h => by
    simp only [dirF] at h ⊢
    by_cases c : (hexGo A d 1).Q = B.Q ∧ (hexGo A d 1).R = B.R
    · rw [if_pos c] at h ⊢
      refine ⟨h0, by omega, ?_⟩
      cases B
      simp only at c ⊢
      rw [← c.1, ← c.2]
    · rw [if_neg c] at h ⊢
      exact dirF_some k (d + 1) (by omega) (by omega) h
theorem dirF_at {A B : Gi_Hex} {e : Int} (he : 0 ≤ e ∧ e < 6) (hB : hexGo A e 1 = B) : ∀ (k : Nat) (d : Int), 0 ≤ d → d + k = 6 → d ≤ e → dirF A B k d = (e, true)
  | 0, d, _, _, h => by omega
  | k + 1, d, h0, hk, h => by
    simp only [dirF]
    by_cases c : (hexGo A d 1).Q = B.Q ∧ (hexGo A d 1).R = B.R
    · rw [if_pos c]
      subst hB
      simp only [hexGo, Int.one_mul] at c
      rw [dirInj ⟨h0, by omega⟩ he (by omega) (by omega)]
    · rw [if_neg c]
      have : d ≠ e := by
        intro h'
        subst h'
        subst hB
        exact c ⟨rfl, rfl⟩
      exact dirF_at he hB k (d + 1) (by omega) (by omega) (by omega)
theorem neighbour_i {A : Gi_Hex} {d : Int} (hd : 0 ≤ d ∧ d < 6) (hA : HexOk A) (hB : HexOk (hexGo A d 1)) : Di_NeighbourOf A d = some (hexGo A d 1, true) := by
  have _ := hexOkDec A
  unfold Di_NeighbourOf Di_isDirection Di_inRange
  rw [isHex_i, stepBy_i hd (hexOk_mid hA) (by decide)]
  simp only [Option.bind_some, hA, decide_true, if_true, checked_i, hB]
  rw [if_pos hd.1]
  simp only [Option.bind_some]
  rw [if_pos (by simp; omega)]

def turnN : Nat → Int → Int → Int × Int
  | 0, q, r => (q, r)
  | k + 1, q, r => turnN k (-r) (q + r)
theorem turnN_sum : ∀ (k : Nat) (q r : Int), ((turnN k q r).1.natAbs + (turnN k q r).2.natAbs + ((turnN k q r).1 + (turnN k q r).2).natAbs : Nat) = q.natAbs + r.natAbs + (q + r).natAbs
  | 0, q, r => rfl
  | k + 1, q, r => by
    simp only [turnN]
    rw [turnN_sum k (-r) (q + r)]
    omega
def turned (C : Gi_Hex) (p : Int × Int) : Gi_Hex := ⟨C.Q + p.1, C.R + p.2⟩
theorem turnLoop_i {C X : Gi_Hex} (hC : HexMid C) : ∀ (k : Nat) (q r t2 t3 : Int), t3 + k = t2 → 0 ≤ t3 → t2 ≤ 1000 → q.natAbs + r.natAbs + (q + r).natAbs ≤ 1000 →
    loop Bi_TurnHex (.h1 q r t2 t3 C X) = some (if HexOk (turned C (turnN k q r)) then (turned C (turnN k q r), true) else (⟨0, 0⟩, false))
  | 0, q, r, t2, t3, h, h0, h1, hb => by
    unfold HexMid at hC
    rw [loop_eq]
    simp only [Bi_TurnHex]
    rw [if_neg (by omega), w64 (by omega), w64 (by omega), checked_i]
    simp only [Option.bind_some, turnN, turned]
    rfl
  | k + 1, q, r, t2, t3, h, h0, h1, hb => by
    have := turnLoop_i hC k (-r) (q + r) t2 (t3 + 1) (by omega) (by omega) h1 (by omega) (X := X)
    rw [loop_eq]
    simp only [Bi_TurnHex]
    rw [if_pos (by omega), w64 (by omega), w64 (by omega), w64 (by omega), Int.zero_sub]
    exact this
theorem turnLoop_s {C X : Gi_Hex} (hC : HexMid C) : ∀ (k : Nat) (q r : Int), k ≤ 1000 → q.natAbs + r.natAbs + (q + r).natAbs ≤ 1000 →
    loop Bs_TurnHex (.h1 (k : Int) q r C X) = some (if HexOk (turned C (turnN k q r)) then (turned C (turnN k q r), true) else (⟨0, 0⟩, false))
  | 0, q, r, h, hb => by
    unfold HexMid at hC
    rw [loop_eq]
    simp only [Bs_TurnHex]
    rw [if_neg (by omega), w64 (by omega), w64 (by omega), hIf_s]
    simp only [Option.bind_some, turnN, turned]
    rfl
  | k + 1, q, r, h, hb => by
    have := turnLoop_s hC k (-r) (q + r) (by omega) (by omega) (X := X)
    rw [loop_eq]
    simp only [Bs_TurnHex]
    rw [if_pos (by omega), w64 (by omega), w64 (by omega), w64 (by omega), Int.zero_sub, show (((k + 1 : Nat) : Int) - 1) = (k : Int) by omega]
    exact this
def hexPut (A : Gi_Hex) : Gi_Hex × Bool := if HexOk A then (A, true) else (⟨0, 0⟩, false)
def turnR (h C : Gi_Hex) (k : Int) : Gi_Hex × Bool := if HexOk h ∧ HexOk C ∧ 0 ≤ k ∧ k ≤ 5 then hexPut (turned C (turnN k.toNat (h.Q - C.Q) (h.R - C.R))) else (⟨0, 0⟩, false)
theorem turn_both (h C : Gi_Hex) (k : Int) : Di_TurnHex h C k = some (turnR h C k) ∧ Ds_TurnHex h C k = some (turnR h C k) := by
  have _ := hexOkDec h
  unfold Di_TurnHex Ds_TurnHex turnR Di_inRange Ds_l1In
  rw [isHex_i, isHex_i, good_s, good_s]
  by_cases c1 : HexOk h
  · by_cases c2 : HexOk C
    · by_cases c3 : 0 ≤ k
      · by_cases c4 : k ≤ 5
        · have m1 := c1
          have m2 := c2
          unfold HexOk at m1 m2
          have e1 := turnLoop_i (hexOk_mid c2) k.toNat (h.Q - C.Q) (h.R - C.R) k 0 (by omega) (by decide) (by omega) (by omega) (X := ⟨0, 0⟩)
          have e2 := turnLoop_s (hexOk_mid c2) k.toNat (h.Q - C.Q) (h.R - C.R) (by omega) (by omega) (X := ⟨0, 0⟩)
          rw [Int.toNat_of_nonneg c3] at e2
          simp only [Option.bind_some, c1, c2, c3, c4, decide_true, if_true, ge_iff_le, and_self]
          rw [w64 (by omega), w64 (by omega)]
          exact ⟨e1, e2⟩
        · simp [c1, c2, c3, c4]
      · simp [c1, c2, c3]
    · simp [c1, c2]
  · simp [c1]
def mirR (h C : Gi_Hex) : Gi_Hex × Bool := if HexOk h ∧ HexOk C then hexPut ⟨C.Q + h.R - C.R, C.R + h.Q - C.Q⟩ else (⟨0, 0⟩, false)
theorem mir_both (h C : Gi_Hex) : Di_MirrorHex h C = some (mirR h C) ∧ Ds_MirrorHex h C = some (mirR h C) := by
  have _ := hexOkDec h
  unfold Di_MirrorHex Ds_MirrorHex mirR
  rw [isHex_i, isHex_i, good_s, good_s]
  by_cases c1 : HexOk h
  · by_cases c2 : HexOk C
    · have m1 := c1
      have m2 := c2
      unfold HexOk at m1 m2
      simp only [Option.bind_some, c1, c2, decide_true, if_true, and_self]
      rw [w64 (n := C.Q + h.R) (by omega), w64 (n := C.R + h.Q) (by omega), w64 (by omega), w64 (by omega), checked_i, hIf_s]
      exact ⟨rfl, rfl⟩
    · simp [c1, c2]
  · simp [c1]
theorem hexPut_ok {A : Gi_Hex} (h : (hexPut A).2 = true) : HexOk A ∧ hexPut A = (A, true) := by
  unfold hexPut at h ⊢
  by_cases c : HexOk A
  · rw [if_pos c]; exact ⟨c, rfl⟩
  · rw [if_neg c] at h; cases h
theorem turn_ok {h C : Gi_Hex} {k : Int} (ht : (turnR h C k).2 = true) : HexOk h ∧ HexOk C ∧ HexOk (turnR h C k).1 ∧ hd (turnR h C k).1 C = hd h C := by
  unfold turnR at ht ⊢
  by_cases c : HexOk h ∧ HexOk C ∧ 0 ≤ k ∧ k ≤ 5
  · rw [if_pos c] at ht ⊢
    obtain ⟨c1, c2⟩ := hexPut_ok ht
    rw [c2]
    refine ⟨c.1, c.2.1, c1, ?_⟩
    have := turnN_sum k.toNat (h.Q - C.Q) (h.R - C.R)
    unfold hd turned
    simp only
    omega
  · rw [if_neg c] at ht; cases ht
theorem mir_ok {h C : Gi_Hex} (ht : (mirR h C).2 = true) : HexOk h ∧ HexOk C ∧ HexOk (mirR h C).1 ∧ hd (mirR h C).1 C = hd h C := by
  unfold mirR at ht ⊢
  by_cases c : HexOk h ∧ HexOk C
  · rw [if_pos c] at ht ⊢
    obtain ⟨c1, c2⟩ := hexPut_ok ht
    rw [c2]
    refine ⟨c.1, c.2, c1, ?_⟩
    unfold hd
    simp only
    omega
  · rw [if_neg c] at ht; cases ht

theorem hexBack (A : Gi_Hex) {d : Int} (h : 0 ≤ d ∧ d < 6) : hexGo (hexGo A d 1) (Int.tmod (d + 3) 6) 1 = A := by
  obtain ⟨k1, k2, k3, k4⟩ := dirBack h
  cases A
  simp only [hexGo, k3, k4, Int.one_mul]
  congr 1 <;> omega

theorem drawDirectionTo {code : List Int} (h : ∀ x ∈ code, 0 ≤ x ∧ x < 256) (hl : code.length ≤ 1048576) : ∃ r, Ds_DrawDirectionTo code = some r := by
  obtain ⟨v1, c1, e1, h1⟩ := cuAnyHex (cu0 h hl) (by omega)
  obtain ⟨v2, c2, e2, h2⟩ := cuOne h1 (by omega) 3
  obtain ⟨v3, c3, e3, h3⟩ := cuAnyHex h2 (by omega)
  obtain ⟨v4, c4, e4, b4, h4⟩ := cuPick h2 (by omega) 6
  obtain ⟨v5, e5⟩ := hStep_any v1 (d := v4) (by omega)
  unfold Ds_DrawDirectionTo
  rw [e1, Option.bind_some, e2, Option.bind_some]
  by_cases z : v2 = true
  · rw [if_pos z, e3]; exact ⟨_, rfl⟩
  · rw [if_neg z, e4, Option.bind_some, e5]; exact ⟨_, rfl⟩
theorem drawTurnHex {code : List Int} (h : ∀ x ∈ code, 0 ≤ x ∧ x < 256) (hl : code.length ≤ 1048576) : ∃ r, Ds_DrawTurnHex code = some r := by
  obtain ⟨v1, c1, e1, h1⟩ := cuAnyHex (cu0 h hl) (by omega)
  obtain ⟨v2, c2, e2, h2⟩ := cuAnyHex h1 (by omega)
  obtain ⟨v3, c3, e3, _, h3⟩ := cuPick h2 (by omega) 7
  obtain ⟨v4, c4, e4, _, h4⟩ := cuPick h3 (by omega) 20
  unfold Ds_DrawTurnHex
  rw [e1, Option.bind_some, e2, Option.bind_some, e3, Option.bind_some, e4]
  exact ⟨_, rfl⟩

theorem steps2 (far : Int) (h C : Gi_Hex) (hf : HexOk h → HexOk C → far = hd h C) : loop Bw_FnSteps (.h2 (mirR h C).2 far C (mirR h C).1) = some true := by
  rw [loop_eq]
  cases hm : (mirR h C).2 with
  | false => rfl
  | true =>
    obtain ⟨m1, m2, m3, m4⟩ := mir_ok hm
    simp only [Bw_FnSteps]
    rw [dist_i2, if_pos ⟨m3, m2⟩]
    simp only [Option.bind_some, if_true]
    rw [m4, hf m1 m2, beq_self_eq_true]
    rfl
theorem steps1 {more : List Int} (h : ∀ x ∈ more, 0 ≤ x ∧ x < 256) (hl : more.length ≤ 1048576) : loop Bw_FnSteps (.h1 more) = some true := by
  obtain ⟨⟨H, C, k⟩, ed⟩ := drawTurnHex h hl
  obtain ⟨t1, t2⟩ := turn_both H C k
  obtain ⟨m1, m2⟩ := mir_both H C
  rw [loop_eq]
  simp only [Bw_FnSteps, ed, Option.bind_some, t1, t2, m1, m2, dist_i2, dist_s2]
  by_cases c : (turnR H C k).2 = true
  · obtain ⟨o1, o2, o3, o4⟩ := turn_ok c
    have := steps2 (hd H C) H C (fun _ _ => rfl)
    simp only [c, o1, o2, o3, o4, if_true, and_self, BEq.rfl, Bool.not_true, Bool.false_eq_true, if_false, Bool.and_self]
    exact this
  · have hf : (turnR H C k).2 = false := by simpa using c
    by_cases o : HexOk H ∧ HexOk C
    · have := steps2 (hd H C) H C (fun _ _ => rfl)
      rw [if_pos o]
      simp only [hf, BEq.rfl, Bool.not_true, Bool.false_eq_true, if_false, if_true, Bool.and_self]
      exact this
    · have := steps2 0 H C (fun a b => absurd ⟨a, b⟩ o)
      rw [if_neg o]
      simp only [hf, BEq.rfl, Bool.not_true, Bool.false_eq_true, if_false, if_true, Bool.and_self]
      exact this

theorem lawSteps (code more : List Int) (hc : code.length < 9223372036854775808) (hm : more.length < 9223372036854775808) (h1 : ∀ x ∈ code, 0 ≤ x ∧ x < 256) (h2 : ∀ x ∈ more, 0 ≤ x ∧ x < 256) : Dw_FnSteps code more = some true := by
  unfold Dw_FnSteps
  rw [eBig code more hc hm, Option.bind_some]
  by_cases hb : 1048576 < code.length + more.length
  · rw [if_pos (decide_eq_true hb)]
  · rw [if_neg (by simpa using hb)]
    obtain ⟨⟨A, B⟩, ed⟩ := drawDirectionTo h1 (by omega)
    have key := steps1 h2 (by omega)
    simp only [ed, Option.bind_some, dirTo_i, dirTo_s]
    by_cases c : (dirToR A B).2 = true
    · have hAB : HexOk A ∧ HexOk B := by
        unfold dirToR at c
        by_cases h : HexOk A ∧ HexOk B
        · exact h
        · rw [if_neg h] at c; cases c
      have e : dirToR A B = dirF A B 6 0 := by unfold dirToR; rw [if_pos hAB]
      have hs := dirF_some (A := A) (B := B) 6 0 (by decide) (by decide) (by rw [← e]; exact c)
      rw [← e] at hs
      obtain ⟨s1, s2, s3⟩ := hs
      obtain ⟨k1, k2, k3, k4⟩ := dirBack ⟨s1, s2⟩
      have hback : hexGo B (Int.tmod ((dirToR A B).1 + 3) 6) 1 = A := by
        have := hexBack A ⟨s1, s2⟩
        rw [s3] at this
        exact this
      have e2 : dirToR B A = (Int.tmod ((dirToR A B).1 + 3) 6, true) := by
        show (if HexOk B ∧ HexOk A then dirF B A 6 0 else (0, false)) = _
        rw [if_pos ⟨hAB.2, hAB.1⟩]
        exact dirF_at ⟨k1, k2⟩ hback 6 0 (by decide) (by decide) k1
      have e3 : Di_NeighbourOf A (dirToR A B).1 = some (B, true) := by
        rw [neighbour_i ⟨s1, s2⟩ hAB.1 (by rw [s3]; exact hAB.2), s3]
      simp only [c, if_true, BEq.rfl, Bool.not_true, Bool.false_eq_true, if_false, e3, e2, Option.bind_some, Bool.and_self]
      rw [w64 (by omega), if_pos rfl]
      exact key
    · have hf : (dirToR A B).2 = false := by simpa using c
      simp only [hf, if_true, BEq.rfl, Bool.not_true, Bool.false_eq_true, if_false]
      exact key


end Go.Proofs.YtlniejjcejackaaDoor.Ab
