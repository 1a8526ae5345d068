/- Part of the proof of FnRingsCard: no condition of its own. -/
import Derived.Test.YtlniejjcejackaaDoorB1FnRingsD
import Derived.Test.YtlniejjcejackaaDoorPuA
set_option linter.unusedVariables false
set_option linter.unusedSimpArgs false
open Go
namespace Go.Proofs.YtlniejjcejackaaDoor.Ab
structure Cu (c : Gs_l1Cur) (k : Int) : Prop where
  at0 : 0 ≤ c.at_
  atk : c.at_ ≤ k
  kk : k ≤ 1099511627776
  code : ∀ x ∈ c.code, 0 ≤ x ∧ x < 256
  len : c.code.length ≤ 1048576

theorem Cu.mono {c : Gs_l1Cur} {k k' : Int} (h : Cu c k) (hk : k ≤ k') (hb : k' ≤ 1099511627776) : Cu c k' := ⟨h.at0, by have := h.atk; omega, hb, h.code, h.len⟩

theorem and255 (x : Int) : 0 ≤ IntKind.wrap .i64 (IntKind.wrap .u64 ((BitVec.toNat (BitVec.ofInt (IntKind.bits .u64) x &&& BitVec.ofInt (IntKind.bits .u64) 255) : Nat) : Int)) ∧ IntKind.wrap .i64 (IntKind.wrap .u64 ((BitVec.toNat (BitVec.ofInt (IntKind.bits .u64) x &&& BitVec.ofInt (IntKind.bits .u64) 255) : Nat) : Int)) < 256 := by
  have h : (BitVec.ofInt (IntKind.bits .u64) x &&& BitVec.ofInt (IntKind.bits .u64) 255).toNat ≤ 255 := by
    rw [BitVec.toNat_and]
    have e : (BitVec.ofInt (IntKind.bits .u64) 255).toNat = 255 := by decide
    rw [e]
    exact Nat.and_le_right
  generalize (BitVec.ofInt (IntKind.bits .u64) x &&& BitVec.ofInt (IntKind.bits .u64) 255).toNat = n at h
  have h2 : IntKind.wrap .u64 (n : Int) = (n : Int) := by
    simp only [IntKind.wrap, IntKind.bits, IntKind.signed]
    simp
    omega
  rw [h2, w64 (by omega)]
  omega

theorem cuNext {c : Gs_l1Cur} {k : Int} (h : Cu c k) (hk : k + 1 ≤ 1099511627776) : ∃ v c', Ds_l1Cur_next c = some (v, c') ∧ (0 ≤ v ∧ v < 256) ∧ Cu c' (k + 1) := by
  have h0 := h.at0
  have h1 := h.atk
  have mk : ∀ s, Cu ⟨c.code, c.at_ + 1, s⟩ (k + 1) := fun s => ⟨by simp only; omega, by simp only; omega, hk, h.code, h.len⟩
  unfold Ds_l1Cur_next
  rw [w64 (n := c.at_ + 1) (by omega)]
  by_cases ha : c.at_ < (c.code.length : Int)
  · have hlt : c.at_.toNat < c.code.length := by omega
    have hx := List.getElem?_eq_getElem hlt
    have hv := h.code _ (List.mem_of_getElem? hx)
    rw [if_pos ha, if_pos h0, hx]
    simp only [Option.bind_some]
    split
    · exact ⟨_, _, rfl, by rw [w64 (by omega)]; exact hv, mk _⟩
    · exact ⟨_, _, rfl, and255 _, mk _⟩
  · rw [if_neg ha]
    split
    · exact ⟨_, _, rfl, by omega, mk _⟩
    · exact ⟨_, _, rfl, and255 _, mk _⟩

theorem cuPick {c : Gs_l1Cur} {k : Int} (h : Cu c k) (hk : k + 2 ≤ 1099511627776) (n : Int) : ∃ v c', Ds_l1Cur_pick c n = some (v, c') ∧ (0 ≤ v ∧ (1 ≤ n → v < n) ∧ v ≤ 65535) ∧ Cu c' (k + 2) := by
  unfold Ds_l1Cur_pick
  by_cases h1 : n ≤ 1
  · rw [if_pos h1]
    exact ⟨_, _, rfl, by omega, h.mono (by omega) hk⟩
  · rw [if_neg h1]
    obtain ⟨v, c1, e1, hv, hc1⟩ := cuNext h (by omega)
    rw [e1]
    simp only [Option.bind_some]
    by_cases h2 : n > 200
    · rw [if_pos h2]
      obtain ⟨u, c2, e2, hu, hc2⟩ := cuNext hc1 (by omega)
      rw [e2]
      simp only [Option.bind_some]
      rw [if_pos (by omega), w64 (n := v * 256) (by omega), w64 (by omega)]
      have a1 := Int.tmod_nonneg n (show 0 ≤ v * 256 + u by omega)
      have a2 := Int.tmod_lt_of_pos (v * 256 + u) (show 0 < n by omega)
      have a3 : Int.tmod (v * 256 + u) n ≤ v * 256 + u := by
        have b1 := Int.mul_tdiv_add_tmod (v * 256 + u) n
        have b2 := Int.mul_nonneg (show 0 ≤ n by omega) (Int.tdiv_nonneg (show 0 ≤ v * 256 + u by omega) (show 0 ≤ n by omega))
        omega
      exact ⟨_, _, rfl, ⟨a1, fun _ => a2, by omega⟩, by have := hc2; rw [Int.add_assoc] at this; exact this⟩
    · rw [if_neg h2, if_pos (by omega)]
      have a1 := Int.tmod_nonneg n hv.1
      have a2 := Int.tmod_lt_of_pos v (show 0 < n by omega)
      exact ⟨_, _, rfl, ⟨a1, fun _ => a2, by omega⟩, hc1.mono (by omega) hk⟩

theorem cuOne {c : Gs_l1Cur} {k : Int} (h : Cu c k) (hk : k + 2 ≤ 1099511627776) (n : Int) : ∃ v c', Ds_l1Cur_one c n = some (v, c') ∧ Cu c' (k + 2) := by
  obtain ⟨v, c1, e1, _, hc1⟩ := cuPick h hk n
  unfold Ds_l1Cur_one
  rw [e1]
  exact ⟨_, _, rfl, hc1⟩

theorem cuAmong {c : Gs_l1Cur} {k : Int} (h : Cu c k) (hk : k + 2 ≤ 1099511627776) (l : List Int) (hl : 0 < l.length) : ∃ v c', Ds_l1Cur_among c l = some (v, c') ∧ v ∈ l ∧ Cu c' (k + 2) := by
  obtain ⟨v, c1, e1, hv, hc1⟩ := cuPick h hk l.length
  unfold Ds_l1Cur_among
  rw [e1]
  have hlt : v.toNat < l.length := by have := hv.2.1 (by omega); omega
  have hx := List.getElem?_eq_getElem hlt
  simp only [Option.bind_some]
  rw [if_pos hv.1, hx]
  exact ⟨_, _, rfl, List.mem_of_getElem? hx, hc1⟩

theorem cu0 {code : List Int} (h : ∀ x ∈ code, 0 ≤ x ∧ x < 256) (hl : code.length ≤ 1048576) : Cu ⟨code, 0, 0⟩ 0 := ⟨Int.le_refl _, Int.le_refl _, by decide, h, hl⟩

theorem eBig (a b : List Int) (ha : a.length < 9223372036854775808) (hb : b.length < 9223372036854775808) : Dw_big a b = some (decide (1048576 < a.length + b.length)) := by
  unfold Dw_big
  by_cases h : (a.length : Int) > 1048576
  · rw [if_pos h, decide_eq_true (by omega)]
  · rw [if_neg h, w64 (by omega)]
    congr 1
    by_cases h2 : 1048576 < a.length + b.length
    · rw [decide_eq_true h2]; exact decide_eq_true (by omega)
    · rw [decide_eq_false h2]; exact decide_eq_false (by omega)

theorem mulb {a b A B : Int} (ha : -A ≤ a ∧ a ≤ A) (hb : -B ≤ b ∧ b ≤ B) : -(A * B) ≤ a * b ∧ a * b ≤ A * B := by
  have h1 : a.natAbs ≤ A.natAbs := by omega
  have h2 : b.natAbs ≤ B.natAbs := by omega
  have h3 := Nat.mul_le_mul h1 h2
  rw [← Int.natAbs_mul, ← Int.natAbs_mul] at h3
  have : 0 ≤ A * B := Int.mul_nonneg (by omega) (by omega)
  omega

/-- The hexes' distance. -/
def hd (A B : Gi_Hex) : Int := ((B.Q - A.Q).natAbs + (B.R - A.R).natAbs + (B.Q - A.Q + (B.R - A.R)).natAbs : Nat) / 2

theorem abs_i {x : Int} (h : -100000 ≤ x ∧ x ≤ 100000) : Di_absOf x = some (x.natAbs : Int) := by
  unfold Di_absOf
  split
  · rw [w64 (by omega)]
    congr 1
    omega
  · congr 1
    omega

theorem abs_s {x : Int} (h : -100000 ≤ x ∧ x ≤ 100000) : Ds_l1Abs x = some (x.natAbs : Int) := by
  unfold Ds_l1Abs Ds_l1Most
  rw [w64 (by omega)]
  split
  · simp only [Option.bind_some]
    congr 1
    omega
  · simp only [Option.bind_some]
    congr 1
    omega

theorem hd_i {A B : Gi_Hex} (hA : -10000 ≤ A.Q ∧ A.Q ≤ 10000 ∧ -10000 ≤ A.R ∧ A.R ≤ 10000) (hB : -10000 ≤ B.Q ∧ B.Q ≤ 10000 ∧ -10000 ≤ B.R ∧ B.R ≤ 10000) : Di_distance A B = some (hd A B) := by
  unfold Di_distance hd
  rw [w64 (n := B.Q - A.Q) (by omega), w64 (n := B.R - A.R) (by omega), w64 (n := B.Q - A.Q + (B.R - A.R)) (by omega), abs_i (by omega), abs_i (by omega), abs_i (by omega)]
  simp only [Option.bind_some]
  rw [w64 (n := ((B.Q - A.Q).natAbs : Int) + ((B.R - A.R).natAbs : Int)) (by omega), w64 (n := ((B.Q - A.Q).natAbs : Int) + ((B.R - A.R).natAbs : Int) + ((B.Q - A.Q + (B.R - A.R)).natAbs : Int)) (by omega), Int.tdiv_eq_ediv_of_nonneg (by omega), w64 (by omega)]
  congr 1

theorem hd_s {A B : Gi_Hex} (hA : -10000 ≤ A.Q ∧ A.Q ≤ 10000 ∧ -10000 ≤ A.R ∧ A.R ≤ 10000) (hB : -10000 ≤ B.Q ∧ B.Q ≤ 10000 ∧ -10000 ≤ B.R ∧ B.R ≤ 10000) : Ds_hDistance A B = some (hd A B) := by
  unfold Ds_hDistance hd
  rw [w64 (n := B.Q - A.Q) (by omega), w64 (n := B.R - A.R) (by omega), w64 (n := B.Q - A.Q + (B.R - A.R)) (by omega), abs_s (by omega), abs_s (by omega), abs_s (by omega)]
  simp only [Option.bind_some]
  rw [w64 (n := ((B.Q - A.Q).natAbs : Int) + ((B.R - A.R).natAbs : Int)) (by omega), w64 (n := ((B.Q - A.Q).natAbs : Int) + ((B.R - A.R).natAbs : Int) + ((B.Q - A.Q + (B.R - A.R)).natAbs : Int)) (by omega), Int.tdiv_eq_ediv_of_nonneg (by omega), w64 (by omega)]
  congr 1

/-- Of three sides the longest is the distance: so a point of a line lies on a grid line. -/
theorem side {A B : Gi_Hex} {n i q r : Int} (hn : 0 < n) (e : n = hd A B) (eq : q = A.Q * n + (B.Q - A.Q) * i) (er : r = A.R * n + (B.R - A.R) * i) : q % n = 0 ∨ r % n = 0 ∨ q % n + r % n = n := by
  have h : B.Q - A.Q = n ∨ B.Q - A.Q = -n ∨ B.R - A.R = n ∨ B.R - A.R = -n ∨ B.Q - A.Q + (B.R - A.R) = n ∨ B.Q - A.Q + (B.R - A.R) = -n := by
    unfold hd at e
    omega
  have z : ∀ k x y : Int, x = y * n + k * i → (k = n ∨ k = -n) → x % n = 0 := by
    intro k x y h1 h2
    apply Int.emod_eq_zero_of_dvd
    rcases h2 with h2 | h2
    · exact ⟨y + i, by subst h2; subst h1; grind⟩
    · exact ⟨y - i, by subst h2; subst h1; grind⟩
  rcases h with h | h | h | h | h | h
  · exact .inl (z _ _ _ eq (.inl h))
  · exact .inl (z _ _ _ eq (.inr h))
  · exact .inr (.inl (z _ _ _ er (.inl h)))
  · exact .inr (.inl (z _ _ _ er (.inr h)))
  all_goals
    have hs : (q + r) % n = 0 := z (B.Q - A.Q + (B.R - A.R)) (q + r) (A.Q + A.R) (by subst eq; subst er; grind) (by omega)
    rw [Int.add_emod] at hs
    have q3 := Int.emod_nonneg q (b := n) (by omega)
    have q4 := Int.emod_lt_of_pos q hn
    have r3 := Int.emod_nonneg r (b := n) (by omega)
    have r4 := Int.emod_lt_of_pos r hn
    rcases Int.lt_or_le (q % n + r % n) n with c | c
    · rw [Int.emod_eq_of_lt (by omega) c] at hs
      omega
    · have := Int.emod_add_mul_ediv (q % n + r % n - n) n
      have e2 : (q % n + r % n) % n = (q % n + r % n - n) % n := (Int.sub_emod_right ..).symm
      rw [e2, Int.emod_eq_of_lt (by omega) (by omega)] at hs
      omega

def HexOk (A : Gi_Hex) : Prop := -40 ≤ A.Q ∧ A.Q ≤ 40 ∧ -40 ≤ A.R ∧ A.R ≤ 40

theorem same_hexes {l : List Gi_Hex} (hl : l.length < 9223372036854775807) : Dw_pSameHexes l l = some true := by
  unfold Dw_pSameHexes
  rw [if_pos rfl]
  refine true_loop (S := fun i => Sw_pSameHexes.h1 l l (l.length : Int) (i : Int)) (n := l.length) ?_ ?_
  · intro i hi
    simp only [Bw_pSameHexes]
    rw [if_pos (by omega), if_pos (by omega), Int.toNat_natCast, List.getElem?_eq_getElem hi]
    simp only [Option.bind_some, BEq.rfl, Bool.and_self, Bool.not_true, Bool.false_eq_true, if_false]
    rw [if_pos (by omega), wsucc (by omega)]
  · simp only [Bw_pSameHexes]
    rw [if_neg (by omega)]

instance hexOkDec (A : Gi_Hex) : Decidable (HexOk A) := by unfold HexOk; infer_instance

theorem isHex_i (A : Gi_Hex) : Di_IsHex A = some (decide (HexOk A)) := by
  have _ := hexOkDec A
  unfold Di_IsHex Di_inRange HexOk
  by_cases c1 : -40 ≤ A.Q <;> by_cases c2 : A.Q ≤ 40 <;> by_cases c3 : -40 ≤ A.R <;> by_cases c4 : A.R ≤ 40 <;> simp [c1, c2, c3, c4]

theorem good_s (A : Gi_Hex) : Ds_hGood A = some (decide (HexOk A)) := by
  have _ := hexOkDec A
  unfold Ds_hGood Ds_l1In HexOk
  by_cases c1 : -40 ≤ A.Q <;> by_cases c2 : A.Q ≤ 40 <;> by_cases c3 : -40 ≤ A.R <;> by_cases c4 : A.R ≤ 40 <;> simp [c1, c2, c3, c4]

theorem cuHex {c : Gs_l1Cur} {k : Int} (h : Cu c k) (hk : k + 8 ≤ 1099511627776) : ∃ v c', Ds_l1Cur_hex c = some (v, c') ∧ Cu c' (k + 8) := by
  obtain ⟨v1, c1, e1, _, h1⟩ := cuPick h (by omega) 13
  obtain ⟨v2, c2, e2, _, h2⟩ := cuPick h1 (by omega) 13
  obtain ⟨v3, c3, e3, _, h3⟩ := cuPick h2 (by omega) 16
  obtain ⟨v4, c4, e4, _, h4⟩ := cuAmong h3 (by omega) [40, (-40), 38] (by simp)
  obtain ⟨v5, c5, e5, _, h5⟩ := cuAmong h3 (by omega) [40, (-40), 39] (by simp)
  unfold Ds_l1Cur_hex
  rw [e1, Option.bind_some, e2, Option.bind_some, e3, Option.bind_some]
  by_cases z : v3 = 0
  · rw [if_pos z, e4]
    exact ⟨_, _, rfl, h4.mono (by omega) (by omega)⟩
  · rw [if_neg z]
    by_cases z1 : v3 = 1
    · rw [if_pos z1, e5]
      exact ⟨_, _, rfl, h5.mono (by omega) (by omega)⟩
    · rw [if_neg z1]
      exact ⟨_, _, rfl, h3.mono (by omega) (by omega)⟩

theorem cuAnyHex {c : Gs_l1Cur} {k : Int} (h : Cu c k) (hk : k + 12 ≤ 1099511627776) : ∃ v c', Ds_l1Cur_anyHex c = some (v, c') ∧ Cu c' (k + 12) := by
  obtain ⟨v1, c1, e1, h1⟩ := cuHex h (by omega)
  obtain ⟨v2, c2, e2, h2⟩ := cuOne h1 (by omega) 24
  obtain ⟨v4, c4, e4, _, h4⟩ := cuAmong h2 (by omega) [41, (-41)] (by simp)
  unfold Ds_l1Cur_anyHex
  rw [e1, Option.bind_some, e2, Option.bind_some]
  by_cases z : v2 = true
  · rw [if_pos z, e4]
    exact ⟨_, _, rfl, h4.mono (by omega) (by omega)⟩
  · rw [if_neg z]
    exact ⟨_, _, rfl, h2.mono (by omega) (by omega)⟩

def dQ (d : Int) : Int := if d = 0 then 1 else if d = 1 then 1 else if d = 2 then 0 else if d = 3 then -1 else if d = 4 then -1 else 0
def dR (d : Int) : Int := if d = 0 then 0 else if d = 1 then -1 else if d = 2 then -1 else if d = 3 then 0 else 1
def hexGo (h : Gi_Hex) (d n : Int) : Gi_Hex := ⟨h.Q + n * dQ d, h.R + n * dR d⟩
def HexMid (h : Gi_Hex) : Prop := -10000 ≤ h.Q ∧ h.Q ≤ 10000 ∧ -10000 ≤ h.R ∧ h.R ≤ 10000

theorem sixDirs {d : Int} (h : 0 ≤ d ∧ d < 6) : d = 0 ∨ d = 1 ∨ d = 2 ∨ d = 3 ∨ d = 4 ∨ d = 5 := by omega
theorem dirGet {d : Int} (h : 0 ≤ d ∧ d < 6) : gv0[d.toNat]? = some ⟨dQ d, dR d⟩ := by
  rcases sixDirs h with rfl | rfl | rfl | rfl | rfl | rfl <;> rfl
theorem dirQ {d : Int} (h : 0 ≤ d ∧ d < 6) : [1, 1, 0, (-1), (-1), 0][d.toNat]? = some (dQ d) := by
  rcases sixDirs h with rfl | rfl | rfl | rfl | rfl | rfl <;> rfl
theorem dirR {d : Int} (h : 0 ≤ d ∧ d < 6) : [0, (-1), (-1), 0, 1, 1][d.toNat]? = some (dR d) := by
  rcases sixDirs h with rfl | rfl | rfl | rfl | rfl | rfl <;> rfl
theorem dirB {d : Int} (h : 0 ≤ d ∧ d < 6) (n : Int) : (n * dQ d = n ∨ n * dQ d = 0 ∨ n * dQ d = -n) ∧ (n * dR d = n ∨ n * dR d = 0 ∨ n * dR d = -n) := by
  rcases sixDirs h with rfl | rfl | rfl | rfl | rfl | rfl <;> simp [dQ, dR] <;> omega
theorem stepBy_i {h : Gi_Hex} {d n : Int} (hd : 0 ≤ d ∧ d < 6) (hh : HexMid h) (hn : -10000 ≤ n ∧ n ≤ 10000) : Di_stepBy h d n = some (hexGo h d n) := by
  obtain ⟨b1, b2⟩ := dirB hd n
  unfold HexMid at hh
  unfold Di_stepBy hexGo
  rw [if_pos hd.1, dirGet hd, Option.bind_some, if_pos hd.1, Option.bind_some]
  rw [w64 (n := n * dQ d) (by omega), w64 (n := n * dR d) (by omega), w64 (by omega), w64 (by omega)]
theorem hStep_s {h : Gi_Hex} {d : Int} (hd : 0 ≤ d ∧ d < 6) (hh : HexMid h) : Ds_hStep h d = some (hexGo h d 1) := by
  obtain ⟨b1, b2⟩ := dirB hd 1
  unfold HexMid at hh
  unfold Ds_hStep hexGo
  rw [if_pos hd.1, dirQ hd, Option.bind_some, if_pos hd.1, dirR hd, Option.bind_some]
  simp only [Int.one_mul] at b1 b2 ⊢
  rw [w64 (by omega), w64 (by omega)]
theorem hexOk_mid {h : Gi_Hex} (hh : HexOk h) : HexMid h := by
  unfold HexOk at hh
  unfold HexMid
  omega

theorem dist_i2 (A B : Gi_Hex) : Di_DistanceOf A B = some (if HexOk A ∧ HexOk B then (hd A B, true) else (0, false)) := by
  have _ := hexOkDec A
  unfold Di_DistanceOf
  rw [isHex_i, isHex_i]
  by_cases hA : HexOk A
  · by_cases hB : HexOk B
    · simp only [Option.bind_some, hA, hB, decide_true, if_true, and_self]
      rw [hd_i (hexOk_mid hA) (hexOk_mid hB)]
      rfl
    · simp [hA, hB]
  · simp [hA]
def okAll (l : List Gi_Hex) : Bool := have _ := hexOkDec; l.all fun x => decide (HexOk x)
theorem okAll_mem {l : List Gi_Hex} (h : okAll l = true) {x : Gi_Hex} (hx : x ∈ l) : HexOk x := by
  unfold okAll at h
  exact of_decide_eq_true (List.all_eq_true.1 h x hx)
theorem okAll_cons (x : Gi_Hex) (l : List Gi_Hex) : okAll (x :: l) = true ↔ HexOk x ∧ okAll l = true := by
  unfold okAll
  simp
theorem okAll_nil : okAll [] = true := rfl
theorem all_i2 {l : List Gi_Hex} (hl : l.length < 9223372036854775807) : ∀ (n i : Nat), i + n = l.length → loop Bi_allHexes (.h1 l (l.length : Int) (i : Int)) = some (okAll (l.drop i))
  | 0, i, h => by
    rw [loop_eq, List.drop_of_length_le (by omega)]
    simp only [Bi_allHexes]
    rw [if_neg (by omega)]
    rfl
  | n + 1, i, h => by
    have hx : l[i]? = some l[i] := List.getElem?_eq_getElem (by omega)
    have ih := all_i2 hl n (i + 1) (by omega)
    rw [loop_eq, List.drop_eq_getElem_cons (by omega)]
    simp only [Bi_allHexes]
    rw [if_pos (by omega), if_pos (by omega), Int.toNat_natCast, hx, Option.bind_some, isHex_i, Option.bind_some]
    by_cases c : HexOk l[i]
    · rw [if_pos (by simpa using c), wsucc (by omega)]
      show loop Bi_allHexes (.h1 l (l.length : Int) ((i + 1 : Nat) : Int)) = _
      rw [ih]
      congr 1
      rw [Bool.eq_iff_iff, okAll_cons]
      simp [c]
    · rw [if_neg (by simpa using c)]
      have : ¬ okAll (l[i] :: l.drop (i + 1)) = true := fun h => c ((okAll_cons _ _).1 h).1
      simp only [Bool.not_eq_true] at this
      rw [this]
      rfl
theorem allHexes_i2 {l : List Gi_Hex} (hl : l.length < 9223372036854775807) : Di_allHexes l = some (okAll l) := by
  have := all_i2 hl l.length 0 (by omega)
  rw [List.drop_zero] at this
  exact this
def hexAllR (l : List Gi_Hex) : List Gi_Hex × Bool := if okAll l = true then (l, true) else ([], false)
theorem all_s2 {l : List Gi_Hex} (hl : l.length < 9223372036854775807) : ∀ (n i : Nat), i + n = l.length → loop Bs_hAll (.h1 l l (l.length : Int) (i : Int)) = some (if okAll (l.drop i) = true then (l, true) else ([], false))
  | 0, i, h => by
    rw [loop_eq, List.drop_of_length_le (by omega), if_pos okAll_nil]
    simp only [Bs_hAll]
    rw [if_neg (by omega)]
    rfl
  | n + 1, i, h => by
    have hx : l[i]? = some l[i] := List.getElem?_eq_getElem (by omega)
    have ih := all_s2 hl n (i + 1) (by omega)
    rw [loop_eq, List.drop_eq_getElem_cons (by omega)]
    simp only [Bs_hAll]
    rw [if_pos (by omega), if_pos (by omega), Int.toNat_natCast, hx, Option.bind_some, good_s, Option.bind_some]
    by_cases c : HexOk l[i]
    · rw [if_pos (by simpa using c), wsucc (by omega)]
      show loop Bs_hAll (.h1 l l (l.length : Int) ((i + 1 : Nat) : Int)) = _
      rw [ih]
      simp only [okAll_cons, c, true_and]
    · rw [if_neg (by simpa using c)]
      simp only [okAll_cons, c, false_and, if_false]
      rfl
theorem hAll_s2 {l : List Gi_Hex} (hl : l.length < 9223372036854775807) : Ds_hAll l = some (hexAllR l) := by
  have := all_s2 hl l.length 0 (by omega)
  rw [List.drop_zero] at this
  exact this
theorem hexAllR_ok {l : List Gi_Hex} (h : (hexAllR l).2 = true) : (hexAllR l).1 = l ∧ okAll l = true := by
  unfold hexAllR at h ⊢
  by_cases c : okAll l = true
  · rw [if_pos c]; exact ⟨rfl, c⟩
  · rw [if_neg c] at h; cases h
theorem hexAllR_len (l : List Gi_Hex) : (hexAllR l).1.length ≤ l.length := by
  unfold hexAllR
  split <;> simp

theorem hexGo_succ (c : Gi_Hex) (d : Int) (k : Nat) : hexGo (hexGo c d (k : Int)) d 1 = hexGo c d ((k + 1 : Nat) : Int) := by
  simp only [hexGo, Int.natCast_add, Int.natCast_one, Int.add_mul, Int.one_mul, Int.add_assoc]
theorem hexGo_zero (c : Gi_Hex) (d : Int) : hexGo c d 0 = c := by
  cases c
  simp [hexGo]
def hexNear (c : Gi_Hex) (b : Int) : Prop := -b ≤ c.Q ∧ c.Q ≤ b ∧ -b ≤ c.R ∧ c.R ≤ b
theorem hexNear_go {c : Gi_Hex} {b n : Int} (h : hexNear c b) {d : Int} (hd : 0 ≤ d ∧ d < 6) (hn : 0 ≤ n) : hexNear (hexGo c d n) (b + n) := by
  obtain ⟨b1, b2⟩ := dirB hd n
  unfold hexNear at h ⊢
  simp only [hexGo]
  omega
theorem hexNear_mid {c : Gi_Hex} {b : Int} (h : hexNear c b) (hb : b ≤ 10000) : HexMid c := by
  unfold hexNear at h
  unfold HexMid
  omega
theorem hexNear_ok {c : Gi_Hex} (h : HexOk c) : hexNear c 40 := by
  unfold HexOk at h
  unfold hexNear
  omega
def rgSide (c : Gi_Hex) (d : Int) (k n : Nat) : List Gi_Hex := (List.range' k n).map fun j : Nat => hexGo c d (j : Int)
theorem rgSide_succ (c : Gi_Hex) (d : Int) (k n : Nat) : rgSide c d k (n + 1) = hexGo c d (k : Int) :: rgSide c d (k + 1) n := rfl
theorem rgIn_i {r : Nat} (hr : r ≤ 6) {d : Int} (hd : 0 ≤ d ∧ d < 6) {c : Gi_Hex} (hc : hexNear c 100) : ∀ (n k : Nat) (acc : List Gi_Hex), k + n = r → acc.length + n ≤ 1000 →
    loop Bi_RingOf (.h2 r d d r k acc (hexGo c d (k : Int))) = loop Bi_RingOf (.h1 r (d + 1) (acc ++ rgSide c d k n) (hexGo c d (r : Int)))
  | 0, k, acc, h, hl => by
    rw [loop_eq]
    simp only [Bi_RingOf]
    rw [if_neg (by omega), w64 (by omega)]
    have : k = r := by omega
    subst this
    simp only [rgSide, List.range'_zero, List.map_nil, List.append_nil]
    rfl
  | n + 1, k, acc, h, hl => by
    have ih := rgIn_i hr hd hc n (k + 1) (acc ++ [hexGo c d (k : Int)]) (by omega) (by simp only [List.length_append, List.length_singleton]; omega)
    rw [loop_eq]
    simp only [Bi_RingOf]
    rw [if_pos (by omega), if_pos (by simp only [List.length_append, List.length_singleton]; omega), stepBy_i hd (hexNear_mid (hexNear_go hc hd (by omega)) (by omega)) (by decide), Option.bind_some, hexGo_succ, wsucc (by omega)]
    show loop Bi_RingOf (.h2 r d d r ((k + 1 : Nat) : Int) _ _) = _
    rw [ih, rgSide_succ, List.append_assoc]
    rfl
theorem rgIn_s {r : Nat} (hr : r ≤ 6) {d : Int} (hd : 0 ≤ d ∧ d < 6) {c : Gi_Hex} (hc : hexNear c 100) : ∀ (n k : Nat) (acc : List Gi_Hex), k + n = r → acc.length + n ≤ 1000 →
    loop Bs_hRing (.h3 r d k (hexGo c d (k : Int)) acc) = loop Bs_hRing (.h2 r (d + 1) (hexGo c d (r : Int)) (acc ++ rgSide c d k n))
  | 0, k, acc, h, hl => by
    rw [loop_eq]
    simp only [Bs_hRing]
    rw [if_neg (by omega), w64 (by omega)]
    have : k = r := by omega
    subst this
    simp only [rgSide, List.range'_zero, List.map_nil, List.append_nil]
    rfl
  | n + 1, k, acc, h, hl => by
    have ih := rgIn_s hr hd hc n (k + 1) (acc ++ [hexGo c d (k : Int)]) (by omega) (by simp only [List.length_append, List.length_singleton]; omega)
    rw [loop_eq]
    simp only [Bs_hRing]
    rw [if_pos (by omega), if_pos (by simp only [List.length_append, List.length_singleton]; omega), hStep_s hd (hexNear_mid (hexNear_go hc hd (by omega)) (by omega)), Option.bind_some, hexGo_succ, wsucc (by omega)]
    show loop Bs_hRing (.h3 r d ((k + 1 : Nat) : Int) _ _) = _
    rw [ih, rgSide_succ, List.append_assoc]
    rfl
theorem rgCorner0 {h : Gi_Hex} {r : Nat} (hr : r ≤ 6) (hh : hexNear h 40) : ∀ (n k : Nat), k + n = r → loop Bs_hRing (.h1 r k (hexGo h 4 (k : Int))) = loop Bs_hRing (.h2 r 0 (hexGo h 4 (r : Int)) [])
  | 0, k, e => by
    rw [loop_eq]
    simp only [Bs_hRing]
    rw [if_neg (by omega)]
    have : k = r := by omega
    subst this
    rfl
  | n + 1, k, e => by
    have ih := rgCorner0 hr hh n (k + 1) (by omega)
    rw [loop_eq]
    simp only [Bs_hRing]
    rw [if_pos (by omega), hStep_s (by decide) (hexNear_mid (hexNear_go hh (by decide) (by omega)) (by omega)), Option.bind_some, hexGo_succ, wsucc (by omega)]
    exact ih
/-- The corner before side d. -/
def rgC (h : Gi_Hex) (r : Nat) (d : Int) : Gi_Hex := hexGo h (Int.tmod (d + 4) 6) (r : Int)
theorem rgC_next (h : Gi_Hex) (r : Nat) {d : Int} (hd : 0 ≤ d ∧ d < 6) : hexGo (rgC h r d) d (r : Int) = rgC h r (d + 1) := by
  have e : dQ (Int.tmod (d + 4) 6) + dQ d = dQ (Int.tmod (d + 1 + 4) 6) ∧ dR (Int.tmod (d + 4) 6) + dR d = dR (Int.tmod (d + 1 + 4) 6) := by
    rcases sixDirs hd with rfl | rfl | rfl | rfl | rfl | rfl <;> decide
  simp only [rgC, hexGo]
  rw [← e.1, ← e.2, Int.mul_add, Int.mul_add, Int.add_assoc, Int.add_assoc]
theorem rgC_near {h : Gi_Hex} {r : Nat} (hr : r ≤ 6) (hh : hexNear h 40) {d : Int} (hd : 0 ≤ d) : hexNear (rgC h r d) 100 := by
  have := hexNear_go hh (d := Int.tmod (d + 4) 6) ⟨by rw [Int.tmod_eq_emod_of_nonneg (by omega)]; omega, by rw [Int.tmod_eq_emod_of_nonneg (by omega)]; omega⟩ (n := (r : Int)) (by omega)
  unfold hexNear rgC at *
  omega
def rgSides (h : Gi_Hex) (r : Nat) : Nat → Int → List Gi_Hex
  | 0, _ => []
  | m + 1, d => rgSide (rgC h r d) d 0 r ++ rgSides h r m (d + 1)
theorem rgSides_len (h : Gi_Hex) (r : Nat) : ∀ (m : Nat) (d : Int), (rgSides h r m d).length = m * r
  | 0, d => by simp [rgSides]
  | m + 1, d => by simp only [rgSides, List.length_append, rgSides_len h r m (d + 1), rgSide, List.length_map, List.length_range', Nat.succ_mul]; omega
theorem rgOut_i {h : Gi_Hex} {r : Nat} (hr : r ≤ 6) (hh : hexNear h 40) : ∀ (m : Nat) (d : Int) (acc : List Gi_Hex), 0 ≤ d → d + m = 6 → acc.length + m * r ≤ 900 →
    loop Bi_RingOf (.h1 r d acc (rgC h r d)) = some (hexAllR (acc ++ rgSides h r m d))
  | 0, d, acc, h0, h1, hl => by
    rw [loop_eq]
    simp only [Bi_RingOf, rgSides, List.append_nil]
    rw [if_neg (by omega), allHexes_i2 (by omega), Option.bind_some]
    unfold hexAllR
    by_cases c : okAll acc = true
    · rw [if_pos c, if_pos c]; rfl
    · rw [if_neg c, if_neg c]; rfl
  | m + 1, d, acc, h0, h1, hl => by
    have hd : 0 ≤ d ∧ d < 6 := by omega
    rw [Nat.succ_mul] at hl
    have i1 := rgIn_i hr hd (rgC_near hr hh h0) r 0 acc (by omega) (by omega)
    have i2 := rgOut_i hr hh m (d + 1) (acc ++ rgSide (rgC h r d) d 0 r) (by omega) (by omega) (by simp only [rgSide, List.length_append, List.length_map, List.length_range']; omega)
    rw [loop_eq]
    simp only [Bi_RingOf]
    rw [if_pos (by omega)]
    show loop Bi_RingOf (.h2 r d d r 0 acc (rgC h r d)) = _
    rw [show ((0 : Nat) : Int) = 0 from rfl, hexGo_zero] at i1
    rw [i1, rgC_next h r hd, i2, rgSides, List.append_assoc]
theorem rgOut_s {h : Gi_Hex} {r : Nat} (hr : r ≤ 6) (hh : hexNear h 40) : ∀ (m : Nat) (d : Int) (acc : List Gi_Hex), 0 ≤ d → d + m = 6 → acc.length + m * r ≤ 900 →
    loop Bs_hRing (.h2 r d (rgC h r d) acc) = some (acc ++ rgSides h r m d)
  | 0, d, acc, h0, h1, hl => by
    rw [loop_eq]
    simp only [Bs_hRing, rgSides, List.append_nil]
    rw [if_neg (by omega)]
    rfl
  | m + 1, d, acc, h0, h1, hl => by
    have hd : 0 ≤ d ∧ d < 6 := by omega
    rw [Nat.succ_mul] at hl
    have i1 := rgIn_s hr hd (rgC_near hr hh h0) r 0 acc (by omega) (by omega)
    have i2 := rgOut_s hr hh m (d + 1) (acc ++ rgSide (rgC h r d) d 0 r) (by omega) (by omega) (by simp only [rgSide, List.length_append, List.length_map, List.length_range']; omega)
    rw [loop_eq]
    simp only [Bs_hRing]
    rw [if_pos (by omega)]
    show loop Bs_hRing (.h3 r d 0 (rgC h r d) acc) = _
    rw [show ((0 : Nat) : Int) = 0 from rfl, hexGo_zero] at i1
    rw [i1, rgC_next h r hd, i2, rgSides, List.append_assoc]
def rgList (h : Gi_Hex) (r : Nat) : List Gi_Hex := (if r = 0 then [h] else []) ++ rgSides h r 6 0
theorem rgList_len (h : Gi_Hex) {r : Nat} (hr : r ≤ 6) : (rgList h r).length ≤ 100 := by
  unfold rgList
  rw [List.length_append, rgSides_len]
  split <;> simp <;> omega
def rgR (h : Gi_Hex) (r : Int) : List Gi_Hex × Bool := if HexOk h ∧ 0 ≤ r ∧ r ≤ 6 then hexAllR (rgList h r.toNat) else ([], false)
theorem rg_both (h : Gi_Hex) (r : Int) : Di_RingOf h r = some (rgR h r) ∧ Ds_RingOf h r = some (rgR h r) := by
  unfold Di_RingOf Ds_RingOf rgR Di_inRange Ds_l1In
  rw [isHex_i, good_s]
  by_cases c1 : HexOk h
  · by_cases c2 : 0 ≤ r
    · by_cases c3 : r ≤ 6
      · obtain ⟨n, rfl⟩ : ∃ n : Nat, r = n := ⟨r.toNat, by omega⟩
        have hn : n ≤ 6 := by omega
        have hh := hexNear_ok c1
        have hlen := rgSides_len h n 6 0
        have hrl := rgList_len h hn
        simp only [Option.bind_some, c1, c2, c3, decide_true, if_true, and_self, ge_iff_le, Int.toNat_natCast]
        rw [stepBy_i (by decide) (hexNear_mid hh (by decide)) (by omega), Option.bind_some]
        constructor
        · by_cases z : n = 0
          · subst z
            have := rgOut_i hn hh 6 0 [h] (by decide) (by decide) (by simp)
            rw [if_pos (by rfl), if_pos (by simp)]
            exact this
          · have := rgOut_i hn hh 6 0 [] (by decide) (by decide) (by simp; omega)
            rw [if_neg (by omega)]
            have e : rgList h n = [] ++ rgSides h n 6 0 := by unfold rgList; rw [if_neg z]
            rw [e]
            exact this
        · have e : Ds_hRing h n = some (rgList h n) := by
            unfold Ds_hRing
            by_cases z : n = 0
            · subst z
              rw [if_pos (by rfl)]
              rfl
            · have i0 := rgCorner0 hn hh n 0 (by omega)
              have i1 := rgOut_s hn hh 6 0 [] (by decide) (by decide) (by simp; omega)
              rw [show ((0 : Nat) : Int) = 0 from rfl, hexGo_zero] at i0
              rw [if_neg (by omega), i0]
              unfold rgList
              rw [if_neg z]
              exact i1
          rw [e, Option.bind_some, hAll_s2 (by omega), Option.bind_some]
      · simp [c1, c2, c3]
    · simp [c1, c2]
  · simp [c1]
theorem rgSide_dist {h : Gi_Hex} {r : Nat} {d : Int} (h6 : 0 ≤ d ∧ d < 6) {x : Gi_Hex} (hx : x ∈ rgSide (rgC h r d) d 0 r) : hd h x = r := by
  simp only [rgSide, List.mem_map, List.mem_range'_1] at hx
  obtain ⟨j, hj, rfl⟩ := hx
  rcases sixDirs h6 with rfl | rfl | rfl | rfl | rfl | rfl <;> simp [hd, rgC, hexGo, dQ, dR] <;> omega
theorem rgSides_dist {h : Gi_Hex} {r : Nat} : ∀ (m : Nat) (d : Int), 0 ≤ d → d + m = 6 → ∀ x ∈ rgSides h r m d, hd h x = r
  | 0, d, _, _, x, hx => by cases hx
  | m + 1, d, h0, h1, x, hx => by
    rcases List.mem_append.1 hx with hx | hx
    · exact rgSide_dist ⟨h0, by omega⟩ hx
    · exact rgSides_dist m (d + 1) (by omega) (by omega) x hx
theorem rgList_dist {h : Gi_Hex} {r : Nat} {x : Gi_Hex} (hx : x ∈ rgList h r) : hd h x = r := by
  rcases List.mem_append.1 hx with hx | hx
  · by_cases z : r = 0
    · rw [if_pos z, List.mem_singleton] at hx
      subst hx z
      simp [hd]
    · rw [if_neg z] at hx; cases hx
  · exact rgSides_dist 6 0 (by decide) (by decide) x hx

def dkRow (h : Gi_Hex) (r q : Int) : Nat → Int → List Gi_Hex
  | 0, _ => []
  | n + 1, y => (if hd h ⟨q, y⟩ ≤ r then [⟨q, y⟩] else []) ++ dkRow h r q n (y + 1)
def dkAll (h : Gi_Hex) (r : Int) : Nat → Int → List Gi_Hex
  | 0, _ => []
  | n + 1, q => dkRow h r q (2 * r + 1).toNat (h.R - r) ++ dkAll h r n (q + 1)
theorem dkRow_len (h : Gi_Hex) (r q : Int) : ∀ (n : Nat) (y : Int), (dkRow h r q n y).length ≤ n
  | 0, y => Nat.le_refl _
  | n + 1, y => by
    have := dkRow_len h r q n (y + 1)
    simp only [dkRow, List.length_append]
    split <;> simp <;> omega
theorem dkAll_len (h : Gi_Hex) {r : Int} (hr : 0 ≤ r ∧ r ≤ 6) : ∀ (n : Nat) (q : Int), (dkAll h r n q).length ≤ n * 13
  | 0, q => Nat.le_refl _
  | n + 1, q => by
    have h1 := dkAll_len h hr n (q + 1)
    have h2 := dkRow_len h r q (2 * r + 1).toNat (h.R - r)
    simp only [dkAll, List.length_append]
    omega
theorem dkIn_i {h : Gi_Hex} {r q : Int} (hr : 0 ≤ r ∧ r ≤ 6) (hh : hexNear h 40) (hq : -100 ≤ q ∧ q ≤ 100) : ∀ (n : Nat) (y : Int) (acc : List Gi_Hex), y + n = h.R + r + 1 → -100 ≤ y → acc.length + n ≤ 1000 →
    loop Bi_DiskOf (.h2 r q y h acc) = loop Bi_DiskOf (.h1 r (q + 1) h (acc ++ dkRow h r q n y))
  | 0, y, acc, e, hy, hl => by
    unfold hexNear at hh
    rw [loop_eq]
    simp only [Bi_DiskOf, dkRow, List.append_nil]
    rw [w64 (n := h.R + r) (by omega), if_neg (by omega), w64 (by omega)]
    rfl
  | n + 1, y, acc, e, hy, hl => by
    have hm := hexNear_mid hh (by decide)
    have hh' := hh
    unfold hexNear at hh'
    have i1 := dkIn_i hr hh hq n (y + 1) (acc ++ [⟨q, y⟩]) (by omega) (by omega) (by simp only [List.length_append, List.length_singleton]; omega)
    have i2 := dkIn_i hr hh hq n (y + 1) acc (by omega) (by omega) (by omega)
    rw [loop_eq]
    simp only [Bi_DiskOf, dkRow]
    rw [w64 (n := h.R + r) (by omega), if_pos (by omega), hd_i hm (by simp only; omega), Option.bind_some, w64 (n := y + 1) (by omega)]
    by_cases c : hd h ⟨q, y⟩ ≤ r
    · rw [if_pos c, if_pos c, if_pos (by simp only [List.length_append, List.length_singleton]; omega)]
      rw [← List.append_assoc]
      exact i1
    · rw [if_neg c, if_neg c, List.nil_append]
      exact i2
theorem dkIn_s {h : Gi_Hex} {r q : Int} (hr : 0 ≤ r ∧ r ≤ 6) (hh : hexNear h 40) (hq : -100 ≤ q ∧ q ≤ 100) : ∀ (n : Nat) (y : Int) (acc : List Gi_Hex), y + n = h.R + r + 1 → -100 ≤ y → acc.length + n ≤ 1000 →
    loop Bs_hDisk (.h2 r q y h acc) = loop Bs_hDisk (.h1 r (q + 1) h (acc ++ dkRow h r q n y))
  | 0, y, acc, e, hy, hl => by
    unfold hexNear at hh
    rw [loop_eq]
    simp only [Bs_hDisk, dkRow, List.append_nil]
    rw [w64 (n := h.R + r) (by omega), if_neg (by omega), w64 (by omega)]
    rfl
  | n + 1, y, acc, e, hy, hl => by
    have hm := hexNear_mid hh (by decide)
    have hh' := hh
    unfold hexNear at hh'
    have i1 := dkIn_s hr hh hq n (y + 1) (acc ++ [⟨q, y⟩]) (by omega) (by omega) (by simp only [List.length_append, List.length_singleton]; omega)
    have i2 := dkIn_s hr hh hq n (y + 1) acc (by omega) (by omega) (by omega)
    rw [loop_eq]
    simp only [Bs_hDisk, dkRow]
    rw [w64 (n := h.R + r) (by omega), if_pos (by omega), hd_s hm (by simp only; omega), Option.bind_some, w64 (n := y + 1) (by omega)]
    by_cases c : hd h ⟨q, y⟩ ≤ r
    · rw [if_pos c, if_pos c, if_pos (by simp only [List.length_append, List.length_singleton]; omega)]
      rw [← List.append_assoc]
      exact i1
    · rw [if_neg c, if_neg c, List.nil_append]
      exact i2
theorem dkOut_i {h : Gi_Hex} {r : Int} (hr : 0 ≤ r ∧ r ≤ 6) (hh : hexNear h 40) : ∀ (n : Nat) (q : Int) (acc : List Gi_Hex), q + n = h.Q + r + 1 → -100 ≤ q → acc.length + n * 13 ≤ 900 →
    loop Bi_DiskOf (.h1 r q h acc) = some (hexAllR (acc ++ dkAll h r n q))
  | 0, q, acc, e, hq, hl => by
    unfold hexNear at hh
    rw [loop_eq]
    simp only [Bi_DiskOf, dkAll, List.append_nil]
    rw [w64 (by omega), if_neg (by omega), allHexes_i2 (by omega), Option.bind_some]
    unfold hexAllR
    by_cases c : okAll acc = true
    · rw [if_pos c, if_pos c]; rfl
    · rw [if_neg c, if_neg c]; rfl
  | n + 1, q, acc, e, hq, hl => by
    have hh' := hh
    unfold hexNear at hh'
    have hl1 := dkRow_len h r q (2 * r + 1).toNat (h.R - r)
    have i1 := dkIn_i hr hh (q := q) (by omega) (2 * r + 1).toNat (h.R - r) acc (by omega) (by omega) (by omega)
    have i2 := dkOut_i hr hh n (q + 1) (acc ++ dkRow h r q (2 * r + 1).toNat (h.R - r)) (by omega) (by omega) (by rw [List.length_append]; omega)
    rw [loop_eq]
    simp only [Bi_DiskOf, dkAll]
    rw [w64 (by omega), if_pos (by omega), w64 (by omega)]
    show loop Bi_DiskOf (.h2 r q (h.R - r) h acc) = _
    rw [i1, i2, List.append_assoc]
theorem dkOut_s {h : Gi_Hex} {r : Int} (hr : 0 ≤ r ∧ r ≤ 6) (hh : hexNear h 40) : ∀ (n : Nat) (q : Int) (acc : List Gi_Hex), q + n = h.Q + r + 1 → -100 ≤ q → acc.length + n * 13 ≤ 900 →
    loop Bs_hDisk (.h1 r q h acc) = some (acc ++ dkAll h r n q)
  | 0, q, acc, e, hq, hl => by
    unfold hexNear at hh
    rw [loop_eq]
    simp only [Bs_hDisk, dkAll, List.append_nil]
    rw [w64 (by omega), if_neg (by omega)]
    rfl
  | n + 1, q, acc, e, hq, hl => by
    have hh' := hh
    unfold hexNear at hh'
    have hl1 := dkRow_len h r q (2 * r + 1).toNat (h.R - r)
    have i1 := dkIn_s hr hh (q := q) (by omega) (2 * r + 1).toNat (h.R - r) acc (by omega) (by omega) (by omega)
    have i2 := dkOut_s hr hh n (q + 1) (acc ++ dkRow h r q (2 * r + 1).toNat (h.R - r)) (by omega) (by omega) (by rw [List.length_append]; omega)
    rw [loop_eq]
    simp only [Bs_hDisk, dkAll]
    rw [w64 (by omega), if_pos (by omega), w64 (by omega)]
    show loop Bs_hDisk (.h2 r q (h.R - r) h acc) = _
    rw [i1, i2, List.append_assoc]
def dkR (h : Gi_Hex) (r : Int) : List Gi_Hex × Bool := if HexOk h ∧ 0 ≤ r ∧ r ≤ 6 then hexAllR (dkAll h r (2 * r + 1).toNat (h.Q - r)) else ([], false)
theorem dk_both (h : Gi_Hex) (r : Int) : Di_DiskOf h r = some (dkR h r) ∧ Ds_DiskOf h r = some (dkR h r) := by
  unfold Di_DiskOf Ds_DiskOf dkR Di_inRange Ds_l1In Ds_hDisk
  rw [isHex_i, good_s]
  by_cases c1 : HexOk h
  · by_cases c2 : 0 ≤ r
    · by_cases c3 : r ≤ 6
      · have hh := hexNear_ok c1
        have hh' := hh
        unfold hexNear at hh'
        have hlen := dkAll_len h ⟨c2, c3⟩ (2 * r + 1).toNat (h.Q - r)
        have i1 := dkOut_i ⟨c2, c3⟩ hh (2 * r + 1).toNat (h.Q - r) [] (by omega) (by omega) (by simp; omega)
        have i2 := dkOut_s ⟨c2, c3⟩ hh (2 * r + 1).toNat (h.Q - r) [] (by omega) (by omega) (by simp; omega)
        rw [List.nil_append] at i1 i2
        simp only [Option.bind_some, c1, c2, c3, decide_true, if_true, and_self, ge_iff_le]
        rw [w64 (by omega), i1, i2, Option.bind_some, hAll_s2 (by omega), Option.bind_some]
        exact ⟨rfl, rfl⟩
      · simp [c1, c2, c3]
    · simp [c1, c2]
  · simp [c1]
def dkRowN (r i : Int) : Nat → Int → Nat
  | 0, _ => 0
  | n + 1, j => (if ((i.natAbs + j.natAbs + (i + j).natAbs : Nat) : Int) / 2 ≤ r then 1 else 0) + dkRowN r i n (j + 1)
def dkAllN (r : Int) : Nat → Int → Nat
  | 0, _ => 0
  | n + 1, i => dkRowN r i (2 * r + 1).toNat (-r) + dkAllN r n (i + 1)
theorem dkRow_cnt (h : Gi_Hex) (r q : Int) : ∀ (n : Nat) (y : Int), (dkRow h r q n y).length = dkRowN r (q - h.Q) n (y - h.R)
  | 0, y => rfl
  | n + 1, y => by
    simp only [dkRow, dkRowN, List.length_append, dkRow_cnt h r q n (y + 1)]
    rw [show y + 1 - h.R = y - h.R + 1 by omega]
    congr 1
    unfold hd
    simp only
    split <;> rfl
theorem dkAll_cnt (h : Gi_Hex) (r : Int) : ∀ (n : Nat) (q : Int), (dkAll h r n q).length = dkAllN r n (q - h.Q)
  | 0, q => rfl
  | n + 1, q => by
    simp only [dkAll, dkAllN, List.length_append, dkAll_cnt h r n (q + 1), dkRow_cnt]
    rw [show q + 1 - h.Q = q - h.Q + 1 by omega, show h.R - r - h.R = -r by omega]
theorem dk_count (h : Gi_Hex) {r : Int} (hr : 0 ≤ r ∧ r ≤ 6) : ((dkAll h r (2 * r + 1).toNat (h.Q - r)).length : Int) = 3 * r * (r + 1) + 1 := by
  rw [dkAll_cnt, show h.Q - r - h.Q = -r by omega]
  have : r = 0 ∨ r = 1 ∨ r = 2 ∨ r = 3 ∨ r = 4 ∨ r = 5 ∨ r = 6 := by omega
  rcases this with rfl | rfl | rfl | rfl | rfl | rfl | rfl <;> decide +kernel
theorem dkR_ok {h : Gi_Hex} {r : Int} (hk : (dkR h r).2 = true) : 0 ≤ r ∧ r ≤ 6 ∧ ((dkR h r).1.length : Int) = 3 * r * (r + 1) + 1 := by
  unfold dkR at hk ⊢
  by_cases c : HexOk h ∧ 0 ≤ r ∧ r ≤ 6
  · rw [if_pos c] at hk ⊢
    rw [(hexAllR_ok hk).1]
    exact ⟨c.2.1, c.2.2, dk_count h c.2⟩
  · rw [if_neg c] at hk; cases hk
theorem dkR_len (h : Gi_Hex) (r : Int) : (dkR h r).1.length ≤ 1000 := by
  unfold dkR
  by_cases c : HexOk h ∧ 0 ≤ r ∧ r ≤ 6
  · rw [if_pos c]
    have h1 := hexAllR_len (dkAll h r (2 * r + 1).toNat (h.Q - r))
    have h2 := dkAll_len h c.2 (2 * r + 1).toNat (h.Q - r)
    omega
  · rw [if_neg c]; simp
theorem rgR_len (h : Gi_Hex) (r : Int) : (rgR h r).1.length ≤ 1000 := by
  unfold rgR
  by_cases c : HexOk h ∧ 0 ≤ r ∧ r ≤ 6
  · rw [if_pos c]
    have h1 := hexAllR_len (rgList h r.toNat)
    have h2 := rgList_len h (r := r.toNat) (by omega)
    omega
  · rw [if_neg c]; simp
theorem rgR_mem {h : Gi_Hex} {r : Int} {x : Gi_Hex} (hx : x ∈ (rgR h r).1) : HexOk h ∧ HexOk x ∧ hd h x = r := by
  unfold rgR at hx
  by_cases c : HexOk h ∧ 0 ≤ r ∧ r ≤ 6
  · rw [if_pos c] at hx
    unfold hexAllR at hx
    by_cases o : okAll (rgList h r.toNat) = true
    · rw [if_pos o] at hx
      have := rgList_dist hx
      exact ⟨c.1, okAll_mem o hx, by omega⟩
    · rw [if_neg o] at hx; cases hx
  · rw [if_neg c] at hx; cases hx


def isDirB (d : Int) : Bool := decide (0 ≤ d) && decide (d ≤ 5)
theorem isDirB_iff {d : Int} : isDirB d = true ↔ 0 ≤ d ∧ d < 6 := by
  simp [isDirB]
  omega
theorem isDir_i (d : Int) : Di_isDirection d = some (isDirB d) := by
  unfold Di_isDirection Di_inRange isDirB
  by_cases c : 0 ≤ d <;> simp [c]
theorem in_s05 (d : Int) : Ds_l1In d 0 5 = some (isDirB d) := by
  unfold Ds_l1In isDirB
  by_cases c : 0 ≤ d <;> simp [c]
def wkAt (h : Gi_Hex) : List Int → List Gi_Hex
  | [] => []
  | d :: p => hexGo h d 1 :: wkAt (hexGo h d 1) p
theorem wkAt_len : ∀ (p : List Int) (h : Gi_Hex), (wkAt h p).length = p.length
  | [], _ => rfl
  | d :: p, h => by simp [wkAt, wkAt_len p]
theorem wkDirs_i {path : List Int} {h : Gi_Hex} (hl : path.length ≤ 60) : ∀ (n i : Nat), i + n = path.length →
    loop Bi_WalkFrom (.h1 path path (path.length : Int) (i : Int) h) = if (path.drop i).all isDirB = true then loop Bi_WalkFrom (.h2 path (path.length : Int) 0 h []) else some ([], false)
  | 0, i, e => by
    rw [loop_eq, List.drop_of_length_le (by omega)]
    simp only [Bi_WalkFrom]
    rw [if_neg (by omega), if_pos (by rfl)]
    rfl
  | n + 1, i, e => by
    have hx : path[i]? = some path[i] := List.getElem?_eq_getElem (by omega)
    have ih := wkDirs_i hl n (i + 1) (by omega) (h := h)
    rw [loop_eq, List.drop_eq_getElem_cons (by omega), List.all_cons]
    simp only [Bi_WalkFrom]
    rw [if_pos (by omega), if_pos (by omega), Int.toNat_natCast, hx, Option.bind_some, isDir_i, Option.bind_some]
    by_cases c : isDirB path[i] = true
    · rw [if_pos c, wsucc (by omega), c, Bool.true_and]
      exact ih
    · rw [if_neg c]
      simp only [Bool.not_eq_true] at c
      rw [c, Bool.false_and, if_neg (by decide)]
      rfl
theorem wkDirs_s {path : List Int} (hl : path.length ≤ 60) : ∀ (n i : Nat), i + n = path.length →
    loop Bs_l1All (.h1 0 5 path (path.length : Int) (i : Int)) = some ((path.drop i).all isDirB)
  | 0, i, e => by
    rw [loop_eq, List.drop_of_length_le (by omega)]
    simp only [Bs_l1All]
    rw [if_neg (by omega)]
    rfl
  | n + 1, i, e => by
    have hx : path[i]? = some path[i] := List.getElem?_eq_getElem (by omega)
    have ih := wkDirs_s hl n (i + 1) (by omega)
    rw [loop_eq, List.drop_eq_getElem_cons (by omega), List.all_cons]
    simp only [Bs_l1All]
    rw [if_pos (by omega), if_pos (by omega), Int.toNat_natCast, hx, Option.bind_some, in_s05, Option.bind_some]
    by_cases c : isDirB path[i] = true
    · rw [if_pos c, wsucc (by omega), c, Bool.true_and]
      exact ih
    · rw [if_neg c]
      simp only [Bool.not_eq_true] at c
      rw [c, Bool.false_and]
      rfl
theorem wkGo_i {path : List Int} (hl : path.length ≤ 60) (hp : path.all isDirB = true) : ∀ (n i : Nat) (b : Gi_Hex) (acc : List Gi_Hex), i + n = path.length → HexOk b → acc.length = i → 
    loop Bi_WalkFrom (.h2 path (path.length : Int) (i : Int) b acc) = some (if okAll (wkAt b (path.drop i)) = true then (acc ++ wkAt b (path.drop i), true) else ([], false))
  | 0, i, b, acc, e, hb, ha => by
    rw [loop_eq, List.drop_of_length_le (by omega)]
    simp only [Bi_WalkFrom, wkAt, List.append_nil]
    rw [if_neg (by omega), if_pos okAll_nil]
    rfl
  | n + 1, i, b, acc, e, hb, ha => by
    have hx : path[i]? = some path[i] := List.getElem?_eq_getElem (by omega)
    have hd := isDirB_iff.1 (List.all_eq_true.1 hp path[i] (List.getElem_mem (by omega)))
    rw [loop_eq, List.drop_eq_getElem_cons (by omega)]
    simp only [Bi_WalkFrom, wkAt]
    rw [if_pos (by omega), if_pos (by omega), Int.toNat_natCast, hx, Option.bind_some, stepBy_i hd (hexOk_mid hb) (by decide), Option.bind_some, isHex_i, Option.bind_some]
    by_cases c : HexOk (hexGo b path[i] 1)
    · rw [if_pos (by simpa using c), if_pos (by simp only [List.length_append, List.length_singleton]; omega), wsucc (by omega)]
      have ih := wkGo_i hl hp n (i + 1) (hexGo b path[i] 1) (acc ++ [hexGo b path[i] 1]) (by omega) c (by simp [ha])
      show loop Bi_WalkFrom (.h2 path (path.length : Int) ((i + 1 : Nat) : Int) _ _) = _
      rw [ih]
      simp only [okAll_cons, c, true_and, List.append_assoc, List.singleton_append]
    · rw [if_neg (by simpa using c)]
      simp only [okAll_cons, c, false_and, if_false]
      rfl
theorem wkGo_s {path : List Int} (hl : path.length ≤ 60) (hp : path.all isDirB = true) : ∀ (n i : Nat) (b : Gi_Hex) (acc : List Gi_Hex), i + n = path.length → hexNear b (40 + (i : Int)) → acc.length = i →
    loop Bs_WalkFrom (.h1 path (path.length : Int) (i : Int) b acc) = some (hexAllR (acc ++ wkAt b (path.drop i)))
  | 0, i, b, acc, e, hb, ha => by
    rw [loop_eq, List.drop_of_length_le (by omega)]
    simp only [Bs_WalkFrom, wkAt, List.append_nil]
    rw [if_neg (by omega), hAll_s2 (by omega)]
    rfl
  | n + 1, i, b, acc, e, hb, ha => by
    have hx : path[i]? = some path[i] := List.getElem?_eq_getElem (by omega)
    have hd := isDirB_iff.1 (List.all_eq_true.1 hp path[i] (List.getElem_mem (by omega)))
    have hb' := hexNear_go hb hd (n := 1) (by decide)
    have ih := wkGo_s hl hp n (i + 1) (hexGo b path[i] 1) (acc ++ [hexGo b path[i] 1]) (by omega) (by rw [show 40 + ((i + 1 : Nat) : Int) = 40 + (i : Int) + 1 by omega]; exact hb') (by simp [ha])
    rw [loop_eq, List.drop_eq_getElem_cons (by omega)]
    simp only [Bs_WalkFrom, wkAt]
    rw [if_pos (by omega), if_pos (by omega), Int.toNat_natCast, hx, Option.bind_some, hStep_s hd (hexNear_mid hb (by omega)), Option.bind_some, if_pos (by simp only [List.length_append, List.length_singleton]; omega), wsucc (by omega)]
    show loop Bs_WalkFrom (.h1 path (path.length : Int) ((i + 1 : Nat) : Int) _ _) = _
    rw [ih, List.append_assoc, List.singleton_append]
def wkR (h : Gi_Hex) (p : List Int) : List Gi_Hex × Bool := if HexOk h ∧ p.length ≤ 60 ∧ p.all isDirB = true then hexAllR (wkAt h p) else ([], false)
theorem wk_both (h : Gi_Hex) (p : List Int) : Di_WalkFrom h p = some (wkR h p) ∧ Ds_WalkFrom h p = some (wkR h p) := by
  unfold Di_WalkFrom Ds_WalkFrom wkR Ds_l1All
  rw [isHex_i, good_s]
  by_cases c1 : HexOk h
  · by_cases c2 : p.length ≤ 60
    · have a1 := wkDirs_i c2 p.length 0 (by omega) (h := h)
      have a2 := wkDirs_s c2 p.length 0 (by omega)
      rw [List.drop_zero] at a1 a2
      have n60 : ¬ ((p.length : Nat) : Int) > 60 := by omega
      rw [show ((0 : Nat) : Int) = 0 from rfl] at a1 a2
      simp only [Option.bind_some, c1, c2, n60, decide_true, if_true, if_false, true_and, a1, a2]
      by_cases c3 : p.all isDirB = true
      · have g1 := wkGo_i c2 c3 p.length 0 h [] (by omega) c1 rfl
        have g2 := wkGo_s c2 c3 p.length 0 h [] (by omega) (by simpa using hexNear_ok c1) rfl
        rw [List.drop_zero, List.nil_append] at g1 g2
        rw [if_pos c3, if_pos c3, if_pos c3]
        exact ⟨g1, g2⟩
      · rw [if_neg c3, if_neg c3, if_neg c3]
        exact ⟨rfl, rfl⟩
    · have c2' : ((p.length : Nat) : Int) > 60 := by omega
      simp [c1, c2, c2']
  · simp [c1]
theorem wkR_len (h : Gi_Hex) (p : List Int) : (wkR h p).1.length ≤ 60 := by
  unfold wkR
  by_cases c : HexOk h ∧ p.length ≤ 60 ∧ p.all isDirB = true
  · rw [if_pos c]
    have h1 := hexAllR_len (wkAt h p)
    rw [wkAt_len] at h1
    omega
  · rw [if_neg c]; simp

def nbAt (l : List Gi_Hex) (h : Gi_Hex) (i b : Int) : Int := match l[i.toNat]?, l[b.toNat]? with
  | some x, some y => if hd x h < hd y h then i else b
  | _, _ => b
def nbGo (l : List Gi_Hex) (h : Gi_Hex) : Nat → Int → Int → Int
  | 0, _, b => b
  | n + 1, i, b => nbGo l h n (i + 1) (nbAt l h i b)
theorem nb_i {l : List Gi_Hex} {h : Gi_Hex} (hl : l.length ≤ 60) (ha : ∀ x ∈ l, HexOk x) (hh : HexOk h) : ∀ (n i : Nat) (b : Int), i + n = l.length → 0 ≤ b → b < l.length →
    loop Bi_NearestAlong (.h1 l b (l.length : Int) (i : Int) h) = some (nbGo l h n i b, true)
  | 0, i, b, e, h0, h1 => by
    rw [loop_eq]
    simp only [Bi_NearestAlong]
    rw [if_neg (by omega)]
    rfl
  | n + 1, i, b, e, h0, h1 => by
    have hx : l[i]? = some l[i] := List.getElem?_eq_getElem (by omega)
    have hy : l[b.toNat]? = some l[b.toNat] := List.getElem?_eq_getElem (by omega)
    have hxo := ha l[i] (List.getElem_mem (by omega))
    have hyo := ha l[b.toNat] (List.getElem_mem (by omega))
    have en : nbAt l h (i : Int) b = if hd l[i] h < hd l[b.toNat] h then (i : Int) else b := by
      unfold nbAt
      rw [Int.toNat_natCast, hx, hy]
    rw [loop_eq]
    simp only [Bi_NearestAlong, nbGo, en]
    rw [if_pos (by omega), if_pos (by omega), Int.toNat_natCast, hx, Option.bind_some, hd_i (hexOk_mid hxo) (hexOk_mid hh), Option.bind_some, if_pos h0, hy, Option.bind_some, hd_i (hexOk_mid hyo) (hexOk_mid hh), Option.bind_some, wsucc (by omega)]
    by_cases c : hd l[i] h < hd l[b.toNat] h
    · rw [if_pos c, if_pos c]
      exact nb_i hl ha hh n (i + 1) i (by omega) (by omega) (by omega)
    · rw [if_neg c, if_neg c]
      exact nb_i hl ha hh n (i + 1) b (by omega) h0 h1
theorem nb_s {l : List Gi_Hex} {h : Gi_Hex} (hl : l.length ≤ 60) (hh : HexOk h) : ∀ (n i : Nat) (b : Int), i + n = l.length → 0 ≤ b → b < l.length → (∀ y, l[b.toNat]? = some y → HexOk y ∨ b = i) →
    loop Bs_NearestAlong (.h1 l b l (l.length : Int) (i : Int) h) = some (if okAll (l.drop i) = true then (nbGo l h n i b, true) else (0, false))
  | 0, i, b, e, h0, h1, hb => by
    rw [loop_eq, List.drop_of_length_le (by omega), if_pos okAll_nil]
    simp only [Bs_NearestAlong]
    rw [if_neg (by omega)]
    rfl
  | n + 1, i, b, e, h0, h1, hb => by
    have hx : l[i]? = some l[i] := List.getElem?_eq_getElem (by omega)
    have hy : l[b.toNat]? = some l[b.toNat] := List.getElem?_eq_getElem (by omega)
    have en : nbAt l h (i : Int) b = if hd l[i] h < hd l[b.toNat] h then (i : Int) else b := by
      unfold nbAt
      rw [Int.toNat_natCast, hx, hy]
    rw [loop_eq, List.drop_eq_getElem_cons (by omega)]
    simp only [Bs_NearestAlong, nbGo, en, okAll_cons]
    rw [if_pos (by omega), if_pos (by omega), Int.toNat_natCast, hx, Option.bind_some, good_s, Option.bind_some]
    by_cases o : HexOk l[i]
    · have hyo : HexOk l[b.toNat] := by
        rcases hb _ hy with h' | h'
        · exact h'
        · have : b.toNat = i := by omega
          simp only [this]
          exact o
      rw [if_pos (by simpa using o), hd_s (hexOk_mid o) (hexOk_mid hh), Option.bind_some, if_pos h0, hy, Option.bind_some, hd_s (hexOk_mid hyo) (hexOk_mid hh), Option.bind_some, wsucc (by omega)]
      simp only [o, true_and]
      by_cases c : hd l[i] h < hd l[b.toNat] h
      · rw [if_pos c, if_pos c]
        exact nb_s hl hh n (i + 1) i (by omega) (by omega) (by omega) (fun y hy' => by
          rw [Int.toNat_natCast, hx] at hy'
          obtain rfl := Option.some.inj hy'
          exact .inl o)
      · rw [if_neg c, if_neg c]
        exact nb_s hl hh n (i + 1) b (by omega) h0 h1 (fun y hy' => by
          obtain rfl := Option.some.inj (hy.symm.trans hy')
          exact .inl hyo)
    · rw [if_neg (by simpa using o)]
      simp only [o, false_and, if_false]
      rfl
def nbR (l : List Gi_Hex) (h : Gi_Hex) : Int × Bool := if 1 ≤ l.length ∧ l.length ≤ 60 ∧ HexOk h ∧ okAll l = true then (nbGo l h l.length 0 0, true) else (0, false)
theorem nb_both (l : List Gi_Hex) (h : Gi_Hex) (hl : l.length < 9223372036854775807) : Di_NearestAlong l h = some (nbR l h) ∧ Ds_NearestAlong l h = some (nbR l h) := by
  unfold Di_NearestAlong Ds_NearestAlong nbR Ds_l1In
  rw [allHexes_i2 hl, isHex_i, good_s]
  by_cases c1 : 1 ≤ l.length
  · by_cases c2 : l.length ≤ 60
    · have n1 : ¬ ((l.length : Nat) : Int) < 1 := by omega
      have n2 : ¬ ((l.length : Nat) : Int) > 60 := by omega
      have n3 : ((l.length : Nat) : Int) ≥ 1 := by omega
      have n4 : ((l.length : Nat) : Int) ≤ 60 := by omega
      simp only [n1, n2, n3, n4, if_false, if_true, Option.bind_some, decide_true, c1, c2, true_and]
      by_cases c3 : HexOk h
      · have g2 := nb_s c2 c3 l.length 0 0 (by omega) (by decide) (by omega) (fun y hy => .inr rfl)
        rw [List.drop_zero] at g2
        simp only [c3, decide_true, if_true, true_and]
        refine ⟨?_, g2⟩
        by_cases c4 : okAll l = true
        · rw [if_pos c4, if_pos c4]
          exact nb_i c2 (fun x hx => okAll_mem c4 hx) c3 l.length 0 0 (by omega) (by decide) (by omega)
        · rw [if_neg c4, if_neg c4]
      · simp only [c3, decide_false, Bool.false_eq_true, if_false, false_and]
        refine ⟨?_, trivial⟩
        split <;> rfl
    · have n1 : ¬ ((l.length : Nat) : Int) < 1 := by omega
      have n2 : ((l.length : Nat) : Int) > 60 := by omega
      have n3 : ((l.length : Nat) : Int) ≥ 1 := by omega
      have n4 : ¬ ((l.length : Nat) : Int) ≤ 60 := by omega
      simp [n1, n2, n3, n4, c2]
  · have n1 : ((l.length : Nat) : Int) < 1 := by omega
    have n3 : ¬ ((l.length : Nat) : Int) ≥ 1 := by omega
    simp [n1, n3, c1]

theorem cuStepsLoop : ∀ (n : Nat) {c : Gs_l1Cur} {k : Int} {l : List Int}, Cu c k → k + 2 * n ≤ 1099511627776 → l.length + n ≤ 100 →
    ∃ l' c', loop Bs_l1Cur_steps (.h1 (n : Int) c l) = some (l', c') ∧ Cu c' (k + 2 * n) ∧ l'.length ≤ 100
  | 0, c, k, l, h, hk, h2 => by
    rw [loop_eq]
    simp only [Bs_l1Cur_steps]
    rw [if_neg (by omega)]
    exact ⟨l, c, rfl, h.mono (by omega) (by omega), by omega⟩
  | n + 1, c, k, l, h, hk, h2 => by
    obtain ⟨v1, c1, e1, b1, g1⟩ := cuPick h (by omega) 6
    rw [loop_eq]
    simp only [Bs_l1Cur_steps]
    rw [if_pos (by omega), e1, Option.bind_some, if_pos (by simp only [List.length_append, List.length_singleton]; omega), w64 (by omega), show (((n + 1 : Nat) : Int) - 1) = (n : Int) by omega]
    obtain ⟨l', c', e, g, x2⟩ := cuStepsLoop n g1 (by omega) (l := l ++ [v1]) (by simp only [List.length_append, List.length_singleton]; omega)
    exact ⟨l', c', e, g.mono (by omega) (by omega), x2⟩
theorem cuSteps8 {c : Gs_l1Cur} {k : Int} (h : Cu c k) (hk : k + 20 ≤ 1099511627776) : ∃ l c', Ds_l1Cur_steps c 8 = some (l, c') ∧ Cu c' (k + 20) ∧ l.length ≤ 100 := by
  obtain ⟨v1, c1, e1, b1, g1⟩ := cuPick h (by omega) 9
  have hv := b1.2.1 (by omega)
  unfold Ds_l1Cur_steps
  rw [show IntKind.wrap .i64 (8 + 1) = 9 from by decide, e1, Option.bind_some]
  obtain ⟨l', c', e, g, x2⟩ := cuStepsLoop v1.toNat g1 (by omega) (l := []) (by simp; omega)
  rw [Int.toNat_of_nonneg b1.1] at e
  exact ⟨l', c', e, g.mono (by omega) (by omega), x2⟩
theorem drawWalkLoop {n0 : Int} {b1 b2 : Gi_Hex} (hn : n0 ≤ 1000) : ∀ (n : Nat) {l : List Int}, n0 - l.length ≤ n → l.length ≤ 1100 → ∃ r, loop Bs_DrawWalkFrom (.h1 n0 b1 b2 l) = some r
  | 0, l, h, hl => by
    rw [loop_eq]
    simp only [Bs_DrawWalkFrom]
    rw [if_neg (by omega)]
    exact ⟨_, rfl⟩
  | n + 1, l, h, hl => by
    rw [loop_eq]
    simp only [Bs_DrawWalkFrom]
    by_cases c : ((l.length : Nat) : Int) < n0
    · rw [if_pos c, if_pos (by simp only [List.length_append, List.length_cons, List.length_nil]; omega)]
      exact drawWalkLoop hn n (by simp only [List.length_append, List.length_cons, List.length_nil]; omega) (by simp only [List.length_append, List.length_cons, List.length_nil]; omega)
    · rw [if_neg c]
      exact ⟨_, rfl⟩
theorem drawWalkFrom {code : List Int} (h : ∀ x ∈ code, 0 ≤ x ∧ x < 256) (hl : code.length ≤ 1048576) : ∃ r, Ds_DrawWalkFrom code = some r := by
  obtain ⟨v1, c1, e1, g1⟩ := cuAnyHex (cu0 h hl) (by omega)
  obtain ⟨l, c2, e2, g2, x2⟩ := cuSteps8 g1 (by omega)
  obtain ⟨v3, c3, e3, b3, g3⟩ := cuPick g2 (by omega) 24
  obtain ⟨v4, c4, e4, _, g4⟩ := cuAmong g3 (by omega) [6, (-1)] (by simp)
  obtain ⟨v5, c5, e5, b5, g5⟩ := cuPick g3 (by omega) 2
  have hv5 := b5.2.1 (by omega)
  unfold Ds_DrawWalkFrom
  rw [e1, Option.bind_some, e2, Option.bind_some, e3, Option.bind_some]
  by_cases z : v3 = 0
  · rw [if_pos z, e4, Option.bind_some, if_pos (by simp only [List.length_append, List.length_singleton]; omega)]
    exact ⟨_, rfl⟩
  · rw [if_neg z]
    by_cases z1 : v3 = 1
    · rw [if_pos z1, e5, Option.bind_some, w64 (by omega)]
      exact drawWalkLoop (by omega) 100 (l := l) (by omega) (by omega)
    · rw [if_neg z1]
      exact ⟨_, rfl⟩
theorem drawNearLoop : ∀ (n : Nat) {c : Gs_l1Cur} {k : Int} {l : List Gi_Hex} {b1 : Gi_Hex}, Cu c k → k + 8 * n + 100 ≤ 1099511627776 → l.length + n ≤ 100 →
    ∃ l' h, loop Bs_DrawNearestAlong (.h1 (n : Int) b1 c l) = some (l', h) ∧ l'.length ≤ 200
  | 0, c, k, l, b1, h, hk, h2 => by
    obtain ⟨v1, c1, e1, b1', g1⟩ := cuPick h (by omega) 24
    obtain ⟨v2, c2, e2, g2⟩ := cuAnyHex g1 (by omega)
    obtain ⟨v3, c3, e3, g3⟩ := cuAnyHex g2 (by omega)
    obtain ⟨v4, c4, e4, b4, g4⟩ := cuPick g1 (by omega) 2
    obtain ⟨v5, c5, e5, g5⟩ := cuAnyHex g4 (by omega)
    have hv4 := b4.2.1 (by omega)
    rw [loop_eq]
    simp only [Bs_DrawNearestAlong]
    rw [if_neg (by omega), e1, Option.bind_some]
    by_cases z : v1 = 0
    · rw [if_pos z, e2, Option.bind_some, if_pos (by simp only [List.length_append, List.length_singleton]; omega), e3, Option.bind_some]
      exact ⟨_, _, rfl, by simp only [List.length_append, List.length_singleton]; omega⟩
    · rw [if_neg z]
      by_cases z1 : v1 = 1
      · rw [if_pos z1, e4, Option.bind_some, w64 (by omega), if_pos (by omega), if_pos (by omega), e5, Option.bind_some]
        exact ⟨_, _, rfl, by rw [List.length_replicate]; omega⟩
      · rw [if_neg z1, e2, Option.bind_some]
        exact ⟨_, _, rfl, by omega⟩
  | n + 1, c, k, l, b1, h, hk, h2 => by
    obtain ⟨v1, c1, e1, g1⟩ := cuHex h (by omega)
    rw [loop_eq]
    simp only [Bs_DrawNearestAlong]
    rw [if_pos (by omega), e1, Option.bind_some, if_pos (by simp only [List.length_append, List.length_singleton]; omega), w64 (by omega), show (((n + 1 : Nat) : Int) - 1) = (n : Int) by omega]
    exact drawNearLoop n g1 (by omega) (by simp only [List.length_append, List.length_singleton]; omega)
theorem drawNearestAlong {code : List Int} (h : ∀ x ∈ code, 0 ≤ x ∧ x < 256) (hl : code.length ≤ 1048576) : ∃ l' h, Ds_DrawNearestAlong code = some (l', h) ∧ l'.length ≤ 200 := by
  obtain ⟨v1, c1, e1, b1, g1⟩ := cuPick (cu0 h hl) (by omega) 7
  have hv := b1.2.1 (by omega)
  unfold Ds_DrawNearestAlong
  rw [e1, Option.bind_some]
  obtain ⟨l', x, e, y⟩ := drawNearLoop v1.toNat g1 (by omega) (l := []) (b1 := ⟨0, 0⟩) (by simp; omega)
  rw [Int.toNat_of_nonneg b1.1] at e
  exact ⟨l', x, e, y⟩
theorem drawRingOf {code : List Int} (h : ∀ x ∈ code, 0 ≤ x ∧ x < 256) (hl : code.length ≤ 1048576) : ∃ r, Ds_DrawRingOf code = some r := by
  obtain ⟨v1, c1, e1, g1⟩ := cuAnyHex (cu0 h hl) (by omega)
  obtain ⟨v2, c2, e2, _, g2⟩ := cuPick g1 (by omega) 8
  obtain ⟨v3, c3, e3, _, g3⟩ := cuPick g2 (by omega) 20
  unfold Ds_DrawRingOf
  rw [e1, Option.bind_some, e2, Option.bind_some, e3, Option.bind_some]
  exact ⟨_, rfl⟩

theorem rings2 {more : List Int} (h2 : ∀ x ∈ more, 0 ≤ x ∧ x < 256) (hl : more.length ≤ 1048576) (h : Gi_Hex) (r : Int) : ∀ (n i : Nat), i + n = (rgR h r).1.length →
    loop Bw_FnRings (.h1 more r (rgR h r).1 (((rgR h r).1.length : Nat) : Int) (i : Int) h) = some true
  | 0, i, e => by
    obtain ⟨k1, k2⟩ := dk_both h r
    have kl := dkR_len h r
    obtain ⟨⟨g, p⟩, ew⟩ := drawWalkFrom h2 hl
    obtain ⟨w1, w2⟩ := wk_both g p
    have wl := wkR_len g p
    obtain ⟨l, x, en, nl⟩ := drawNearestAlong h2 hl
    obtain ⟨n1, n2⟩ := nb_both l x (by omega)
    have s1 := same_hexes (l := (dkR h r).1) (by omega)
    have s2 := same_hexes (l := (wkR g p).1) (by omega)
    rw [loop_eq]
    simp only [Bw_FnRings]
    rw [if_neg (by omega)]
    simp only [k1, k2, ew, w1, w2, en, n1, n2, s1, s2, Option.bind_some, BEq.rfl, Bool.not_true, Bool.false_eq_true, if_false, if_true]
    by_cases c : (dkR h r).2 = true
    · obtain ⟨r0, r1, rc⟩ := dkR_ok c
      have hm := mulb (a := 3 * r) (b := r + 1) (A := 18) (B := 7) (by omega) (by omega)
      rw [if_pos c]
      simp only [c, BEq.rfl, Bool.not_true, Bool.false_eq_true, if_false]
      rw [w64 (n := 3 * r) (by omega), w64 (n := r + 1) (by omega), w64 (n := 3 * r * (r + 1)) (by omega), w64 (by omega), if_pos rc]
      rfl
    · have hf : (dkR h r).2 = false := by simpa using c
      rw [if_neg c]
      simp only [hf, BEq.rfl, Bool.not_true, Bool.false_eq_true, if_false]
      rfl
  | n + 1, i, e => by
    have kl := rgR_len h r
    have hx : (rgR h r).1[i]? = some (rgR h r).1[i] := List.getElem?_eq_getElem (by omega)
    obtain ⟨m1, m2, m3⟩ := rgR_mem (List.getElem_mem (l := (rgR h r).1) (n := i) (by omega))
    rw [loop_eq]
    simp only [Bw_FnRings]
    rw [if_pos (by omega), if_pos (by omega), Int.toNat_natCast, hx, Option.bind_some, dist_i2, if_pos ⟨m1, m2⟩, Option.bind_some, if_pos rfl, if_pos m3, wsucc (by omega)]
    exact rings2 h2 hl h r n (i + 1) (by omega)
theorem lawRings (code more : List Int) (hc : code.length < 9223372036854775808) (hm : more.length < 9223372036854775808) (h1 : ∀ x ∈ code, 0 ≤ x ∧ x < 256) (h2 : ∀ x ∈ more, 0 ≤ x ∧ x < 256) : Dw_FnRings code more = some true := by
  unfold Dw_FnRings
  rw [eBig code more hc hm, Option.bind_some]
  by_cases hb : 1048576 < code.length + more.length
  · rw [if_pos (decide_eq_true hb)]
  · rw [if_neg (by simpa using hb)]
    obtain ⟨⟨h, r⟩, ed⟩ := drawRingOf h1 (by omega)
    obtain ⟨g1, g2⟩ := rg_both h r
    have kl := rgR_len h r
    have s1 := same_hexes (l := (rgR h r).1) (by omega)
    rw [ed, Option.bind_some]
    simp only [g1, g2, s1, Option.bind_some, BEq.rfl, Bool.not_true, Bool.false_eq_true, if_false, if_true]
    exact rings2 h2 (by omega) h r (rgR h r).1.length 0 (by omega)


end Go.Proofs.YtlniejjcejackaaDoor.Ab
