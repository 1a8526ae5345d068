/- Part of the proof of FnPlacesCard: no condition of its own. -/
import Derived.Test.YtfnhclmdobdkbaaDoorB2FnPlacesD
import Derived.Test.YtfnhclmdobdkbaaDoorPuA
set_option linter.unusedVariables false
set_option linter.unusedSimpArgs false
open Go
namespace Go.Proofs.YtfnhclmdobdkbaaDoor.Ab
structure Cu (c : Gs_l1Cur) (k : Int) : Prop where
  at0 : 0 ≤ c.at_
  atk : c.at_ ≤ k
  kk : k ≤ 1099511627776
  code : ∀ x ∈ c.code, 0 ≤ x ∧ x < 256
  len : c.code.length ≤ 1048576

theorem Cu.mono {c : Gs_l1Cur} {k k' : Int} (h : Cu c k) (hk : k ≤ k') (hb : k' ≤ 1099511627776) : Cu c k' := ⟨h.at0, by have := h.atk; omega, hb, h.code, h.len⟩

theorem and255 (x : Int) : 0 ≤ IntKind.wrap .i64 (IntKind.wrap .u64 ((BitVec.toNat (BitVec.ofInt (IntKind.bits .u64) x &&& BitVec.ofInt (IntKind.bits .u64) 255) : Nat) : Int)) ∧ IntKind.wrap .i64 (IntKind.wrap .u64 ((BitVec.toNat (BitVec.ofInt (IntKind.bits .u64) x &&& BitVec.ofInt (IntKind.bits .u64) 255) : Nat) : Int)) < 256 := by
  have h : (BitVec.ofInt (IntKind.bits .u64) x &&& BitVec.ofInt (IntKind.bits .u64) 255).toNat ≤ 255 := by
    rw [BitVec.toNat_and]
    have e : (BitVec.ofInt (IntKind.bits .u64) 255).toNat = 255 := by decide
    rw [e]
    exact Nat.and_le_right
  generalize (BitVec.ofInt (IntKind.bits .u64) x &&& BitVec.ofInt (IntKind.bits .u64) 255).toNat = n at h
  have h2 : IntKind.wrap .u64 (n : Int) = (n : Int) := by
    simp only [IntKind.wrap, IntKind.bits, IntKind.signed]
    simp
    omega
  rw [h2, w64 (by omega)]
  omega

theorem cuNext {c : Gs_l1Cur} {k : Int} (h : Cu c k) (hk : k + 1 ≤ 1099511627776) : ∃ v c', Ds_l1Cur_next c = some (v, c') ∧ (0 ≤ v ∧ v < 256) ∧ Cu c' (k + 1) := by
  have h0 := h.at0
  have h1 := h.atk
  have mk : ∀ s, Cu ⟨c.code, c.at_ + 1, s⟩ (k + 1) := fun s => ⟨by simp only; omega, by simp only; omega, hk, h.code, h.len⟩
  unfold Ds_l1Cur_next
  rw [w64 (n := c.at_ + 1) (by omega)]
  by_cases ha : c.at_ < (c.code.length : Int)
  · have hlt : c.at_.toNat < c.code.length := by omega
    have hx := List.getElem?_eq_getElem hlt
    have hv := h.code _ (List.mem_of_getElem? hx)
    rw [if_pos ha, if_pos h0, hx]
    simp only [Option.bind_some]
    split
    · exact ⟨_, _, rfl, by rw [w64 (by omega)]; exact hv, mk _⟩
    · exact ⟨_, _, rfl, and255 _, mk _⟩
  · rw [if_neg ha]
    split
    · exact ⟨_, _, rfl, by omega, mk _⟩
    · exact ⟨_, _, rfl, and255 _, mk _⟩

theorem cuPick {c : Gs_l1Cur} {k : Int} (h : Cu c k) (hk : k + 2 ≤ 1099511627776) (n : Int) : ∃ v c', Ds_l1Cur_pick c n = some (v, c') ∧ (0 ≤ v ∧ (1 ≤ n → v < n) ∧ v ≤ 65535) ∧ Cu c' (k + 2) := by
  unfold Ds_l1Cur_pick
  by_cases h1 : n ≤ 1
  · rw [if_pos h1]
    exact ⟨_, _, rfl, by omega, h.mono (by omega) hk⟩
  · rw [if_neg h1]
    obtain ⟨v, c1, e1, hv, hc1⟩ := cuNext h (by omega)
    rw [e1]
    simp only [Option.bind_some]
    by_cases h2 : n > 200
    · rw [if_pos h2]
      obtain ⟨u, c2, e2, hu, hc2⟩ := cuNext hc1 (by omega)
      rw [e2]
      simp only [Option.bind_some]
      rw [if_pos (by omega), w64 (n := v * 256) (by omega), w64 (by omega)]
      have a1 := Int.tmod_nonneg n (show 0 ≤ v * 256 + u by omega)
      have a2 := Int.tmod_lt_of_pos (v * 256 + u) (show 0 < n by omega)
      have a3 : Int.tmod (v * 256 + u) n ≤ v * 256 + u := by
        have b1 := Int.mul_tdiv_add_tmod (v * 256 + u) n
        have b2 := Int.mul_nonneg (show 0 ≤ n by omega) (Int.tdiv_nonneg (show 0 ≤ v * 256 + u by omega) (show 0 ≤ n by omega))
        omega
      exact ⟨_, _, rfl, ⟨a1, fun _ => a2, by omega⟩, by have := hc2; rw [Int.add_assoc] at this; exact this⟩
    · rw [if_neg h2, if_pos (by omega)]
      have a1 := Int.tmod_nonneg n hv.1
      have a2 := Int.tmod_lt_of_pos v (show 0 < n by omega)
      exact ⟨_, _, rfl, ⟨a1, fun _ => a2, by omega⟩, hc1.mono (by omega) hk⟩

theorem cuOne {c : Gs_l1Cur} {k : Int} (h : Cu c k) (hk : k + 2 ≤ 1099511627776) (n : Int) : ∃ v c', Ds_l1Cur_one c n = some (v, c') ∧ Cu c' (k + 2) := by
  obtain ⟨v, c1, e1, _, hc1⟩ := cuPick h hk n
  unfold Ds_l1Cur_one
  rw [e1]
  exact ⟨_, _, rfl, hc1⟩

theorem cuAmong {c : Gs_l1Cur} {k : Int} (h : Cu c k) (hk : k + 2 ≤ 1099511627776) (l : List Int) (hl : 0 < l.length) : ∃ v c', Ds_l1Cur_among c l = some (v, c') ∧ v ∈ l ∧ Cu c' (k + 2) := by
  obtain ⟨v, c1, e1, hv, hc1⟩ := cuPick h hk l.length
  unfold Ds_l1Cur_among
  rw [e1]
  have hlt : v.toNat < l.length := by have := hv.2.1 (by omega); omega
  have hx := List.getElem?_eq_getElem hlt
  simp only [Option.bind_some]
  rw [if_pos hv.1, hx]
  exact ⟨_, _, rfl, List.mem_of_getElem? hx, hc1⟩

theorem cu0 {code : List Int} (h : ∀ x ∈ code, 0 ≤ x ∧ x < 256) (hl : code.length ≤ 1048576) : Cu ⟨code, 0, 0⟩ 0 := ⟨Int.le_refl _, Int.le_refl _, by decide, h, hl⟩

theorem eSameInts (l : List Int) (hl : l.length ≤ 1048577) : Dw_sameInts l l = some true := by
  unfold Dw_sameInts
  rw [if_pos rfl]
  refine true_loop (S := fun i => Sw_sameInts.h1 l l (l.length : Int) (i : Int)) (n := l.length) (fun i hi => ?_) ?_
  · simp [Bw_sameInts, hi, wsucc (show i < 9223372036854775807 by omega)]
  · simp [Bw_sameInts]

theorem eBig (a b : List Int) (ha : a.length < 9223372036854775808) (hb : b.length < 9223372036854775808) : Dw_big a b = some (decide (1048576 < a.length + b.length)) := by
  unfold Dw_big
  by_cases h : (a.length : Int) > 1048576
  · rw [if_pos h, decide_eq_true (by omega)]
  · rw [if_neg h, w64 (by omega)]
    congr 1
    by_cases h2 : 1048576 < a.length + b.length
    · rw [decide_eq_true h2]; exact decide_eq_true (by omega)
    · rw [decide_eq_false h2]; exact decide_eq_false (by omega)

theorem mulb {a b A B : Int} (ha : -A ≤ a ∧ a ≤ A) (hb : -B ≤ b ∧ b ≤ B) : -(A * B) ≤ a * b ∧ a * b ≤ A * B := by
  have h1 : a.natAbs ≤ A.natAbs := by omega
  have h2 : b.natAbs ≤ B.natAbs := by omega
  have h3 := Nat.mul_le_mul h1 h2
  rw [← Int.natAbs_mul, ← Int.natAbs_mul] at h3
  have : 0 ≤ A * B := Int.mul_nonneg (by omega) (by omega)
  omega

/-- The hexes' distance. -/
def hd (A B : Gi_Hex) : Int := ((B.Q - A.Q).natAbs + (B.R - A.R).natAbs + (B.Q - A.Q + (B.R - A.R)).natAbs : Nat) / 2

theorem abs_i {x : Int} (h : -100000 ≤ x ∧ x ≤ 100000) : Di_absOf x = some (x.natAbs : Int) := by
  unfold Di_absOf
  split
  · rw [w64 (by omega)]
    congr 1
    omega
  · congr 1
    omega

theorem abs_s {x : Int} (h : -100000 ≤ x ∧ x ≤ 100000) : Ds_l1Abs x = some (x.natAbs : Int) := by
  unfold Ds_l1Abs Ds_l1Most
  rw [w64 (by omega)]
  split
  · simp only [Option.bind_some]
    congr 1
    omega
  · simp only [Option.bind_some]
    congr 1
    omega

theorem hd_i {A B : Gi_Hex} (hA : -10000 ≤ A.Q ∧ A.Q ≤ 10000 ∧ -10000 ≤ A.R ∧ A.R ≤ 10000) (hB : -10000 ≤ B.Q ∧ B.Q ≤ 10000 ∧ -10000 ≤ B.R ∧ B.R ≤ 10000) : Di_distance A B = some (hd A B) := by
  unfold Di_distance hd
  rw [w64 (n := B.Q - A.Q) (by omega), w64 (n := B.R - A.R) (by omega), w64 (n := B.Q - A.Q + (B.R - A.R)) (by omega), abs_i (by omega), abs_i (by omega), abs_i (by omega)]
  simp only [Option.bind_some]
  rw [w64 (n := ((B.Q - A.Q).natAbs : Int) + ((B.R - A.R).natAbs : Int)) (by omega), w64 (n := ((B.Q - A.Q).natAbs : Int) + ((B.R - A.R).natAbs : Int) + ((B.Q - A.Q + (B.R - A.R)).natAbs : Int)) (by omega), Int.tdiv_eq_ediv_of_nonneg (by omega), w64 (by omega)]
  congr 1

theorem hd_s {A B : Gi_Hex} (hA : -10000 ≤ A.Q ∧ A.Q ≤ 10000 ∧ -10000 ≤ A.R ∧ A.R ≤ 10000) (hB : -10000 ≤ B.Q ∧ B.Q ≤ 10000 ∧ -10000 ≤ B.R ∧ B.R ≤ 10000) : Ds_hDistance A B = some (hd A B) := by
  unfold Ds_hDistance hd
  rw [w64 (n := B.Q - A.Q) (by omega), w64 (n := B.R - A.R) (by omega), w64 (n := B.Q - A.Q + (B.R - A.R)) (by omega), abs_s (by omega), abs_s (by omega), abs_s (by omega)]
  simp only [Option.bind_some]
  rw [w64 (n := ((B.Q - A.Q).natAbs : Int) + ((B.R - A.R).natAbs : Int)) (by omega), w64 (n := ((B.Q - A.Q).natAbs : Int) + ((B.R - A.R).natAbs : Int) + ((B.Q - A.Q + (B.R - A.R)).natAbs : Int)) (by omega), Int.tdiv_eq_ediv_of_nonneg (by omega), w64 (by omega)]
  congr 1

def dQ (d : Int) : Int := if d = 0 then 1 else if d = 1 then 1 else if d = 2 then 0 else if d = 3 then -1 else if d = 4 then -1 else 0
def dR (d : Int) : Int := if d = 0 then 0 else if d = 1 then -1 else if d = 2 then -1 else if d = 3 then 0 else 1
def hexGo (h : Gi_Hex) (d n : Int) : Gi_Hex := ⟨h.Q + n * dQ d, h.R + n * dR d⟩
def HexMid (h : Gi_Hex) : Prop := -10000 ≤ h.Q ∧ h.Q ≤ 10000 ∧ -10000 ≤ h.R ∧ h.R ≤ 10000

theorem sixDirs {d : Int} (h : 0 ≤ d ∧ d < 6) : d = 0 ∨ d = 1 ∨ d = 2 ∨ d = 3 ∨ d = 4 ∨ d = 5 := by omega
theorem dirGet {d : Int} (h : 0 ≤ d ∧ d < 6) : gv0[d.toNat]? = some ⟨dQ d, dR d⟩ := by
  rcases sixDirs h with rfl | rfl | rfl | rfl | rfl | rfl <;> rfl
theorem dirQ {d : Int} (h : 0 ≤ d ∧ d < 6) : [1, 1, 0, (-1), (-1), 0][d.toNat]? = some (dQ d) := by
  rcases sixDirs h with rfl | rfl | rfl | rfl | rfl | rfl <;> rfl
theorem dirR {d : Int} (h : 0 ≤ d ∧ d < 6) : [0, (-1), (-1), 0, 1, 1][d.toNat]? = some (dR d) := by
  rcases sixDirs h with rfl | rfl | rfl | rfl | rfl | rfl <;> rfl
theorem dirB {d : Int} (h : 0 ≤ d ∧ d < 6) (n : Int) : (n * dQ d = n ∨ n * dQ d = 0 ∨ n * dQ d = -n) ∧ (n * dR d = n ∨ n * dR d = 0 ∨ n * dR d = -n) := by
  rcases sixDirs h with rfl | rfl | rfl | rfl | rfl | rfl <;> simp [dQ, dR] <;> omega
theorem dirBack {d : Int} (h : 0 ≤ d ∧ d < 6) : 0 ≤ Int.tmod (d + 3) 6 ∧ Int.tmod (d + 3) 6 < 6 ∧ dQ (Int.tmod (d + 3) 6) = - dQ d ∧ dR (Int.tmod (d + 3) 6) = - dR d := by
  rcases sixDirs h with rfl | rfl | rfl | rfl | rfl | rfl <;> decide

theorem stepBy_i {h : Gi_Hex} {d n : Int} (hd : 0 ≤ d ∧ d < 6) (hh : HexMid h) (hn : -10000 ≤ n ∧ n ≤ 10000) : Di_stepBy h d n = some (hexGo h d n) := by
  obtain ⟨b1, b2⟩ := dirB hd n
  unfold HexMid at hh
  unfold Di_stepBy hexGo
  rw [if_pos hd.1, dirGet hd, Option.bind_some, if_pos hd.1, Option.bind_some]
  rw [w64 (n := n * dQ d) (by omega), w64 (n := n * dR d) (by omega), w64 (by omega), w64 (by omega)]
theorem hStep_s {h : Gi_Hex} {d : Int} (hd : 0 ≤ d ∧ d < 6) (hh : HexMid h) : Ds_hStep h d = some (hexGo h d 1) := by
  obtain ⟨b1, b2⟩ := dirB hd 1
  unfold HexMid at hh
  unfold Ds_hStep hexGo
  rw [if_pos hd.1, dirQ hd, Option.bind_some, if_pos hd.1, dirR hd, Option.bind_some]
  simp only [Int.one_mul] at b1 b2 ⊢
  rw [w64 (by omega), w64 (by omega)]
theorem hexBack (A : Gi_Hex) {d : Int} (h : 0 ≤ d ∧ d < 6) : hexGo (hexGo A d 1) (Int.tmod (d + 3) 6) 1 = A := by
  obtain ⟨k1, k2, k3, k4⟩ := dirBack h
  cases A
  simp only [hexGo, k3, k4, Int.one_mul]
  congr 1 <;> omega

def MpDim (m : Gi_Map) (b : Int) : Prop := 1 ≤ m.Width ∧ m.Width ≤ b ∧ 1 ≤ m.Height ∧ m.Height ≤ b
def mpHex (m : Gi_Map) (i : Int) : Gi_Hex := ⟨i % m.Width, i / m.Width⟩
theorem mpDiv {i w : Int} (hi : 0 ≤ i) (hw : 1 ≤ w) : 0 ≤ i / w ∧ i / w ≤ i ∧ 0 ≤ i % w ∧ i % w < w := ⟨Int.ediv_nonneg hi (by omega), Int.ediv_le_self _ hi, Int.emod_nonneg _ (by omega), Int.emod_lt_of_pos _ (by omega)⟩
theorem hexOf_b {m : Gi_Map} {i : Int} (hw : 1 ≤ m.Width) (hi : 0 ≤ i ∧ i ≤ 10000) : Di_hexOf m i = some (mpHex m i) ∧ Ds_mHex m i = some (mpHex m i) := by
  obtain ⟨d1, d2, d3, d4⟩ := mpDiv hi.1 hw
  have h0 : ¬ m.Width = 0 := by omega
  unfold Di_hexOf Ds_mHex mpHex
  rw [if_pos h0, if_pos h0, Int.tmod_eq_emod_of_nonneg hi.1, Int.tdiv_eq_ediv_of_nonneg hi.1, w64 (by omega)]
  exact ⟨rfl, rfl⟩
theorem mpHex_mid {m : Gi_Map} {i : Int} (hw : 1 ≤ m.Width ∧ m.Width ≤ 100) (hi : 0 ≤ i ∧ i ≤ 10000) : HexMid (mpHex m i) := by
  obtain ⟨d1, d2, d3, d4⟩ := mpDiv hi.1 hw.1
  unfold HexMid mpHex
  simp only
  omega
def mpIdx (m : Gi_Map) (h : Gi_Hex) : Int := if 0 ≤ h.Q ∧ h.Q ≤ m.Width - 1 ∧ 0 ≤ h.R ∧ h.R ≤ m.Height - 1 then h.R * m.Width + h.Q else -1
theorem indexOf_b {m : Gi_Map} {h : Gi_Hex} (hd : MpDim m 100) : Di_indexOf m h = some (mpIdx m h) ∧ Ds_mIndex m h = some (mpIdx m h) := by
  unfold MpDim at hd
  unfold Di_indexOf Ds_mIndex Di_isIndex Di_inRange Ds_l1In mpIdx
  rw [w64 (n := m.Width - 1) (by omega), w64 (n := m.Height - 1) (by omega)]
  by_cases c1 : 0 ≤ h.Q
  · by_cases c2 : h.Q ≤ m.Width - 1
    · by_cases c3 : 0 ≤ h.R
      · by_cases c4 : h.R ≤ m.Height - 1
        · have hm := mulb (a := h.R) (b := m.Width) (A := 100) (B := 100) (by omega) (by omega)
          simp only [c1, c2, c3, c4, if_true, Option.bind_some, decide_true, ge_iff_le, and_self]
          rw [w64 (n := h.R * m.Width) (by omega), w64 (by omega)]
        · simp [c1, c2, c3, c4]
      · simp [c1, c2, c3]
    · simp [c1, c2]
  · simp [c1]
def mpNext (m : Gi_Map) (i d : Int) : Int := mpIdx m (hexGo (mpHex m i) d 1)
theorem next_b {m : Gi_Map} {i d : Int} (hd : MpDim m 100) (hi : 0 ≤ i ∧ i ≤ 10000) (h6 : 0 ≤ d ∧ d < 6) : Di_nextTo m i d = some (mpNext m i d) ∧ Ds_mNext m i d = some (mpNext m i d) := by
  have hd' := hd
  unfold MpDim at hd'
  have hm := mpHex_mid (m := m) (i := i) ⟨hd'.1, hd'.2.1⟩ hi
  obtain ⟨a1, a2⟩ := hexOf_b (m := m) hd'.1 hi
  obtain ⟨b1, b2⟩ := indexOf_b (h := hexGo (mpHex m i) d 1) hd
  unfold Di_nextTo Ds_mNext
  rw [a1, a2, Option.bind_some, Option.bind_some, stepBy_i h6 hm (by decide), hStep_s h6 hm, Option.bind_some, Option.bind_some, b1, b2]
  exact ⟨rfl, rfl⟩
theorem mpMul {w h r q : Int} (hq : 0 ≤ q ∧ q ≤ w - 1) (hr : 0 ≤ r ∧ r ≤ h - 1) : 0 ≤ r * w + q ∧ r * w + q < w * h := by
  have h1 : r * w ≤ (h - 1) * w := Int.mul_le_mul_of_nonneg_right hr.2 (by omega)
  have h2 : 0 ≤ r * w := Int.mul_nonneg hr.1 (by omega)
  rw [Int.sub_mul, Int.one_mul, Int.mul_comm h w] at h1
  omega
/-- The hex of an index that is found is the hex. -/
theorem mpIdx_hex {m : Gi_Map} {h : Gi_Hex} (hk : 0 ≤ mpIdx m h) : mpHex m (mpIdx m h) = h ∧ mpIdx m h < m.Width * m.Height := by
  unfold mpIdx at hk ⊢
  by_cases c : 0 ≤ h.Q ∧ h.Q ≤ m.Width - 1 ∧ 0 ≤ h.R ∧ h.R ≤ m.Height - 1
  · rw [if_pos c]
    have e := (Int.ediv_emod_unique (a := h.R * m.Width + h.Q) (b := m.Width) (r := h.Q) (q := h.R) (by omega)).2 ⟨by rw [Int.mul_comm]; omega, c.1, by omega⟩
    refine ⟨?_, (mpMul ⟨c.1, c.2.1⟩ c.2.2).2⟩
    unfold mpHex
    rw [e.1, e.2]
  · rw [if_neg c] at hk
    omega
theorem mpHex_idx {m : Gi_Map} {i : Int} (hd : MpDim m 100) (hi : 0 ≤ i ∧ i < m.Width * m.Height) : mpIdx m (mpHex m i) = i := by
  unfold MpDim at hd
  obtain ⟨d1, d2, d3, d4⟩ := mpDiv hi.1 hd.1
  have d5 : i / m.Width < m.Height := Int.ediv_lt_of_lt_mul (by omega) (by rw [Int.mul_comm]; exact hi.2)
  unfold mpIdx mpHex
  simp only
  rw [if_pos ⟨d3, by omega, d1, by omega⟩, Int.mul_comm]
  exact Int.mul_ediv_add_emod i m.Width
theorem mpSize {m : Gi_Map} {b : Int} (hd : MpDim m b) : 1 ≤ m.Width * m.Height ∧ m.Width * m.Height ≤ b * b := by
  unfold MpDim at hd
  constructor
  · have := Int.mul_le_mul hd.1 hd.2.2.1 (by decide) (by omega)
    omega
  · exact Int.mul_le_mul hd.2.1 hd.2.2.2 (by omega) (by omega)
theorem mSize_s {m : Gi_Map} {b : Int} (hd : MpDim m b) (hb : b * b ≤ 1000000) : Ds_mSize m = some (m.Width * m.Height) := by
  have := mpSize hd
  unfold Ds_mSize
  rw [w64 (by omega)]

def mpEdgeOk (m : Gi_Map) (e : Int) : Bool := decide (0 ≤ e) && decide (e ≤ 3 * (m.Width * m.Height) - 1) && decide (0 ≤ mpNext m (e / 3) (e % 3))
theorem mpEdge_iff {m : Gi_Map} {e : Int} : mpEdgeOk m e = true ↔ 0 ≤ e ∧ e ≤ 3 * (m.Width * m.Height) - 1 ∧ 0 ≤ mpNext m (e / 3) (e % 3) := by
  simp [mpEdgeOk, and_assoc]
theorem isEdge_i {m : Gi_Map} {e : Int} (hd : MpDim m 10) : Di_isEdge m e = some (mpEdgeOk m e) := by
  have hs := mpSize hd
  have hd1 : MpDim m 100 := by unfold MpDim at hd ⊢; omega
  have hd' := hd
  unfold MpDim at hd'
  unfold Di_isEdge Di_inRange mpEdgeOk
  have e1 : 3 * m.Width * m.Height = 3 * (m.Width * m.Height) := Int.mul_assoc _ _ _
  rw [w64 (n := 3 * m.Width) (by omega), e1, w64 (n := 3 * (m.Width * m.Height)) (by omega), w64 (n := 3 * (m.Width * m.Height) - 1) (by omega)]
  by_cases c1 : 0 ≤ e
  · by_cases c2 : e ≤ 3 * (m.Width * m.Height) - 1
    · have h3 : 0 ≤ e / 3 ∧ e / 3 ≤ 10000 := by omega
      simp only [c1, c2, if_true, Option.bind_some, decide_true, Bool.true_and]
      rw [Int.tdiv_eq_ediv_of_nonneg c1, Int.tmod_eq_emod_of_nonneg c1, w64 (by omega), (next_b hd1 h3 (by omega)).1]
      rfl
    · simp [c1, c2]
  · simp [c1]
def rsB (l : List Int) : Nat → Nat → Bool
  | 0, _ => true
  | n + 1, i => (match l[i - 1]?, l[i]? with
    | some x, some y => decide (x < y)
    | _, _ => true) && rsB l n (i + 1)
def rising (l : List Int) : Bool := rsB l (l.length - 1) 1
theorem incr_i {l : List Int} (hl : l.length ≤ 1000000) : ∀ (n i : Nat), 1 ≤ i → (i + n = l.length ∨ n = 0 ∧ l.length ≤ i ∧ i ≤ 1) → loop Bi_increasing (.h1 l (i : Int)) = some (rsB l n i)
  | 0, i, h1, h => by
    rw [loop_eq]
    simp only [Bi_increasing]
    rw [if_neg (by omega)]
    rfl
  | n + 1, i, h1, h => by
    have hx : l[i - 1]? = some l[i - 1] := List.getElem?_eq_getElem (by omega)
    have hy : l[i]? = some l[i] := List.getElem?_eq_getElem (by omega)
    have ih := incr_i hl n (i + 1) (by omega) (by omega)
    have e : IntKind.wrap .i64 ((i : Int) - 1) = ((i - 1 : Nat) : Int) := by rw [w64 (by omega)]; omega
    rw [loop_eq]
    simp only [Bi_increasing, rsB, e, Int.toNat_natCast, hx, hy, Option.bind_some]
    rw [if_pos (by omega), if_pos (by omega), if_pos (by omega), wsucc (by omega)]
    by_cases c : l[i - 1] < l[i]
    · rw [if_neg (by omega), decide_eq_true c, Bool.true_and]
      exact ih
    · rw [if_pos (by omega), decide_eq_false c, Bool.false_and]
      rfl
theorem increasing_i {l : List Int} (hl : l.length ≤ 1000000) : Di_increasing l = some (rising l) := incr_i hl (l.length - 1) 1 (Nat.le_refl _) (by omega)
theorem in_b {x lo hi : Int} : Ds_l1In x lo hi = some (decide (lo ≤ x) && decide (x ≤ hi)) := by
  unfold Ds_l1In
  by_cases c : lo ≤ x <;> simp [c]
theorem rise_s {l : List Int} {hi : Int} (hl : l.length ≤ 1000000) (ha : ∀ x ∈ l, 0 ≤ x ∧ x ≤ hi) : ∀ (n i : Nat), 1 ≤ i → (i + n = l.length) → loop Bs_l1Rising (.h1 l 0 hi l (l.length : Int) (i : Int)) = some (rsB l n i)
  | 0, i, h1, h => by
    rw [loop_eq]
    simp only [Bs_l1Rising]
    rw [if_neg (by omega)]
    rfl
  | n + 1, i, h1, h => by
    have hx : l[i - 1]? = some l[i - 1] := List.getElem?_eq_getElem (by omega)
    have hy : l[i]? = some l[i] := List.getElem?_eq_getElem (by omega)
    have ih := rise_s hl ha n (i + 1) (by omega) (by omega)
    obtain ⟨a1, a2⟩ := ha l[i] (List.getElem_mem (by omega))
    have e : IntKind.wrap .i64 ((i : Int) - 1) = ((i - 1 : Nat) : Int) := by rw [w64 (by omega)]; omega
    rw [loop_eq]
    simp only [Bs_l1Rising, rsB, e, Int.toNat_natCast, hx, hy, Option.bind_some, in_b, a1, a2, decide_true, Bool.and_self, if_true]
    rw [if_pos (by omega), if_pos (by omega), if_pos (by omega), if_pos (by omega), wsucc (by omega)]
    by_cases c : l[i - 1] < l[i]
    · rw [if_neg (by omega), decide_eq_true c, Bool.true_and]
      exact ih
    · rw [if_pos (by omega), decide_eq_false c, Bool.false_and]
      rfl
theorem rising_s {l : List Int} {hi : Int} (hl : l.length ≤ 1000000) (ha : ∀ x ∈ l, 0 ≤ x ∧ x ≤ hi) : Ds_l1Rising l 0 hi = some (rising l) := by
  unfold Ds_l1Rising rising
  by_cases z : l.length = 0
  · have : l = [] := List.length_eq_zero_iff.1 z
    subst this
    rw [loop_eq]
    rfl
  · have hy : l[0]? = some l[0] := List.getElem?_eq_getElem (by omega)
    obtain ⟨a1, a2⟩ := ha l[0] (List.getElem_mem (by omega))
    have := rise_s hl ha (l.length - 1) 1 (Nat.le_refl _) (by omega)
    rw [loop_eq]
    have e0 : l[Int.toNat 0]? = some l[0] := hy
    simp only [Bs_l1Rising, e0, Option.bind_some, in_b, a1, a2, decide_true, Bool.and_self, if_true]
    rw [if_pos (by omega), if_pos (by decide), if_neg (by decide)]
    exact this
def mpList (m : Gi_Map) (l : List Int) : Bool := l.all (mpEdgeOk m) && rising l
theorem edgesGo_s {m : Gi_Map} (hd : MpDim m 10) {l : List Int} (hl : l.length ≤ 1000000) : ∀ (n i : Nat), i + n = l.length → (∀ x ∈ l.take i, mpEdgeOk m x = true) → loop Bs_mEdges (.h1 l l (l.length : Int) (i : Int) m) = some ((l.drop i).all (mpEdgeOk m) && rising l)
  | 0, i, h, hb => by
    have hs := mpSize hd
    rw [List.take_of_length_le (by omega)] at hb
    rw [loop_eq, List.drop_of_length_le (by omega)]
    simp only [Bs_mEdges]
    rw [if_neg (by omega), mSize_s hd (by decide), Option.bind_some, w64 (n := 3 * (m.Width * m.Height)) (by omega), w64 (by omega), rising_s hl (fun x hx => by
      have := mpEdge_iff.1 (hb x hx)
      omega)]
    rfl
  | n + 1, i, h, hb => by
    have hs := mpSize hd
    have hd1 : MpDim m 100 := by unfold MpDim at hd ⊢; omega
    have hx : l[i]? = some l[i] := List.getElem?_eq_getElem (by omega)
    rw [loop_eq, List.drop_eq_getElem_cons (by omega), List.all_cons]
    simp only [Bs_mEdges]
    rw [if_pos (by omega), if_pos (by omega), Int.toNat_natCast, hx, Option.bind_some, mSize_s hd (by decide), Option.bind_some, w64 (n := 3 * (m.Width * m.Height)) (by omega), w64 (n := 3 * (m.Width * m.Height) - 1) (by omega), in_b, Option.bind_some, wsucc (by omega)]
    by_cases c : 0 ≤ l[i] ∧ l[i] ≤ 3 * (m.Width * m.Height) - 1
    · rw [if_pos (by simp [c.1, c.2])]
      have h3 : 0 ≤ l[i] / 3 ∧ l[i] / 3 ≤ 10000 := by omega
      rw [Int.tdiv_eq_ediv_of_nonneg c.1, Int.tmod_eq_emod_of_nonneg c.1, w64 (by omega), (next_b hd1 h3 (by omega)).2, Option.bind_some]
      by_cases c3 : 0 ≤ mpNext m (l[i] / 3) (l[i] % 3)
      · have hok : mpEdgeOk m l[i] = true := mpEdge_iff.2 ⟨c.1, c.2, c3⟩
        rw [if_neg (by omega), hok, Bool.true_and]
        refine edgesGo_s hd hl n (i + 1) (by omega) fun x hx' => ?_
        rw [List.take_add_one, hx] at hx'
        rcases List.mem_append.1 hx' with hx' | hx'
        · exact hb x hx'
        · simp at hx'; subst hx'; exact hok
      · have hok : mpEdgeOk m l[i] = false := by
          cases hh : mpEdgeOk m l[i] with
          | false => rfl
          | true => exact absurd (mpEdge_iff.1 hh).2.2 c3
        rw [if_pos (by omega), hok, Bool.false_and, Bool.false_and]
        rfl
    · have hok : mpEdgeOk m l[i] = false := by
        cases hh : mpEdgeOk m l[i] with
        | false => rfl
        | true => exact absurd ⟨(mpEdge_iff.1 hh).1, (mpEdge_iff.1 hh).2.1⟩ c
      rw [if_neg (by simp only [Bool.and_eq_true, decide_eq_true_eq]; exact c), hok, Bool.false_and, Bool.false_and]
      rfl
theorem edges_s {m : Gi_Map} (hd : MpDim m 10) {l : List Int} (hl : l.length ≤ 1000000) : Ds_mEdges m l = some (mpList m l) := by
  have := edgesGo_s hd hl l.length 0 (by omega) (fun x hx => by simp at hx)
  rw [List.drop_zero] at this
  exact this
def terrOk (x : Int) : Bool := decide (0 ≤ x) && decide (x ≤ 5)
theorem terr_s {l : List Int} (hl : l.length ≤ 1000000) : ∀ (n i : Nat), i + n = l.length → loop Bs_l1All (.h1 0 5 l (l.length : Int) (i : Int)) = some ((l.drop i).all terrOk)
  | 0, i, h => by
    rw [loop_eq, List.drop_of_length_le (by omega)]
    simp only [Bs_l1All]
    rw [if_neg (by omega)]
    rfl
  | n + 1, i, h => by
    have hx : l[i]? = some l[i] := List.getElem?_eq_getElem (by omega)
    have ih := terr_s hl n (i + 1) (by omega)
    rw [loop_eq, List.drop_eq_getElem_cons (by omega), List.all_cons]
    simp only [Bs_l1All]
    rw [if_pos (by omega), if_pos (by omega), Int.toNat_natCast, hx, Option.bind_some, in_b, Option.bind_some, wsucc (by omega)]
    by_cases c : terrOk l[i] = true
    · have c' := c
      unfold terrOk at c'
      rw [if_pos c', c, Bool.true_and]
      exact ih
    · have c' := c
      unfold terrOk at c'
      rw [if_neg c']
      simp only [Bool.not_eq_true] at c
      rw [c, Bool.false_and]
      rfl
theorem edgeLoop_i {m : Gi_Map} (hd : MpDim m 10) {l : List Int} (hl : l.length ≤ 1000000) {t0 t1 : Int} {L : List (List Int)} : ∀ (n i : Nat), i + n = l.length →
    loop Bi_IsMap (.h3 t0 t1 l (l.length : Int) (i : Int) m L) = if (l.drop i).all (mpEdgeOk m) = true then loop Bi_IsMap (.h2 t0 (IntKind.wrap .i64 (t1 + 1)) m L) else some false
  | 0, i, h => by
    rw [loop_eq, List.drop_of_length_le (by omega)]
    simp only [Bi_IsMap]
    rw [if_neg (by omega), if_pos (by rfl)]
    rfl
  | n + 1, i, h => by
    have hx : l[i]? = some l[i] := List.getElem?_eq_getElem (by omega)
    have ih := edgeLoop_i hd hl (t0 := t0) (t1 := t1) (L := L) n (i + 1) (by omega)
    rw [loop_eq, List.drop_eq_getElem_cons (by omega), List.all_cons]
    simp only [Bi_IsMap]
    rw [if_pos (by omega), if_pos (by omega), Int.toNat_natCast, hx, Option.bind_some, isEdge_i hd, Option.bind_some, wsucc (by omega)]
    by_cases c : mpEdgeOk m l[i] = true
    · rw [if_pos c, c, Bool.true_and]
      exact ih
    · rw [if_neg c]
      simp only [Bool.not_eq_true] at c
      rw [c, Bool.false_and, if_neg (by decide)]
      rfl
theorem lists_i {m : Gi_Map} (hd : MpDim m 10) (hr : m.Rivers.length ≤ 1000000) (ho : m.Roads.length ≤ 1000000) : loop Bi_IsMap (.h2 2 0 m [m.Rivers, m.Roads]) = some (mpList m m.Rivers && mpList m m.Roads) := by
  have i1 := edgeLoop_i hd hr (t0 := 2) (t1 := 0) (L := [m.Rivers, m.Roads]) m.Rivers.length 0 (by omega)
  have i2 := edgeLoop_i hd ho (t0 := 2) (t1 := 1) (L := [m.Rivers, m.Roads]) m.Roads.length 0 (by omega)
  rw [List.drop_zero, show IntKind.wrap .i64 (0 + 1) = 1 from by decide] at i1
  rw [List.drop_zero, show IntKind.wrap .i64 (1 + 1) = 2 from by decide] at i2
  have e3 : loop Bi_IsMap (.h2 2 2 m [m.Rivers, m.Roads]) = some true := by rw [loop_eq]; rfl
  have e2 : loop Bi_IsMap (.h2 2 1 m [m.Rivers, m.Roads]) = some (mpList m m.Roads) := by
    rw [loop_eq]
    simp only [Bi_IsMap]
    rw [if_pos (by decide), if_pos (by decide), show [m.Rivers, m.Roads][Int.toNat 1]? = some m.Roads from rfl, Option.bind_some, increasing_i ho, Option.bind_some]
    unfold mpList
    by_cases c : rising m.Roads = true
    · rw [if_pos c, c, Bool.and_true]
      refine (show _ = _ from i2).trans ?_
      rw [e3]
      by_cases c2 : m.Roads.all (mpEdgeOk m) = true
      · rw [if_pos c2, c2]
      · rw [if_neg c2]
        simp only [Bool.not_eq_true] at c2
        rw [c2]
    · rw [if_neg c]
      simp only [Bool.not_eq_true] at c
      rw [c, Bool.and_false]
      rfl
  rw [loop_eq]
  simp only [Bi_IsMap]
  rw [if_pos (by decide), if_pos (by decide), show [m.Rivers, m.Roads][Int.toNat 0]? = some m.Rivers from rfl, Option.bind_some, increasing_i hr, Option.bind_some]
  by_cases c : rising m.Rivers = true
  · rw [if_pos c]
    refine (show _ = _ from i1).trans ?_
    rw [e2]
    unfold mpList
    rw [c, Bool.and_true]
    by_cases c2 : m.Rivers.all (mpEdgeOk m) = true
    · rw [if_pos c2, c2, Bool.true_and]
    · rw [if_neg c2]
      simp only [Bool.not_eq_true] at c2
      rw [c2, Bool.false_and]
  · rw [if_neg c]
    simp only [Bool.not_eq_true] at c
    unfold mpList
    rw [c, Bool.and_false, Bool.false_and]
    rfl
theorem terr_i {m : Gi_Map} {l : List Int} (hl : l.length ≤ 1000000) : ∀ (n i : Nat), i + n = l.length → loop Bi_IsMap (.h1 l (l.length : Int) (i : Int) m) = if (l.drop i).all terrOk = true then loop Bi_IsMap (.h2 2 0 m [m.Rivers, m.Roads]) else some false
  | 0, i, h => by
    rw [loop_eq, List.drop_of_length_le (by omega)]
    simp only [Bi_IsMap]
    rw [if_neg (by omega), if_pos (by rfl)]
    rfl
  | n + 1, i, h => by
    have hx : l[i]? = some l[i] := List.getElem?_eq_getElem (by omega)
    have ih := terr_i hl (m := m) n (i + 1) (by omega)
    have e : Di_isIndex l[i] 6 = some (terrOk l[i]) := by
      unfold Di_isIndex Di_inRange terrOk
      rw [show IntKind.wrap .i64 (6 - 1) = 5 from by decide]
      by_cases c : 0 ≤ l[i] <;> simp [c]
    rw [loop_eq, List.drop_eq_getElem_cons (by omega), List.all_cons]
    simp only [Bi_IsMap]
    rw [if_pos (by omega), if_pos (by omega), Int.toNat_natCast, hx, Option.bind_some, e, Option.bind_some, wsucc (by omega)]
    by_cases c : terrOk l[i] = true
    · rw [if_pos c, c, Bool.true_and]
      exact ih
    · rw [if_neg c]
      simp only [Bool.not_eq_true] at c
      rw [c, Bool.false_and, if_neg (by decide)]
      rfl
def MpLen (m : Gi_Map) : Prop := m.Terrain.length ≤ 1000000 ∧ m.Rivers.length ≤ 1000000 ∧ m.Roads.length ≤ 1000000
def mpGood (m : Gi_Map) : Bool := decide (1 ≤ m.Width) && decide (m.Width ≤ 10) && decide (1 ≤ m.Height) && decide (m.Height ≤ 10) && decide ((m.Terrain.length : Int) = m.Width * m.Height) && m.Terrain.all terrOk && mpList m m.Rivers && mpList m m.Roads
theorem mpGood_dim {m : Gi_Map} (h : mpGood m = true) : MpDim m 10 ∧ (m.Terrain.length : Int) = m.Width * m.Height ∧ mpList m m.Rivers = true ∧ mpList m m.Roads = true := by
  simp only [mpGood, Bool.and_eq_true, decide_eq_true_eq] at h
  exact ⟨⟨h.1.1.1.1.1.1.1, h.1.1.1.1.1.1.2, h.1.1.1.1.1.2, h.1.1.1.1.2⟩, h.1.1.1.2, h.1.2, h.2⟩
theorem isMap_i {m : Gi_Map} (hl : MpLen m) : Di_IsMap m = some (mpGood m) := by
  unfold Di_IsMap Di_inRange mpGood
  by_cases c1 : 1 ≤ m.Width
  · by_cases c2 : m.Width ≤ 10
    · by_cases c3 : 1 ≤ m.Height
      · by_cases c4 : m.Height ≤ 10
        · have hd : MpDim m 10 := ⟨c1, c2, c3, c4⟩
          have hs := mpSize hd
          have t := terr_i hl.1 (m := m) m.Terrain.length 0 (by omega)
          rw [List.drop_zero, lists_i hd hl.2.1 hl.2.2] at t
          simp only [c1, c2, c3, c4, if_true, Option.bind_some, decide_true, Bool.true_and]
          rw [w64 (by omega)]
          by_cases c5 : (m.Terrain.length : Int) = m.Width * m.Height
          · rw [if_pos c5]
            refine (show _ = _ from t).trans ?_
            simp only [c5, decide_true, Bool.true_and]
            by_cases c6 : m.Terrain.all terrOk = true
            · rw [if_pos c6, c6, Bool.true_and]
            · rw [if_neg c6]
              simp only [Bool.not_eq_true] at c6
              rw [c6]
              rfl
          · rw [if_neg c5]
            simp [c5]
        · simp [c1, c2, c3, c4]
      · simp [c1, c2, c3]
    · simp [c1, c2]
  · simp [c1]
theorem good_m {m : Gi_Map} (hl : MpLen m) : Ds_mGood m = some (mpGood m) := by
  unfold Ds_mGood mpGood
  rw [in_b, in_b]
  by_cases c1 : 1 ≤ m.Width
  · by_cases c2 : m.Width ≤ 10
    · by_cases c3 : 1 ≤ m.Height
      · by_cases c4 : m.Height ≤ 10
        · have hd : MpDim m 10 := ⟨c1, c2, c3, c4⟩
          have t := terr_s hl.1 m.Terrain.length 0 (by omega)
          rw [List.drop_zero] at t
          have t' : Ds_l1All m.Terrain 0 5 = some (m.Terrain.all terrOk) := t
          simp only [c1, c2, c3, c4, if_true, Option.bind_some, decide_true, Bool.true_and, mSize_s hd (by decide), edges_s hd hl.2.1, edges_s hd hl.2.2, t']
          by_cases c5 : (m.Terrain.length : Int) = m.Width * m.Height
          · simp only [c5, decide_true, Bool.true_and, if_true]
            by_cases c6 : m.Terrain.all terrOk = true
            · rw [if_pos c6, c6, Bool.true_and]
              by_cases c7 : mpList m m.Rivers = true
              · rw [if_pos c7, c7, Bool.true_and]
              · rw [if_neg c7]
                simp only [Bool.not_eq_true] at c7
                rw [c7, Bool.false_and]
            · rw [if_neg c6]
              simp only [Bool.not_eq_true] at c6
              rw [c6]
              rfl
          · simp [c5]
        · simp [c1, c2, c3, c4]
      · simp [c1, c2, c3]
    · simp [c1, c2]
  · simp [c1]


def mpOn (m : Gi_Map) (i : Int) : Bool := mpGood m && (decide (0 ≤ i) && decide (i ≤ m.Width * m.Height - 1))
theorem mpOn_iff {m : Gi_Map} {i : Int} : mpOn m i = true ↔ mpGood m = true ∧ 0 ≤ i ∧ i < m.Width * m.Height := by
  simp only [mpOn, Bool.and_eq_true, decide_eq_true_eq]
  exact ⟨fun h => ⟨h.1, h.2.1, by omega⟩, fun h => ⟨h.1, h.2.1, by omega⟩⟩
theorem isPlace_i {m : Gi_Map} (hl : MpLen m) (i : Int) : Di_isPlace m i = some (mpOn m i) := by
  unfold Di_isPlace mpOn
  rw [isMap_i hl, Option.bind_some]
  by_cases c : mpGood m = true
  · have hs := mpSize (mpGood_dim c).1
    rw [if_pos c, c, Bool.true_and]
    unfold Di_isIndex Di_inRange
    rw [w64 (n := m.Width * m.Height) (by omega), w64 (by omega)]
    by_cases d : 0 ≤ i <;> simp [d]
  · rw [if_neg c]
    simp only [Bool.not_eq_true] at c
    rw [c, Bool.false_and]
theorem on_s {m : Gi_Map} (hl : MpLen m) (i : Int) : Ds_mOn m i = some (mpOn m i) := by
  unfold Ds_mOn mpOn
  rw [good_m hl, Option.bind_some]
  by_cases c : mpGood m = true
  · have hs := mpSize (mpGood_dim c).1
    rw [if_pos c, c, Bool.true_and, mSize_s (mpGood_dim c).1 (by decide), Option.bind_some, w64 (by omega), in_b]
    rfl
  · rw [if_neg c]
    simp only [Bool.not_eq_true] at c
    rw [c, Bool.false_and]
theorem mpOn_dim {m : Gi_Map} {i : Int} (h : mpOn m i = true) : MpDim m 10 ∧ MpDim m 100 ∧ 0 ≤ i ∧ i ≤ 10000 ∧ i < m.Width * m.Height := by
  obtain ⟨h1, h2, h3⟩ := mpOn_iff.1 h
  have hd := (mpGood_dim h1).1
  have hs := mpSize hd
  refine ⟨hd, ?_, h2, by omega, h3⟩
  unfold MpDim at hd ⊢
  omega
def hexAtR (m : Gi_Map) (i : Int) : Gi_Hex × Bool := if mpOn m i = true then (mpHex m i, true) else (⟨0, 0⟩, false)
theorem hexAt_b {m : Gi_Map} (hl : MpLen m) (i : Int) : Di_HexAt m i = some (hexAtR m i) ∧ Ds_HexAt m i = some (hexAtR m i) := by
  unfold Di_HexAt Ds_HexAt hexAtR
  rw [isPlace_i hl, on_s hl, Option.bind_some, Option.bind_some]
  by_cases c : mpOn m i = true
  · obtain ⟨d1, d2, d3, d4, d5⟩ := mpOn_dim c
    obtain ⟨e1, e2⟩ := hexOf_b (m := m) (i := i) d1.1 ⟨d3, d4⟩
    rw [if_pos c, if_pos c, if_pos c, e1, e2]
    exact ⟨rfl, rfl⟩
  · rw [if_neg c, if_neg c, if_neg c]
    exact ⟨rfl, rfl⟩
theorem indexOf_at {m : Gi_Map} (hl : MpLen m) {i : Int} (h : mpOn m i = true) : Di_IndexOf m (mpHex m i) = some (i, true) := by
  obtain ⟨d1, d2, d3, d4, d5⟩ := mpOn_dim h
  unfold Di_IndexOf
  rw [isMap_i hl, Option.bind_some, if_pos (mpOn_iff.1 h).1, (indexOf_b d2).1, Option.bind_some, mpHex_idx d2 ⟨d3, d5⟩, if_neg (by omega), Option.bind_some]

def mpPair (m : Gi_Map) (i d : Int) : Bool := mpOn m i && (decide (0 ≤ d) && decide (d ≤ 5)) && decide (0 ≤ mpNext m i d)
theorem mpPair_iff {m : Gi_Map} {i d : Int} : mpPair m i d = true ↔ mpOn m i = true ∧ (0 ≤ d ∧ d < 6) ∧ 0 ≤ mpNext m i d := by
  simp only [mpPair, Bool.and_eq_true, decide_eq_true_eq]
  constructor
  · rintro ⟨⟨h1, h2⟩, h3⟩; exact ⟨h1, ⟨h2.1, by omega⟩, h3⟩
  · rintro ⟨h1, h2, h3⟩; exact ⟨⟨h1, h2.1, by omega⟩, h3⟩
theorem pair_s {m : Gi_Map} (hl : MpLen m) (i d : Int) : Ds_mPair m i d = some (mpPair m i d) := by
  unfold Ds_mPair mpPair
  rw [on_s hl, Option.bind_some]
  by_cases c : mpOn m i = true
  · obtain ⟨d1, d2, d3, d4, d5⟩ := mpOn_dim c
    rw [if_pos c, c, Bool.true_and, in_b, Option.bind_some]
    by_cases e : 0 ≤ d ∧ d < 6
    · have e' : d ≤ 5 := by omega
      simp only [e.1, e', decide_true, Bool.and_self, if_true, Bool.true_and]
      rw [(next_b d2 ⟨d3, d4⟩ e).2]
      rfl
    · have e' : (decide (0 ≤ d) && decide (d ≤ 5)) = false := by
        cases hh : (decide (0 ≤ d) && decide (d ≤ 5)) with
        | false => rfl
        | true =>
          simp only [Bool.and_eq_true, decide_eq_true_eq] at hh
          omega
      rw [e', if_neg (by decide), Bool.false_and]
  · rw [if_neg c]
    simp only [Bool.not_eq_true] at c
    rw [c, Bool.false_and, Bool.false_and]
theorem mpNext_lt {m : Gi_Map} {i d : Int} (h : 0 ≤ mpNext m i d) : mpNext m i d < m.Width * m.Height ∧ mpHex m (mpNext m i d) = hexGo (mpHex m i) d 1 := by
  obtain ⟨h1, h2⟩ := mpIdx_hex (m := m) (h := hexGo (mpHex m i) d 1) h
  exact ⟨h2, h1⟩
def mpEdge (m : Gi_Map) (i d : Int) : Int := if d < 3 then 3 * i + d else 3 * mpNext m i d + d - 3
theorem edge_b {m : Gi_Map} {i d : Int} (h : mpPair m i d = true) : Di_edgeOf m i d = some (mpEdge m i d) ∧ Ds_mEdge m i d = some (mpEdge m i d) := by
  obtain ⟨h1, h2, h3⟩ := mpPair_iff.1 h
  obtain ⟨d1, d2, d3, d4, d5⟩ := mpOn_dim h1
  have hs := mpSize d1
  have hn := mpNext_lt h3
  obtain ⟨n1, n2⟩ := next_b (m := m) (i := i) (d := d) d2 ⟨d3, d4⟩ h2
  unfold Di_edgeOf Ds_mEdge mpEdge
  rw [n1, n2, Option.bind_some, if_neg (by omega)]
  by_cases c : d < 3
  · rw [if_pos c, if_pos c, if_pos c, w64 (n := 3 * i) (by omega), w64 (by omega)]
    exact ⟨rfl, rfl⟩
  · rw [if_neg c, if_neg c, if_neg c, Option.bind_some, w64 (n := 3 * mpNext m i d) (by omega), w64 (n := 3 * mpNext m i d + d) (by omega), w64 (by omega)]
    exact ⟨rfl, rfl⟩
theorem EdgeOf_i {m : Gi_Map} (hl : MpLen m) (i d : Int) : Di_EdgeOf m i d = some (if mpPair m i d = true then (mpEdge m i d, true) else (0, false)) := by
  unfold Di_EdgeOf
  rw [isPlace_i hl, Option.bind_some]
  by_cases c : mpOn m i = true
  · obtain ⟨d1, d2, d3, d4, d5⟩ := mpOn_dim c
    rw [if_pos c]
    unfold Di_isDirection Di_inRange
    by_cases e : 0 ≤ d ∧ d < 6
    · have e' : d ≤ 5 := by omega
      simp only [e.1, e', decide_true, if_true, Option.bind_some]
      rw [(next_b d2 ⟨d3, d4⟩ e).1, Option.bind_some]
      by_cases f : 0 ≤ mpNext m i d
      · have hp : mpPair m i d = true := mpPair_iff.2 ⟨c, e, f⟩
        rw [if_neg (by omega), if_pos hp, (edge_b hp).1]
        rfl
      · rw [if_pos (by omega), if_neg (fun hp => f (mpPair_iff.1 hp).2.2)]
    · rw [if_neg (c := mpPair m i d = true) (fun hp => e (mpPair_iff.1 hp).2.1)]
      by_cases e1 : 0 ≤ d
      · have e2 : ¬ d ≤ 5 := by omega
        simp [e1, e2]
      · simp [e1]
  · rw [if_neg c, if_neg (fun hp => c (mpPair_iff.1 hp).1)]
def hasB (l : List Int) (e : Int) : Bool := l.any fun x => decide (x = e)
theorem has_i {l : List Int} {e : Int} (hl : l.length ≤ 1000000) : ∀ (n i : Nat), i + n = l.length → ∃ r, loop Bslices_Index_int (.h1 l e (l.length : Int) (i : Int)) = some r ∧ decide (r ≥ 0) = hasB (l.drop i) e
  | 0, i, h => by
    rw [loop_eq, List.drop_of_length_le (by omega)]
    simp only [Bslices_Index_int]
    rw [if_neg (by omega)]
    exact ⟨-1, rfl, rfl⟩
  | n + 1, i, h => by
    have hx : l[i]? = some l[i] := List.getElem?_eq_getElem (by omega)
    obtain ⟨r, e1, e2⟩ := has_i hl (e := e) n (i + 1) (by omega)
    rw [loop_eq, List.drop_eq_getElem_cons (by omega)]
    simp only [Bslices_Index_int, hasB, List.any_cons]
    rw [if_pos (by omega), if_pos (by omega), Int.toNat_natCast, hx, Option.bind_some, wsucc (by omega)]
    by_cases c : e = l[i]
    · rw [if_pos c, decide_eq_true c.symm, Bool.true_or]
      exact ⟨_, rfl, by simp⟩
    · rw [if_neg c, decide_eq_false (fun h => c h.symm), Bool.false_or]
      exact ⟨r, e1, e2⟩
theorem contains_i {l : List Int} {e : Int} (hl : l.length ≤ 1000000) : Dslices_Contains_int l e = some (hasB l e) := by
  obtain ⟨r, e1, e2⟩ := has_i hl (e := e) l.length 0 (by omega)
  unfold Dslices_Contains_int
  rw [show Dslices_Index_int l e = some r from e1, Option.bind_some, e2, List.drop_zero]
theorem has_s' {l : List Int} {e : Int} (hl : l.length ≤ 1000000) : ∀ (n i : Nat), i + n = l.length → loop Bs_l1Has (.h1 e l (l.length : Int) (i : Int)) = some (hasB (l.drop i) e)
  | 0, i, h => by
    rw [loop_eq, List.drop_of_length_le (by omega)]
    simp only [Bs_l1Has]
    rw [if_neg (by omega)]
    rfl
  | n + 1, i, h => by
    have hx : l[i]? = some l[i] := List.getElem?_eq_getElem (by omega)
    have ih := has_s' hl (e := e) n (i + 1) (by omega)
    rw [loop_eq, List.drop_eq_getElem_cons (by omega)]
    simp only [Bs_l1Has, hasB, List.any_cons]
    rw [if_pos (by omega), if_pos (by omega), Int.toNat_natCast, hx, Option.bind_some, wsucc (by omega)]
    by_cases c : l[i] = e
    · rw [if_pos c, decide_eq_true c, Bool.true_or]
      rfl
    · rw [if_neg c, decide_eq_false c, Bool.false_or]
      exact ih
theorem has_s {l : List Int} {e : Int} (hl : l.length ≤ 1000000) : Ds_l1Has l e = some (hasB l e) := by
  have := has_s' hl (e := e) l.length 0 (by omega)
  rw [List.drop_zero] at this
  exact this
def roadR (m : Gi_Map) (l : List Int) (i d : Int) : Bool × Bool := if mpPair m i d = true then (hasB l (mpEdge m i d), true) else (false, false)
theorem river_b {m : Gi_Map} (hl : MpLen m) (i d : Int) : Di_HasRiver m i d = some (roadR m m.Rivers i d) ∧ Ds_HasRiver m i d = some (roadR m m.Rivers i d) := by
  unfold Di_HasRiver Ds_HasRiver Ds_mRiver roadR
  rw [EdgeOf_i hl, pair_s hl, Option.bind_some, Option.bind_some]
  by_cases c : mpPair m i d = true
  · rw [if_pos c, if_pos c, if_pos c, (edge_b c).2, contains_i hl.2.1]
    simp only [Option.bind_some, has_s hl.2.1]
    simp
  · rw [if_neg c, if_neg c, if_neg c]
    exact ⟨rfl, rfl⟩
theorem road_b {m : Gi_Map} (hl : MpLen m) (i d : Int) : Di_HasRoad m i d = some (roadR m m.Roads i d) ∧ Ds_HasRoad m i d = some (roadR m m.Roads i d) := by
  unfold Di_HasRoad Ds_HasRoad Ds_mRoad roadR
  rw [EdgeOf_i hl, pair_s hl, Option.bind_some, Option.bind_some]
  by_cases c : mpPair m i d = true
  · rw [if_pos c, if_pos c, if_pos c, (edge_b c).2, contains_i hl.2.2]
    simp only [Option.bind_some, has_s hl.2.2]
    simp
  · rw [if_neg c, if_neg c, if_neg c]
    exact ⟨rfl, rfl⟩
theorem nextTo_i {m : Gi_Map} (hl : MpLen m) {i d : Int} (h : mpPair m i d = true) : Di_NextTo m i d = some (mpNext m i d, true) := by
  obtain ⟨h1, h2, h3⟩ := mpPair_iff.1 h
  obtain ⟨d1, d2, d3, d4, d5⟩ := mpOn_dim h1
  have e' : d ≤ 5 := by omega
  unfold Di_NextTo Di_isDirection Di_inRange
  rw [isPlace_i hl, Option.bind_some, if_pos h1]
  simp only [h2.1, e', decide_true, if_true, Option.bind_some]
  rw [(next_b d2 ⟨d3, d4⟩ h2).1, Option.bind_some, if_neg (by omega), Option.bind_some]
/-- The same edge, from its other end. -/
theorem road_back {m : Gi_Map} {l : List Int} {i d : Int} (h : mpPair m i d = true) : roadR m l (mpNext m i d) (Int.tmod (d + 3) 6) = roadR m l i d := by
  obtain ⟨h1, h2, h3⟩ := mpPair_iff.1 h
  obtain ⟨d1, d2, d3, d4, d5⟩ := mpOn_dim h1
  obtain ⟨n1, n2⟩ := mpNext_lt h3
  obtain ⟨k1, k2, _, _⟩ := dirBack h2
  have hb : mpNext m (mpNext m i d) (Int.tmod (d + 3) 6) = i := by
    show mpIdx m (hexGo (mpHex m (mpNext m i d)) (Int.tmod (d + 3) 6) 1) = i
    rw [n2, hexBack _ h2]
    exact mpHex_idx d2 ⟨d3, d5⟩
  have hp : mpPair m (mpNext m i d) (Int.tmod (d + 3) 6) = true := mpPair_iff.2 ⟨mpOn_iff.2 ⟨(mpOn_iff.1 h1).1, h3, n1⟩, ⟨k1, k2⟩, by rw [hb]; exact d3⟩
  have he : mpEdge m (mpNext m i d) (Int.tmod (d + 3) 6) = mpEdge m i d := by
    unfold mpEdge
    rw [hb]
    rcases sixDirs h2 with rfl | rfl | rfl | rfl | rfl | rfl <;> simp <;> omega
  unfold roadR
  rw [if_pos hp, if_pos h, he]

def nearB (m : Gi_Map) (i r k : Int) : Bool := decide (hd (mpHex m i) (mpHex m k) ≤ r)
def nearL (m : Gi_Map) (i r : Int) : Nat → Nat → List Int
  | 0, _ => []
  | n + 1, k => (if nearB m i r k = true then [(k : Int)] else []) ++ nearL m i r n (k + 1)
theorem nearL_len (m : Gi_Map) (i r : Int) : ∀ n k, (nearL m i r n k).length ≤ n
  | 0, k => Nat.le_refl _
  | n + 1, k => by
    have := nearL_len m i r n (k + 1)
    simp only [nearL, List.length_append]
    split <;> simp <;> omega
theorem nearGo_i {m : Gi_Map} {i r : Int} (hd1 : MpDim m 100) (hi : 0 ≤ i ∧ i ≤ 10000) {N : Nat} (hN : N ≤ 1000) : ∀ (n k : Nat) (acc : List Int), k + n = N → acc.length + n ≤ 5000 →
    loop Bi_NearOn (.h1 i r (N : Int) (k : Int) m acc) = some (acc ++ nearL m i r n k, true)
  | 0, k, acc, h, ha => by
    rw [loop_eq]
    simp only [Bi_NearOn, nearL, List.append_nil]
    rw [if_neg (by omega)]
    rfl
  | n + 1, k, acc, h, ha => by
    have hd' := hd1
    unfold MpDim at hd'
    have hk : 0 ≤ (k : Int) ∧ (k : Int) ≤ 10000 := by omega
    have i1 := nearGo_i hd1 hi hN (r := r) n (k + 1) (acc ++ [(k : Int)]) (by omega) (by simp only [List.length_append, List.length_singleton]; omega)
    have i2 := nearGo_i hd1 hi hN (r := r) n (k + 1) acc (by omega) (by omega)
    rw [loop_eq]
    simp only [Bi_NearOn, nearL]
    rw [if_pos (by omega), (hexOf_b hd'.1 hi).1, Option.bind_some, (hexOf_b hd'.1 hk).1, Option.bind_some, hd_i (mpHex_mid ⟨hd'.1, hd'.2.1⟩ hi) (mpHex_mid ⟨hd'.1, hd'.2.1⟩ hk), Option.bind_some, wsucc (by omega)]
    by_cases c : hd (mpHex m i) (mpHex m k) ≤ r
    · rw [if_pos c, if_pos (show nearB m i r k = true from decide_eq_true c), if_pos (by simp only [List.length_append, List.length_singleton]; omega), ← List.append_assoc]
      exact i1
    · rw [if_neg c, if_neg (show ¬ nearB m i r k = true from fun h => c (of_decide_eq_true h)), List.nil_append]
      exact i2
theorem nearGo_s {m : Gi_Map} {i r : Int} (hd1 : MpDim m 100) (hi : 0 ≤ i ∧ i ≤ 10000) {N : Nat} (hN : N ≤ 1000) (hs : m.Width * m.Height = N) : ∀ (n k : Nat) (acc : List Int), k + n = N → acc.length + n ≤ 5000 →
    loop Bs_mNear (.h1 i r (k : Int) m acc) = some (acc ++ nearL m i r n k)
  | 0, k, acc, h, ha => by
    rw [loop_eq]
    simp only [Bs_mNear, nearL, List.append_nil]
    rw [mSize_s hd1 (by decide), Option.bind_some, if_neg (by omega)]
    rfl
  | n + 1, k, acc, h, ha => by
    have hd' := hd1
    unfold MpDim at hd'
    have hk : 0 ≤ (k : Int) ∧ (k : Int) ≤ 10000 := by omega
    have i1 := nearGo_s hd1 hi hN hs (r := r) n (k + 1) (acc ++ [(k : Int)]) (by omega) (by simp only [List.length_append, List.length_singleton]; omega)
    have i2 := nearGo_s hd1 hi hN hs (r := r) n (k + 1) acc (by omega) (by omega)
    rw [loop_eq]
    simp only [Bs_mNear, nearL]
    rw [mSize_s hd1 (by decide), Option.bind_some, if_pos (by omega), (hexOf_b hd'.1 hi).2, Option.bind_some, (hexOf_b hd'.1 hk).2, Option.bind_some, hd_s (mpHex_mid ⟨hd'.1, hd'.2.1⟩ hi) (mpHex_mid ⟨hd'.1, hd'.2.1⟩ hk), Option.bind_some, wsucc (by omega)]
    by_cases c : hd (mpHex m i) (mpHex m k) ≤ r
    · rw [if_pos c, if_pos (show nearB m i r k = true from decide_eq_true c), if_pos (by simp only [List.length_append, List.length_singleton]; omega), ← List.append_assoc]
      exact i1
    · rw [if_neg c, if_neg (show ¬ nearB m i r k = true from fun h => c (of_decide_eq_true h)), List.nil_append]
      exact i2
def nearR (m : Gi_Map) (i r : Int) : List Int × Bool := if (mpOn m i && (decide (0 ≤ r) && decide (r ≤ 20))) = true then (nearL m i r m.Terrain.length 0, true) else ([], false)
theorem near_b {m : Gi_Map} (hl : MpLen m) (i r : Int) : Di_NearOn m i r = some (nearR m i r) ∧ Ds_NearOn m i r = some (nearR m i r) := by
  unfold Di_NearOn Ds_NearOn nearR
  rw [isPlace_i hl, on_s hl, Option.bind_some, Option.bind_some]
  by_cases c : mpOn m i = true
  · obtain ⟨d1, d2, d3, d4, d5⟩ := mpOn_dim c
    have hs := mpSize d1
    have hT := (mpGood_dim (mpOn_iff.1 c).1).2.1
    have hN : m.Terrain.length ≤ 1000 := by omega
    have g1 := nearGo_i (m := m) (i := i) (r := r) d2 ⟨d3, d4⟩ hN m.Terrain.length 0 [] (by omega) (by simp; omega)
    have g2 := nearGo_s (m := m) (i := i) (r := r) d2 ⟨d3, d4⟩ hN (by omega) m.Terrain.length 0 [] (by omega) (by simp; omega)
    rw [List.nil_append] at g1 g2
    rw [if_pos c, if_pos c, c, Bool.true_and, in_b, Option.bind_some]
    unfold Di_inRange Ds_mNear
    by_cases e1 : 0 ≤ r
    · by_cases e2 : r ≤ 20
      · simp only [e1, e2, decide_true, if_true, Bool.and_self, Option.bind_some]
        refine ⟨g1, ?_⟩
        rw [show loop Bs_mNear (.h1 i r 0 m []) = _ from g2]
        rfl
      · simp [e1, e2]
    · simp [e1]
  · rw [if_neg c, if_neg c]
    simp only [Bool.not_eq_true] at c
    rw [c, Bool.false_and, if_neg (by decide)]
    exact ⟨rfl, rfl⟩
theorem nearR_len {m : Gi_Map} (hl : MpLen m) (i r : Int) : (nearR m i r).1.length ≤ 1000000 := by
  unfold nearR
  have := nearL_len m i r m.Terrain.length 0
  have := hl.1
  split <;> simp <;> omega


theorem put_ex {l : List Int} {x : Int} (hl : l.length ≤ 1000) : ∀ (n i : Nat), i + n = l.length → ∃ l', loop Bs_l1Put_c0 (.h1 x (i : Int) l) = some l' ∧ l'.length ≤ l.length + 1
  | 0, i, h => by
    have hlen : (((List.take (i - 0) (List.drop 0 l)) ++ [x]) ++ (List.take (l.length - i) (List.drop i l))).length ≤ l.length + 1 := by
      simp only [List.length_append, List.length_take, List.length_drop, List.length_singleton]; omega
    have hlen1 : (List.take (i - 0) (List.drop 0 l)).length ≤ l.length := by simp only [List.length_take, List.length_drop]; omega
    have hlen2 : ((List.take (i - 0) (List.drop 0 l)) ++ [x]).length ≤ l.length + 1 := by rw [List.length_append, List.length_singleton]; omega
    rw [loop_eq]
    simp only [Bs_l1Put_c0, Int.toNat_natCast]
    rw [if_neg (by omega), if_neg (by omega), if_pos (by omega), if_pos (by omega), if_pos (by omega), if_pos (by omega), if_pos (by omega), if_pos (by omega), if_pos (by omega)]
    exact ⟨_, rfl, hlen⟩
  | n + 1, i, h => by
    have hlen : (((List.take (i - 0) (List.drop 0 l)) ++ [x]) ++ (List.take (l.length - i) (List.drop i l))).length ≤ l.length + 1 := by
      simp only [List.length_append, List.length_take, List.length_drop, List.length_singleton]; omega
    have hlen1 : (List.take (i - 0) (List.drop 0 l)).length ≤ l.length := by simp only [List.length_take, List.length_drop]; omega
    have hlen2 : ((List.take (i - 0) (List.drop 0 l)) ++ [x]).length ≤ l.length + 1 := by rw [List.length_append, List.length_singleton]; omega
    have hx : l[i]? = some l[i] := List.getElem?_eq_getElem (by omega)
    rw [loop_eq]
    simp only [Bs_l1Put_c0, Int.toNat_natCast, hx, Option.bind_some]
    rw [if_pos (by omega), if_pos (by omega)]
    by_cases c : l[i] < x
    · rw [if_pos c, wsucc (by omega)]
      exact put_ex hl n (i + 1) (by omega)
    · rw [if_neg c, if_pos (by omega), if_pos (by omega)]
      by_cases d : l[i] = x
      · rw [if_pos d]
        exact ⟨_, rfl, by omega⟩
      · rw [if_neg d, if_pos (by omega), if_pos (by omega), if_pos (by omega), if_pos (by omega), if_pos (by omega), if_pos (by omega), if_pos (by omega)]
        exact ⟨_, rfl, hlen⟩
theorem put_l {l : List Int} {x : Int} (hl : l.length ≤ 1000) : ∃ l', Ds_l1Put_c0 l x = some l' ∧ l'.length ≤ l.length + 1 := put_ex hl l.length 0 (by omega)
theorem edge_ex {m : Gi_Map} {i d : Int} (hd : MpDim m 100) (hi : 0 ≤ i ∧ i ≤ 10000) (h6 : 0 ≤ d ∧ d < 6) : ∃ e, Ds_mEdge m i d = some e := by
  unfold Ds_mEdge
  rw [(next_b hd hi h6).2]
  split <;> exact ⟨_, rfl⟩
theorem cuEdgesLoop {m : Gi_Map} (hd : MpDim m 10) : ∀ (n : Nat) {c : Gs_l1Cur} {k : Int} {l : List Int}, Cu c k → k + 4 * n ≤ 1099511627776 → l.length + n ≤ 100 →
    ∃ l' c', loop Bs_l1Cur_edges (.h1 (n : Int) c m l) = some (l', c') ∧ Cu c' (k + 4 * n) ∧ l'.length ≤ 100
  | 0, c, k, l, h, hk, hl => by
    rw [loop_eq]
    simp only [Bs_l1Cur_edges]
    rw [if_neg (by omega)]
    exact ⟨l, c, rfl, h.mono (by omega) (by omega), by omega⟩
  | n + 1, c, k, l, h, hk, hl => by
    have hs := mpSize hd
    have hd1 : MpDim m 100 := by unfold MpDim at hd ⊢; omega
    obtain ⟨v1, c1, e1, b1, g1⟩ := cuPick h (by omega) (m.Width * m.Height)
    obtain ⟨v2, c2, e2, b2, g2⟩ := cuPick g1 (by omega) 6
    have hv1 := b1.2.1 (by omega)
    have hv2 := b2.2.1 (by omega)
    have h6 : 0 ≤ v2 ∧ v2 < 6 := ⟨b2.1, hv2⟩
    have hi : 0 ≤ v1 ∧ v1 ≤ 10000 := ⟨b1.1, by omega⟩
    obtain ⟨e, he⟩ := edge_ex hd1 hi h6
    rw [loop_eq]
    simp only [Bs_l1Cur_edges]
    rw [if_pos (by omega), mSize_s hd (by decide), Option.bind_some, e1, Option.bind_some, e2, Option.bind_some, (next_b hd1 hi h6).2, Option.bind_some, w64 (n := ((n + 1 : Nat) : Int) - 1) (by omega), show (((n + 1 : Nat) : Int) - 1) = (n : Int) by omega]
    by_cases z : mpNext m v1 v2 ≥ 0
    · obtain ⟨l1, p1, p2⟩ := put_l (l := l) (x := e) (by omega)
      rw [if_pos z, he, Option.bind_some, p1, Option.bind_some]
      obtain ⟨l', c', q1, q2, q3⟩ := cuEdgesLoop hd n g2 (by omega) (l := l1) (by omega)
      exact ⟨l', c', q1, q2.mono (by omega) (by omega), q3⟩
    · rw [if_neg z]
      obtain ⟨l', c', q1, q2, q3⟩ := cuEdgesLoop hd n g2 (by omega) (l := l) (by omega)
      exact ⟨l', c', q1, q2.mono (by omega) (by omega), q3⟩
theorem cuEdges {m : Gi_Map} (hd : MpDim m 10) {c : Gs_l1Cur} {k : Int} (h : Cu c k) (hk : k + 40 ≤ 1099511627776) : ∃ l c', Ds_l1Cur_edges c m = some (l, c') ∧ Cu c' (k + 40) ∧ l.length ≤ 100 := by
  obtain ⟨v1, c1, e1, b1, g1⟩ := cuPick h (by omega) 8
  have hv1 := b1.2.1 (by omega)
  unfold Ds_l1Cur_edges
  rw [e1, Option.bind_some]
  obtain ⟨l', c', q1, q2, q3⟩ := cuEdgesLoop hd v1.toNat g1 (by omega) (l := []) (by simp; omega)
  rw [Int.toNat_of_nonneg b1.1] at q1
  exact ⟨l', c', q1, q2.mono (by omega) (by omega), q3⟩
structure MpDrawn (m : Gi_Map) : Prop where
  dim : MpDim m 10
  t1 : 1 ≤ m.Terrain.length
  t2 : m.Terrain.length ≤ 200
  r : m.Rivers.length ≤ 100
  o : m.Roads.length ≤ 100
theorem cuMapLoop {b3 b4 W H : Int} (hd : MpDim ⟨W, H, [], [], []⟩ 10) : ∀ (n i : Nat) {c : Gs_l1Cur} {k : Int} {l : List Int}, (i : Int) + n = W * H → Cu c k → k + 4 * n + 100 ≤ 1099511627776 → l.length = i → 1 ≤ i →
    ∃ m' c', loop Bs_l1Cur_mapOf (.h2 6 (i : Int) c b3 b4 W H l) = some (m', c') ∧ Cu c' (k + 4 * n + 100) ∧ MpDrawn m'
  | 0, i, c, k, l, hn, h, hk, hl, h1 => by
    have hs := mpSize hd
    simp only at hs
    have hd1 : MpDim ⟨W, H, l, [], []⟩ 10 := hd
    obtain ⟨l1, c1, e1, g1, x1⟩ := cuEdges hd1 h (by omega)
    have hd2 : MpDim ⟨W, H, l, l1, []⟩ 10 := hd
    obtain ⟨l2, c2, e2, g2, x2⟩ := cuEdges hd2 g1 (by omega)
    rw [loop_eq]
    simp only [Bs_l1Cur_mapOf]
    rw [mSize_s hd1 (by decide), Option.bind_some, if_neg (by simp only; omega), e1, Option.bind_some, e2, Option.bind_some]
    exact ⟨_, _, rfl, g2.mono (by omega) (by omega), hd, by simp only; omega, by simp only; omega, x1, x2⟩
  | n + 1, i, c, k, l, hn, h, hk, hl, h1 => by
    have hs := mpSize hd
    simp only at hs
    have hd1 : MpDim ⟨W, H, l, [], []⟩ 10 := hd
    obtain ⟨v1, c1, e1, g1⟩ := cuOne h (by omega) 3
    obtain ⟨v2, c2, e2, b2, g2⟩ := cuPick g1 (by omega) 6
    rw [loop_eq]
    simp only [Bs_l1Cur_mapOf]
    rw [mSize_s hd1 (by decide), Option.bind_some, if_pos (by simp only; omega), e1, Option.bind_some, wsucc (by omega)]
    by_cases z : v1 = true
    · rw [if_pos z, e2, Option.bind_some, if_pos (by simp only [List.length_append, List.length_singleton]; omega)]
      obtain ⟨m', c', q1, q2, q3⟩ := cuMapLoop hd (b3 := b3) (b4 := b4) n (i + 1) (c := c2) (l := l ++ [v2]) (by omega) g2 (by omega) (by simp [hl]) (by omega)
      exact ⟨m', c', q1, q2.mono (by omega) (by omega), q3⟩
    · rw [if_neg z, if_pos (by simp only [List.length_append, List.length_singleton]; omega)]
      obtain ⟨m', c', q1, q2, q3⟩ := cuMapLoop hd (b3 := b3) (b4 := b4) n (i + 1) (c := c1) (l := l ++ [0]) (by omega) g1 (by omega) (by simp [hl]) (by omega)
      exact ⟨m', c', q1, q2.mono (by omega) (by omega), q3⟩
theorem cuMapOf {c : Gs_l1Cur} {k : Int} (h : Cu c k) (hk : k + 1000 ≤ 1099511627776) : ∃ m c', Ds_l1Cur_mapOf c 6 = some (m, c') ∧ Cu c' (k + 1000) ∧ MpDrawn m := by
  obtain ⟨v1, c1, e1, b1, g1⟩ := cuPick h (by omega) 6
  obtain ⟨v2, c2, e2, b2, g2⟩ := cuPick g1 (by omega) 6
  have hv1 := b1.2.1 (by omega)
  have hv2 := b2.2.1 (by omega)
  have hd : MpDim ⟨1 + v1, 1 + v2, [], [], []⟩ 10 := by unfold MpDim; simp only; omega
  have hs := mpSize hd
  simp only at hs
  have hm := mulb (a := 1 + v1) (b := 1 + v2) (A := 6) (B := 6) (by omega) (by omega)
  obtain ⟨v3, c3, e3, g3⟩ := cuOne g2 (by omega) 3
  obtain ⟨v4, c4, e4, b4, g4⟩ := cuPick g3 (by omega) 6
  unfold Ds_l1Cur_mapOf
  rw [e1, Option.bind_some, e2, Option.bind_some, w64 (n := 1 + v1) (by omega), w64 (n := 1 + v2) (by omega), loop_eq]
  simp only [Bs_l1Cur_mapOf]
  rw [mSize_s hd (by decide), Option.bind_some, if_pos (by simp only; omega), e3, Option.bind_some]
  have key : ∀ {cc : Gs_l1Cur} {t : Int}, Cu cc (k + 8) → ∃ m c', loop Bs_l1Cur_mapOf (.h2 6 1 cc 0 0 (1 + v1) (1 + v2) [t]) = some (m, c') ∧ Cu c' (k + 1000) ∧ MpDrawn m := fun {cc t} hc => by
    obtain ⟨m', c', q1, q2, q3⟩ := cuMapLoop hd (b3 := 0) (b4 := 0) ((1 + v1) * (1 + v2) - 1).toNat 1 (c := cc) (l := [t]) (by omega) hc (by omega) rfl (by decide)
    exact ⟨m', c', q1, q2.mono (by omega) (by omega), q3⟩
  by_cases z : v3 = true
  · rw [if_pos z, e4, Option.bind_some, if_pos (by simp)]
    exact key (g4.mono (by omega) (by omega))
  · rw [if_neg z, if_pos (by simp)]
    exact key (g3.mono (by omega) (by omega))
theorem mSize_ex (m : Gi_Map) : ∃ v, Ds_mSize m = some v := ⟨_, rfl⟩
theorem cuAnyMap {c : Gs_l1Cur} {k : Int} (h : Cu c k) (hk : k + 1100 ≤ 1099511627776) : ∃ m c', Ds_l1Cur_anyMap c = some (m, c') ∧ Cu c' (k + 1100) ∧ MpLen m := by
  obtain ⟨m, c1, e1, g1, d⟩ := cuMapOf h (by omega)
  obtain ⟨v, c2, e2, _, g2⟩ := cuPick g1 (by omega) 30
  obtain ⟨s, es⟩ := mSize_ex m
  have hr := d.r
  have ho := d.o
  have ht := d.t2
  have ht1 := d.t1
  have h0 : m.Terrain[Int.toNat 0]? = some m.Terrain[0] := List.getElem?_eq_getElem (by omega)
  have hM : MpLen m := ⟨by omega, by omega, by omega⟩
  unfold Ds_l1Cur_anyMap
  rw [e1, Option.bind_some, e2, Option.bind_some]
  by_cases z0 : v = 0
  · obtain ⟨v4, c4, e4, _, g4⟩ := cuAmong g2 (by omega) [0, 10, 11, (IntKind.wrap .i64 (m.Width + 1))] (by simp)
    rw [if_pos z0]
    simp only [e4, Option.bind_some]
    exact ⟨_, _, rfl, g4.mono (by omega) (by omega), hM⟩
  · rw [if_neg z0]
    by_cases z1 : v = 1
    · obtain ⟨v4, c4, e4, _, g4⟩ := cuAmong g2 (by omega) [(-1), 6] (by simp)
      rw [if_pos z1]
      simp only [e4, h0, Option.bind_some]
      exact ⟨_, _, rfl, g4.mono (by omega) (by omega), by simp only [List.length_set]; omega, by simp only; omega, by simp only; omega⟩
    · rw [if_neg z1]
      by_cases z2 : v = 2
      · obtain ⟨v4, c4, e4, _, g4⟩ := cuAmong g2 (by omega) [0, (IntKind.wrap .i64 (3 * s)), (IntKind.wrap .i64 ((IntKind.wrap .i64 (3 * s)) - 1)), (-1)] (by simp)
        rw [if_pos z2, es]
        simp only [e4, Option.bind_some]
        rw [if_pos (by simp only [List.length_append, List.length_singleton]; omega)]
        exact ⟨_, _, rfl, g4.mono (by omega) (by omega), by simp only; omega, by simp only [List.length_append, List.length_singleton]; omega, by simp only; omega⟩
      · rw [if_neg z2]
        by_cases z3 : v = 3
        · rw [if_pos z3, if_pos (by simp only [List.length_append, List.length_singleton]; omega)]
          exact ⟨_, _, rfl, g2.mono (by omega) (by omega), by simp only; omega, by simp only; omega, by simp only [List.length_append, List.length_singleton]; omega⟩
        · rw [if_neg z3]
          exact ⟨_, _, rfl, g2.mono (by omega) (by omega), hM⟩
theorem cuPlace {c : Gs_l1Cur} {k : Int} (h : Cu c k) (hk : k + 4 ≤ 1099511627776) (m : Gi_Map) : ∃ v c', Ds_l1Cur_place c m = some (v, c') ∧ Cu c' (k + 4) := by
  obtain ⟨v1, c1, e1, g1⟩ := cuOne h (by omega) 20
  obtain ⟨s, es⟩ := mSize_ex m
  obtain ⟨v2, c2, e2, _, g2⟩ := cuAmong g1 (by omega) [(-1), s] (by simp)
  unfold Ds_l1Cur_place
  rw [e1, Option.bind_some, es]
  by_cases z : v1 = true
  · rw [if_pos z, Option.bind_some, e2, Option.bind_some]
    exact ⟨_, _, rfl, g2.mono (by omega) (by omega)⟩
  · rw [if_neg z, Option.bind_some]
    obtain ⟨t, et⟩ : ∃ t, Ds_l1Most s 1 = some t := by unfold Ds_l1Most; split <;> exact ⟨_, rfl⟩
    obtain ⟨v3, c3, e3, _, g3⟩ := cuPick g1 (by omega) t
    rw [et, Option.bind_some, e3, Option.bind_some]
    exact ⟨_, _, rfl, g3.mono (by omega) (by omega)⟩
theorem drawHexAt {code : List Int} (h : ∀ x ∈ code, 0 ≤ x ∧ x < 256) (hl : code.length ≤ 1048576) : ∃ m i, Ds_DrawHexAt code = some (m, i) ∧ MpLen m := by
  obtain ⟨m, c1, e1, g1, d⟩ := cuAnyMap (cu0 h hl) (by omega)
  obtain ⟨v, c2, e2, g2⟩ := cuPlace g1 (by omega) m
  unfold Ds_DrawHexAt
  rw [e1, Option.bind_some, e2, Option.bind_some]
  exact ⟨_, _, rfl, d⟩
theorem drawHasRiver {code : List Int} (h : ∀ x ∈ code, 0 ≤ x ∧ x < 256) (hl : code.length ≤ 1048576) : ∃ m i d, Ds_DrawHasRiver code = some (m, i, d) ∧ MpLen m := by
  obtain ⟨m, c1, e1, g1, hM⟩ := cuAnyMap (cu0 h hl) (by omega)
  obtain ⟨v2, c2, e2, g2⟩ := cuPlace g1 (by omega) m
  obtain ⟨v3, c3, e3, _, g3⟩ := cuPick g2 (by omega) 6
  obtain ⟨v4, c4, e4, g4⟩ := cuOne g1 (by omega) 2
  obtain ⟨v5, c5, e5, b5, g5⟩ := cuPick g4 (by omega) ((m.Rivers.length : Nat) : Int)
  obtain ⟨v6, c6, e6, g6⟩ := cuPlace g4 (by omega) m
  obtain ⟨v7, c7, e7, _, g7⟩ := cuPick g6 (by omega) 6
  unfold Ds_DrawHasRiver
  rw [e1, Option.bind_some, good_m hM]
  by_cases z : ((m.Rivers.length : Nat) : Int) > 0
  · rw [if_pos z, Option.bind_some]
    by_cases y : mpGood m = true
    · rw [if_pos y, e4, Option.bind_some]
      by_cases u : v4 = true
      · have := b5.2.1 (by omega)
        have hg : m.Rivers[v5.toNat]? = some m.Rivers[v5.toNat] := List.getElem?_eq_getElem (by omega)
        rw [if_pos u, e5, Option.bind_some, if_pos b5.1, hg, Option.bind_some]
        exact ⟨_, _, _, rfl, hM⟩
      · rw [if_neg u, e6, Option.bind_some, e7, Option.bind_some]
        exact ⟨_, _, _, rfl, hM⟩
    · rw [if_neg y, e2, Option.bind_some, e3, Option.bind_some]
      exact ⟨_, _, _, rfl, hM⟩
  · rw [if_neg z, e2, Option.bind_some, e3, Option.bind_some]
    exact ⟨_, _, _, rfl, hM⟩
theorem drawHasRoad {code : List Int} (h : ∀ x ∈ code, 0 ≤ x ∧ x < 256) (hl : code.length ≤ 1048576) : ∃ m i d, Ds_DrawHasRoad code = some (m, i, d) ∧ MpLen m := by
  obtain ⟨m, c1, e1, g1, hM⟩ := cuAnyMap (cu0 h hl) (by omega)
  obtain ⟨v2, c2, e2, g2⟩ := cuPlace g1 (by omega) m
  obtain ⟨v3, c3, e3, _, g3⟩ := cuPick g2 (by omega) 6
  obtain ⟨v4, c4, e4, g4⟩ := cuOne g1 (by omega) 2
  obtain ⟨v5, c5, e5, b5, g5⟩ := cuPick g4 (by omega) ((m.Roads.length : Nat) : Int)
  obtain ⟨v6, c6, e6, g6⟩ := cuPlace g4 (by omega) m
  obtain ⟨v7, c7, e7, _, g7⟩ := cuPick g6 (by omega) 6
  unfold Ds_DrawHasRoad
  rw [e1, Option.bind_some, good_m hM]
  by_cases z : ((m.Roads.length : Nat) : Int) > 0
  · rw [if_pos z, Option.bind_some]
    by_cases y : mpGood m = true
    · rw [if_pos y, e4, Option.bind_some]
      by_cases u : v4 = true
      · have := b5.2.1 (by omega)
        obtain ⟨hd, _, _, hO⟩ := mpGood_dim y
        have hs := mpSize hd
        have hd1 : MpDim m 100 := by unfold MpDim at hd ⊢; omega
        unfold mpList at hO
        simp only [Bool.and_eq_true, List.all_eq_true] at hO
        have ho := mpEdge_iff.1 (hO.1 m.Roads[v5.toNat] (List.getElem_mem (by omega)))
        have hg : m.Roads[v5.toNat]? = some m.Roads[v5.toNat] := List.getElem?_eq_getElem (by omega)
        rw [if_pos u, e5, Option.bind_some, if_pos b5.1, hg, Option.bind_some]
        have h3 : 0 ≤ m.Roads[v5.toNat] / 3 ∧ m.Roads[v5.toNat] / 3 ≤ 10000 := by omega
        rw [Int.tdiv_eq_ediv_of_nonneg ho.1, Int.tmod_eq_emod_of_nonneg ho.1, w64 (n := m.Roads[v5.toNat] / 3) (by omega), (next_b hd1 h3 (by omega)).2, Option.bind_some]
        exact ⟨_, _, _, rfl, hM⟩
      · rw [if_neg u, e6, Option.bind_some, e7, Option.bind_some]
        exact ⟨_, _, _, rfl, hM⟩
    · rw [if_neg y, e2, Option.bind_some, e3, Option.bind_some]
      exact ⟨_, _, _, rfl, hM⟩
  · rw [if_neg z, e2, Option.bind_some, e3, Option.bind_some]
    exact ⟨_, _, _, rfl, hM⟩
theorem drawNearOn {code : List Int} (h : ∀ x ∈ code, 0 ≤ x ∧ x < 256) (hl : code.length ≤ 1048576) : ∃ m i r, Ds_DrawNearOn code = some (m, i, r) ∧ MpLen m := by
  obtain ⟨m, c1, e1, g1, d⟩ := cuAnyMap (cu0 h hl) (by omega)
  obtain ⟨v, c2, e2, g2⟩ := cuPlace g1 (by omega) m
  obtain ⟨v3, c3, e3, _, g3⟩ := cuAmong g2 (by omega) [0, 1, 2, 3, 20, 21, (-1)] (by simp)
  unfold Ds_DrawNearOn
  rw [e1, Option.bind_some, e2, Option.bind_some, e3, Option.bind_some]
  exact ⟨_, _, _, rfl, d⟩

theorem places2 {more : List Int} (h : ∀ x ∈ more, 0 ≤ x ∧ x < 256) (hl : more.length ≤ 1048576) : loop Bw_FnPlaces (.h2 more) = some true := by
  obtain ⟨m, i, r, ed, hM⟩ := drawNearOn h hl
  obtain ⟨n1, n2⟩ := near_b hM i r
  have hn := nearR_len hM i r
  rw [loop_eq]
  simp only [Bw_FnPlaces, ed, n1, n2, Option.bind_some, BEq.rfl, if_true, eSameInts _ (show (nearR m i r).1.length ≤ 1048577 by omega)]
  rfl
theorem places1 {more : List Int} (h : ∀ x ∈ more, 0 ≤ x ∧ x < 256) (hl : more.length ≤ 1048576) : loop Bw_FnPlaces (.h1 more) = some true := by
  obtain ⟨m, i, d, ed, hM⟩ := drawHasRiver h hl
  obtain ⟨r1, r2⟩ := river_b hM i d
  obtain ⟨n, j, e, eo, hN⟩ := drawHasRoad h hl
  obtain ⟨o1, o2⟩ := road_b hN j e
  have k2 := places2 h hl
  rw [loop_eq]
  simp only [Bw_FnPlaces, ed, r1, r2, eo, o1, o2, Option.bind_some, BEq.rfl, Bool.not_true, Bool.false_eq_true, if_false]
  by_cases c : mpPair n j e = true
  · have hr : (roadR n n.Roads j e).2 = true := by unfold roadR; rw [if_pos c]
    obtain ⟨h1, h2, h3⟩ := mpPair_iff.1 c
    have hb := road_back (l := n.Roads) c
    rw [if_pos hr, hr]
    simp only [BEq.rfl, Bool.not_true, Bool.false_eq_true, if_false]
    rw [nextTo_i hN c, Option.bind_some, w64 (by omega)]
    simp only [if_true]
    rw [(road_b hN _ _).1, hb, Option.bind_some, if_pos hr]
    simp only [BEq.rfl, Bool.not_true, Bool.false_eq_true, if_false]
    exact k2
  · have hr : roadR n n.Roads j e = (false, false) := by unfold roadR; rw [if_neg c]
    rw [hr]
    simp only [BEq.rfl, Bool.not_true, Bool.false_eq_true, if_false]
    exact k2
theorem lawPlaces (code more : List Int) (hc : code.length < 9223372036854775808) (hm : more.length < 9223372036854775808) (h1 : ∀ x ∈ code, 0 ≤ x ∧ x < 256) (h2 : ∀ x ∈ more, 0 ≤ x ∧ x < 256) : Dw_FnPlaces code more = some true := by
  unfold Dw_FnPlaces
  rw [eBig code more hc hm, Option.bind_some]
  by_cases hb : 1048576 < code.length + more.length
  · rw [if_pos (decide_eq_true hb)]
  · rw [if_neg (by simpa using hb)]
    obtain ⟨m, i, ed, hM⟩ := drawHexAt h1 (by omega)
    obtain ⟨a1, a2⟩ := hexAt_b hM i
    have k1 := places1 h2 (by omega)
    rw [ed, Option.bind_some]
    simp only [a1, a2, Option.bind_some]
    by_cases c : mpOn m i = true
    · have ha : hexAtR m i = (mpHex m i, true) := by unfold hexAtR; rw [if_pos c]
      rw [ha]
      simp only [BEq.rfl, Bool.not_true, Bool.false_eq_true, if_false, if_true, Bool.and_self]
      rw [indexOf_at hM c, Option.bind_some]
      simp only [if_true]
      exact k1
    · have ha : hexAtR m i = (⟨0, 0⟩, false) := by unfold hexAtR; rw [if_neg c]
      rw [ha]
      simp only [BEq.rfl, Bool.not_true, Bool.false_eq_true, if_false, Bool.and_self]
      exact k1


end Go.Proofs.YtfnhclmdobdkbaaDoor.Ab
