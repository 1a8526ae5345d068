/- Part of the proof of FnBattlesCard: no condition of its own. -/
import Derived.Test.YtakcjcjfcignjaaGreatDoorB5BD
import Derived.Test.YtakcjcjfcignjaaGreatDoorPuA
set_option linter.unusedVariables false
set_option linter.unusedSimpArgs false
open Go
namespace Go.Proofs.YtakcjcjfcignjaaGreatDoor.Ab
structure Cu (c : Gs_l1Cur) (k : Int) : Prop where
  at0 : 0 ≤ c.at_
  atk : c.at_ ≤ k
  kk : k ≤ 1099511627776
  code : ∀ x ∈ c.code, 0 ≤ x ∧ x < 256
  len : c.code.length < 9223372036854775808

theorem Cu.mono {c : Gs_l1Cur} {k k' : Int} (h : Cu c k) (hk : k ≤ k') (hb : k' ≤ 1099511627776) : Cu c k' := ⟨h.at0, by have := h.atk; omega, hb, h.code, h.len⟩

theorem and255 (x : Int) : 0 ≤ IntKind.wrap .i64 (IntKind.wrap .u64 ((BitVec.toNat (BitVec.ofInt (IntKind.bits .u64) x &&& BitVec.ofInt (IntKind.bits .u64) 255) : Nat) : Int)) ∧ IntKind.wrap .i64 (IntKind.wrap .u64 ((BitVec.toNat (BitVec.ofInt (IntKind.bits .u64) x &&& BitVec.ofInt (IntKind.bits .u64) 255) : Nat) : Int)) < 256 := by
  have h : (BitVec.ofInt (IntKind.bits .u64) x &&& BitVec.ofInt (IntKind.bits .u64) 255).toNat ≤ 255 := by
    rw [BitVec.toNat_and]
    have e : (BitVec.ofInt (IntKind.bits .u64) 255).toNat = 255 := by decide
    rw [e]
    exact Nat.and_le_right
  generalize (BitVec.ofInt (IntKind.bits .u64) x &&& BitVec.ofInt (IntKind.bits .u64) 255).toNat = n at h
  have h2 : IntKind.wrap .u64 (n : Int) = (n : Int) := by
    simp only [IntKind.wrap, IntKind.bits, IntKind.signed]
    simp
    omega
  rw [h2, w64 (by omega)]
  omega

theorem cuNext {c : Gs_l1Cur} {k : Int} (h : Cu c k) (hk : k + 1 ≤ 1099511627776) : ∃ v c', Ds_l1Cur_next c = some (v, c') ∧ (0 ≤ v ∧ v < 256) ∧ Cu c' (k + 1) := by
  have h0 := h.at0
  have h1 := h.atk
  have mk : ∀ s, Cu ⟨c.code, c.at_ + 1, s⟩ (k + 1) := fun s => ⟨by simp only; omega, by simp only; omega, hk, h.code, h.len⟩
  unfold Ds_l1Cur_next
  rw [w64 (n := c.at_ + 1) (by omega)]
  by_cases ha : c.at_ < (c.code.length : Int)
  · have hlt : c.at_.toNat < c.code.length := by omega
    have hx := List.getElem?_eq_getElem hlt
    have hv := h.code _ (List.mem_of_getElem? hx)
    rw [if_pos ha, if_pos h0, hx]
    simp only [Option.bind_some]
    split
    · exact ⟨_, _, rfl, by rw [w64 (by omega)]; exact hv, mk _⟩
    · exact ⟨_, _, rfl, and255 _, mk _⟩
  · rw [if_neg ha]
    split
    · exact ⟨_, _, rfl, by omega, mk _⟩
    · exact ⟨_, _, rfl, and255 _, mk _⟩

theorem cuPick {c : Gs_l1Cur} {k : Int} (h : Cu c k) (hk : k + 2 ≤ 1099511627776) (n : Int) : ∃ v c', Ds_l1Cur_pick c n = some (v, c') ∧ (0 ≤ v ∧ (1 ≤ n → v < n) ∧ v ≤ 65535) ∧ Cu c' (k + 2) := by
  unfold Ds_l1Cur_pick
  by_cases h1 : n ≤ 1
  · rw [if_pos h1]
    exact ⟨_, _, rfl, by omega, h.mono (by omega) hk⟩
  · rw [if_neg h1]
    obtain ⟨v, c1, e1, hv, hc1⟩ := cuNext h (by omega)
    rw [e1]
    simp only [Option.bind_some]
    by_cases h2 : n > 200
    · rw [if_pos h2]
      obtain ⟨u, c2, e2, hu, hc2⟩ := cuNext hc1 (by omega)
      rw [e2]
      simp only [Option.bind_some]
      rw [if_pos (by omega), w64 (n := v * 256) (by omega), w64 (by omega)]
      have a1 := Int.tmod_nonneg n (show 0 ≤ v * 256 + u by omega)
      have a2 := Int.tmod_lt_of_pos (v * 256 + u) (show 0 < n by omega)
      have a3 : Int.tmod (v * 256 + u) n ≤ v * 256 + u := by
        have b1 := Int.mul_tdiv_add_tmod (v * 256 + u) n
        have b2 := Int.mul_nonneg (show 0 ≤ n by omega) (Int.tdiv_nonneg (show 0 ≤ v * 256 + u by omega) (show 0 ≤ n by omega))
        omega
      exact ⟨_, _, rfl, ⟨a1, fun _ => a2, by omega⟩, by have := hc2; rw [Int.add_assoc] at this; exact this⟩
    · rw [if_neg h2, if_pos (by omega)]
      have a1 := Int.tmod_nonneg n hv.1
      have a2 := Int.tmod_lt_of_pos v (show 0 < n by omega)
      exact ⟨_, _, rfl, ⟨a1, fun _ => a2, by omega⟩, hc1.mono (by omega) hk⟩

theorem cuOne {c : Gs_l1Cur} {k : Int} (h : Cu c k) (hk : k + 2 ≤ 1099511627776) (n : Int) : ∃ v c', Ds_l1Cur_one c n = some (v, c') ∧ Cu c' (k + 2) := by
  obtain ⟨v, c1, e1, _, hc1⟩ := cuPick h hk n
  unfold Ds_l1Cur_one
  rw [e1]
  exact ⟨_, _, rfl, hc1⟩

theorem cuAmong {c : Gs_l1Cur} {k : Int} (h : Cu c k) (hk : k + 2 ≤ 1099511627776) (l : List Int) (hl : 0 < l.length) : ∃ v c', Ds_l1Cur_among c l = some (v, c') ∧ v ∈ l ∧ Cu c' (k + 2) := by
  obtain ⟨v, c1, e1, hv, hc1⟩ := cuPick h hk l.length
  unfold Ds_l1Cur_among
  rw [e1]
  have hlt : v.toNat < l.length := by have := hv.2.1 (by omega); omega
  have hx := List.getElem?_eq_getElem hlt
  simp only [Option.bind_some]
  rw [if_pos hv.1, hx]
  exact ⟨_, _, rfl, List.mem_of_getElem? hx, hc1⟩

theorem cu1 {code : List Int} (h : ∀ x ∈ code, 0 ≤ x ∧ x < 256) (hl : code.length < 9223372036854775808) : Cu ⟨code, 0, 0⟩ 0 := ⟨Int.le_refl _, Int.le_refl _, by decide, h, hl⟩

def md (x m : Int) : Int := Int.tmod (IntKind.wrap .i64 (Int.tmod x m + m)) m
def mx (x : Int) (s : Int × Int) : Int × Int :=
  (Int.tmod (IntKind.wrap .i64 (IntKind.wrap .i64 (IntKind.wrap .i64 (16807 * s.1) + md x 2147483647) + s.2)) 2147483647,
   Int.tmod (IntKind.wrap .i64 (IntKind.wrap .i64 (IntKind.wrap .i64 (39373 * s.2) + md x 2147483629) + Int.tmod (IntKind.wrap .i64 (IntKind.wrap .i64 (IntKind.wrap .i64 (16807 * s.1) + md x 2147483647) + s.2)) 2147483647)) 2147483629)
def mixR (l : List Int) : Int × Int := mx 1 (mx 1 (mx 1 (l.foldl (fun s x => mx x s) (7, (l.length : Int) + 1))))

def below (s k n : Int) : Int := Int.tmod (mixR [s, k, n]).1 n
theorem mulb {a b A B : Int} (ha : -A ≤ a ∧ a ≤ A) (hb : -B ≤ b ∧ b ≤ B) : -(A * B) ≤ a * b ∧ a * b ≤ A * B := by
  have h1 : a.natAbs ≤ A.natAbs := by omega
  have h2 : b.natAbs ≤ B.natAbs := by omega
  have h3 := Nat.mul_le_mul h1 h2
  rw [← Int.natAbs_mul, ← Int.natAbs_mul] at h3
  have : 0 ≤ A * B := Int.mul_nonneg (by omega) (by omega)
  omega

/-- The hexes' distance. -/
def hd (A B : Gi_Hex) : Int := ((B.Q - A.Q).natAbs + (B.R - A.R).natAbs + (B.Q - A.Q + (B.R - A.R)).natAbs : Nat) / 2

/-- Of three sides the longest is the distance: so a point of a line lies on a grid line. -/
theorem side {A B : Gi_Hex} {n i q r : Int} (hn : 0 < n) (e : n = hd A B) (eq : q = A.Q * n + (B.Q - A.Q) * i) (er : r = A.R * n + (B.R - A.R) * i) : q % n = 0 ∨ r % n = 0 ∨ q % n + r % n = n := by
  have h : B.Q - A.Q = n ∨ B.Q - A.Q = -n ∨ B.R - A.R = n ∨ B.R - A.R = -n ∨ B.Q - A.Q + (B.R - A.R) = n ∨ B.Q - A.Q + (B.R - A.R) = -n := by
    unfold hd at e
    omega
  have z : ∀ k x y : Int, x = y * n + k * i → (k = n ∨ k = -n) → x % n = 0 := by
    intro k x y h1 h2
    apply Int.emod_eq_zero_of_dvd
    rcases h2 with h2 | h2
    · exact ⟨y + i, by subst h2; subst h1; grind⟩
    · exact ⟨y - i, by subst h2; subst h1; grind⟩
  rcases h with h | h | h | h | h | h
  · exact .inl (z _ _ _ eq (.inl h))
  · exact .inl (z _ _ _ eq (.inr h))
  · exact .inr (.inl (z _ _ _ er (.inl h)))
  · exact .inr (.inl (z _ _ _ er (.inr h)))
  all_goals
    have hs : (q + r) % n = 0 := z (B.Q - A.Q + (B.R - A.R)) (q + r) (A.Q + A.R) (by subst eq; subst er; grind) (by omega)
    rw [Int.add_emod] at hs
    have q3 := Int.emod_nonneg q (b := n) (by omega)
    have q4 := Int.emod_lt_of_pos q hn
    have r3 := Int.emod_nonneg r (b := n) (by omega)
    have r4 := Int.emod_lt_of_pos r hn
    rcases Int.lt_or_le (q % n + r % n) n with c | c
    · rw [Int.emod_eq_of_lt (by omega) c] at hs
      omega
    · have := Int.emod_add_mul_ediv (q % n + r % n - n) n
      have e2 : (q % n + r % n) % n = (q % n + r % n - n) % n := (Int.sub_emod_right ..).symm
      rw [e2, Int.emod_eq_of_lt (by omega) (by omega)] at hs
      omega

def dQ (d : Int) : Int := if d = 0 then 1 else if d = 1 then 1 else if d = 2 then 0 else if d = 3 then -1 else if d = 4 then -1 else 0
def dR (d : Int) : Int := if d = 0 then 0 else if d = 1 then -1 else if d = 2 then -1 else if d = 3 then 0 else 1
def hexGo (h : Gi_Hex) (d n : Int) : Gi_Hex := ⟨h.Q + n * dQ d, h.R + n * dR d⟩
def HexMid (h : Gi_Hex) : Prop := -10000 ≤ h.Q ∧ h.Q ≤ 10000 ∧ -10000 ≤ h.R ∧ h.R ≤ 10000

theorem sixDirs {d : Int} (h : 0 ≤ d ∧ d < 6) : d = 0 ∨ d = 1 ∨ d = 2 ∨ d = 3 ∨ d = 4 ∨ d = 5 := by omega
theorem dirGet {d : Int} (h : 0 ≤ d ∧ d < 6) : gv0[d.toNat]? = some ⟨dQ d, dR d⟩ := by
  rcases sixDirs h with rfl | rfl | rfl | rfl | rfl | rfl <;> rfl
theorem dirQ {d : Int} (h : 0 ≤ d ∧ d < 6) : [1, 1, 0, (-1), (-1), 0][d.toNat]? = some (dQ d) := by
  rcases sixDirs h with rfl | rfl | rfl | rfl | rfl | rfl <;> rfl
theorem dirR {d : Int} (h : 0 ≤ d ∧ d < 6) : [0, (-1), (-1), 0, 1, 1][d.toNat]? = some (dR d) := by
  rcases sixDirs h with rfl | rfl | rfl | rfl | rfl | rfl <;> rfl
theorem dirB {d : Int} (h : 0 ≤ d ∧ d < 6) (n : Int) : (n * dQ d = n ∨ n * dQ d = 0 ∨ n * dQ d = -n) ∧ (n * dR d = n ∨ n * dR d = 0 ∨ n * dR d = -n) := by
  rcases sixDirs h with rfl | rfl | rfl | rfl | rfl | rfl <;> simp [dQ, dR] <;> omega
theorem stepBy_i {h : Gi_Hex} {d n : Int} (hd : 0 ≤ d ∧ d < 6) (hh : HexMid h) (hn : -10000 ≤ n ∧ n ≤ 10000) : Di_stepBy h d n = some (hexGo h d n) := by
  obtain ⟨b1, b2⟩ := dirB hd n
  unfold HexMid at hh
  unfold Di_stepBy hexGo
  rw [if_pos hd.1, dirGet hd, Option.bind_some, if_pos hd.1, Option.bind_some]
  rw [w64 (n := n * dQ d) (by omega), w64 (n := n * dR d) (by omega), w64 (by omega), w64 (by omega)]
theorem hStep_s {h : Gi_Hex} {d : Int} (hd : 0 ≤ d ∧ d < 6) (hh : HexMid h) : Ds_hStep h d = some (hexGo h d 1) := by
  obtain ⟨b1, b2⟩ := dirB hd 1
  unfold HexMid at hh
  unfold Ds_hStep hexGo
  rw [if_pos hd.1, dirQ hd, Option.bind_some, if_pos hd.1, dirR hd, Option.bind_some]
  simp only [Int.one_mul] at b1 b2 ⊢
  rw [w64 (by omega), w64 (by omega)]
def MpDim (m : Gi_Map) (b : Int) : Prop := 1 ≤ m.Width ∧ m.Width ≤ b ∧ 1 ≤ m.Height ∧ m.Height ≤ b
def mpHex (m : Gi_Map) (i : Int) : Gi_Hex := ⟨i % m.Width, i / m.Width⟩
theorem mpDiv {i w : Int} (hi : 0 ≤ i) (hw : 1 ≤ w) : 0 ≤ i / w ∧ i / w ≤ i ∧ 0 ≤ i % w ∧ i % w < w := ⟨Int.ediv_nonneg hi (by omega), Int.ediv_le_self _ hi, Int.emod_nonneg _ (by omega), Int.emod_lt_of_pos _ (by omega)⟩
theorem hexOf_b {m : Gi_Map} {i : Int} (hw : 1 ≤ m.Width) (hi : 0 ≤ i ∧ i ≤ 10000) : Di_hexOf m i = some (mpHex m i) ∧ Ds_mHex m i = some (mpHex m i) := by
  obtain ⟨d1, d2, d3, d4⟩ := mpDiv hi.1 hw
  have h0 : ¬ m.Width = 0 := by omega
  unfold Di_hexOf Ds_mHex mpHex
  rw [if_pos h0, if_pos h0, Int.tmod_eq_emod_of_nonneg hi.1, Int.tdiv_eq_ediv_of_nonneg hi.1, w64 (by omega)]
  exact ⟨rfl, rfl⟩
theorem mpHex_mid {m : Gi_Map} {i : Int} (hw : 1 ≤ m.Width ∧ m.Width ≤ 100) (hi : 0 ≤ i ∧ i ≤ 10000) : HexMid (mpHex m i) := by
  obtain ⟨d1, d2, d3, d4⟩ := mpDiv hi.1 hw.1
  unfold HexMid mpHex
  simp only
  omega
def mpIdx (m : Gi_Map) (h : Gi_Hex) : Int := if 0 ≤ h.Q ∧ h.Q ≤ m.Width - 1 ∧ 0 ≤ h.R ∧ h.R ≤ m.Height - 1 then h.R * m.Width + h.Q else -1
theorem indexOf_b {m : Gi_Map} {h : Gi_Hex} (hd : MpDim m 100) : Di_indexOf m h = some (mpIdx m h) ∧ Ds_mIndex m h = some (mpIdx m h) := by
  unfold MpDim at hd
  unfold Di_indexOf Ds_mIndex Di_isIndex Di_inRange Ds_l1In mpIdx
  rw [w64 (n := m.Width - 1) (by omega), w64 (n := m.Height - 1) (by omega)]
  by_cases c1 : 0 ≤ h.Q
  · by_cases c2 : h.Q ≤ m.Width - 1
    · by_cases c3 : 0 ≤ h.R
      · by_cases c4 : h.R ≤ m.Height - 1
        · have hm := mulb (a := h.R) (b := m.Width) (A := 100) (B := 100) (by omega) (by omega)
          simp only [c1, c2, c3, c4, if_true, Option.bind_some, decide_true, ge_iff_le, and_self]
          rw [w64 (n := h.R * m.Width) (by omega), w64 (by omega)]
        · simp [c1, c2, c3, c4]
      · simp [c1, c2, c3]
    · simp [c1, c2]
  · simp [c1]
def mpNext (m : Gi_Map) (i d : Int) : Int := mpIdx m (hexGo (mpHex m i) d 1)
theorem next_b {m : Gi_Map} {i d : Int} (hd : MpDim m 100) (hi : 0 ≤ i ∧ i ≤ 10000) (h6 : 0 ≤ d ∧ d < 6) : Di_nextTo m i d = some (mpNext m i d) ∧ Ds_mNext m i d = some (mpNext m i d) := by
  have hd' := hd
  unfold MpDim at hd'
  have hm := mpHex_mid (m := m) (i := i) ⟨hd'.1, hd'.2.1⟩ hi
  obtain ⟨a1, a2⟩ := hexOf_b (m := m) hd'.1 hi
  obtain ⟨b1, b2⟩ := indexOf_b (h := hexGo (mpHex m i) d 1) hd
  unfold Di_nextTo Ds_mNext
  rw [a1, a2, Option.bind_some, Option.bind_some, stepBy_i h6 hm (by decide), hStep_s h6 hm, Option.bind_some, Option.bind_some, b1, b2]
  exact ⟨rfl, rfl⟩
theorem mpMul {w h r q : Int} (hq : 0 ≤ q ∧ q ≤ w - 1) (hr : 0 ≤ r ∧ r ≤ h - 1) : 0 ≤ r * w + q ∧ r * w + q < w * h := by
  have h1 : r * w ≤ (h - 1) * w := Int.mul_le_mul_of_nonneg_right hr.2 (by omega)
  have h2 : 0 ≤ r * w := Int.mul_nonneg hr.1 (by omega)
  rw [Int.sub_mul, Int.one_mul, Int.mul_comm h w] at h1
  omega
/-- The hex of an index that is found is the hex. -/
theorem mpIdx_hex {m : Gi_Map} {h : Gi_Hex} (hk : 0 ≤ mpIdx m h) : mpHex m (mpIdx m h) = h ∧ mpIdx m h < m.Width * m.Height := by
  unfold mpIdx at hk ⊢
  by_cases c : 0 ≤ h.Q ∧ h.Q ≤ m.Width - 1 ∧ 0 ≤ h.R ∧ h.R ≤ m.Height - 1
  · rw [if_pos c]
    have e := (Int.ediv_emod_unique (a := h.R * m.Width + h.Q) (b := m.Width) (r := h.Q) (q := h.R) (by omega)).2 ⟨by rw [Int.mul_comm]; omega, c.1, by omega⟩
    refine ⟨?_, (mpMul ⟨c.1, c.2.1⟩ c.2.2).2⟩
    unfold mpHex
    rw [e.1, e.2]
  · rw [if_neg c] at hk
    omega
theorem mpSize {m : Gi_Map} {b : Int} (hd : MpDim m b) : 1 ≤ m.Width * m.Height ∧ m.Width * m.Height ≤ b * b := by
  unfold MpDim at hd
  constructor
  · have := Int.mul_le_mul hd.1 hd.2.2.1 (by decide) (by omega)
    omega
  · exact Int.mul_le_mul hd.2.1 hd.2.2.2 (by omega) (by omega)
theorem mSize_s {m : Gi_Map} {b : Int} (hd : MpDim m b) (hb : b * b ≤ 2000000) : Ds_mSize m = some (m.Width * m.Height) := by
  have := mpSize hd
  unfold Ds_mSize
  rw [w64 (by omega)]

def mpEdgeOk (m : Gi_Map) (e : Int) : Bool := decide (0 ≤ e) && decide (e ≤ 3 * (m.Width * m.Height) - 1) && decide (0 ≤ mpNext m (e / 3) (e % 3))
theorem mpEdge_iff {m : Gi_Map} {e : Int} : mpEdgeOk m e = true ↔ 0 ≤ e ∧ e ≤ 3 * (m.Width * m.Height) - 1 ∧ 0 ≤ mpNext m (e / 3) (e % 3) := by
  simp [mpEdgeOk, and_assoc]
theorem isEdge_i {m : Gi_Map} {e : Int} (hd : MpDim m 10) : Di_isEdge m e = some (mpEdgeOk m e) := by
  have hs := mpSize hd
  have hd1 : MpDim m 100 := by unfold MpDim at hd ⊢; omega
  have hd' := hd
  unfold MpDim at hd'
  unfold Di_isEdge Di_inRange mpEdgeOk
  have e1 : 3 * m.Width * m.Height = 3 * (m.Width * m.Height) := Int.mul_assoc _ _ _
  rw [w64 (n := 3 * m.Width) (by omega), e1, w64 (n := 3 * (m.Width * m.Height)) (by omega), w64 (n := 3 * (m.Width * m.Height) - 1) (by omega)]
  by_cases c1 : 0 ≤ e
  · by_cases c2 : e ≤ 3 * (m.Width * m.Height) - 1
    · have h3 : 0 ≤ e / 3 ∧ e / 3 ≤ 10000 := by omega
      simp only [c1, c2, if_true, Option.bind_some, decide_true, Bool.true_and]
      rw [Int.tdiv_eq_ediv_of_nonneg c1, Int.tmod_eq_emod_of_nonneg c1, w64 (by omega), (next_b hd1 h3 (by omega)).1]
      rfl
    · simp [c1, c2]
  · simp [c1]
def rsB (l : List Int) : Nat → Nat → Bool
  | 0, _ => true
  | n + 1, i => (match l[i - 1]?, l[i]? with
    | some x, some y => decide (x < y)
    | _, _ => true) && rsB l n (i + 1)
def rising (l : List Int) : Bool := rsB l (l.length - 1) 1
theorem incr_i {l : List Int} (hl : l.length ≤ 2000000) : ∀ (n i : Nat), 1 ≤ i → (i + n = l.length ∨ n = 0 ∧ l.length ≤ i ∧ i ≤ 1) → loop Bi_increasing (.h1 l (i : Int)) = some (rsB l n i)
  | 0, i, h1, h => by
    rw [loop_eq]
    simp only [Bi_increasing]
    rw [if_neg (by omega)]
    rfl
  | n + 1, i, h1, h => by
    have hx : l[i - 1]? = some l[i - 1] := List.getElem?_eq_getElem (by omega)
    have hy : l[i]? = some l[i] := List.getElem?_eq_getElem (by omega)
    have ih := incr_i hl n (i + 1) (by omega) (by omega)
    have e : IntKind.wrap .i64 ((i : Int) - 1) = ((i - 1 : Nat) : Int) := by rw [w64 (by omega)]; omega
    rw [loop_eq]
    simp only [Bi_increasing, rsB, e, Int.toNat_natCast, hx, hy, Option.bind_some]
    rw [if_pos (by omega), if_pos (by omega), if_pos (by omega), wsucc (by omega)]
    by_cases c : l[i - 1] < l[i]
    · rw [if_neg (by omega), decide_eq_true c, Bool.true_and]
      exact ih
    · rw [if_pos (by omega), decide_eq_false c, Bool.false_and]
      rfl
theorem increasing_i {l : List Int} (hl : l.length ≤ 2000000) : Di_increasing l = some (rising l) := incr_i hl (l.length - 1) 1 (Nat.le_refl _) (by omega)
theorem in_b {x lo hi : Int} : Ds_l1In x lo hi = some (decide (lo ≤ x) && decide (x ≤ hi)) := by
  unfold Ds_l1In
  by_cases c : lo ≤ x <;> simp [c]
theorem rise_s {l : List Int} {hi : Int} (hl : l.length ≤ 2000000) (ha : ∀ x ∈ l, 0 ≤ x ∧ x ≤ hi) : ∀ (n i : Nat), 1 ≤ i → (i + n = l.length) → loop Bs_l1Rising (.h1 l 0 hi l (l.length : Int) (i : Int)) = some (rsB l n i)
  | 0, i, h1, h => by
    rw [loop_eq]
    simp only [Bs_l1Rising]
    rw [if_neg (by omega)]
    rfl
  | n + 1, i, h1, h => by
    have hx : l[i - 1]? = some l[i - 1] := List.getElem?_eq_getElem (by omega)
    have hy : l[i]? = some l[i] := List.getElem?_eq_getElem (by omega)
    have ih := rise_s hl ha n (i + 1) (by omega) (by omega)
    obtain ⟨a1, a2⟩ := ha l[i] (List.getElem_mem (by omega))
    have e : IntKind.wrap .i64 ((i : Int) - 1) = ((i - 1 : Nat) : Int) := by rw [w64 (by omega)]; omega
    rw [loop_eq]
    simp only [Bs_l1Rising, rsB, e, Int.toNat_natCast, hx, hy, Option.bind_some, in_b, a1, a2, decide_true, Bool.and_self, if_true]
    rw [if_pos (by omega), if_pos (by omega), if_pos (by omega), if_pos (by omega), wsucc (by omega)]
    by_cases c : l[i - 1] < l[i]
    · rw [if_neg (by omega), decide_eq_true c, Bool.true_and]
      exact ih
    · rw [if_pos (by omega), decide_eq_false c, Bool.false_and]
      rfl
theorem rising_s {l : List Int} {hi : Int} (hl : l.length ≤ 2000000) (ha : ∀ x ∈ l, 0 ≤ x ∧ x ≤ hi) : Ds_l1Rising l 0 hi = some (rising l) := by
  unfold Ds_l1Rising rising
  by_cases z : l.length = 0
  · have : l = [] := List.length_eq_zero_iff.1 z
    subst this
    rw [loop_eq]
    rfl
  · have hy : l[0]? = some l[0] := List.getElem?_eq_getElem (by omega)
    obtain ⟨a1, a2⟩ := ha l[0] (List.getElem_mem (by omega))
    have := rise_s hl ha (l.length - 1) 1 (Nat.le_refl _) (by omega)
    rw [loop_eq]
    have e0 : l[Int.toNat 0]? = some l[0] := hy
    simp only [Bs_l1Rising, e0, Option.bind_some, in_b, a1, a2, decide_true, Bool.and_self, if_true]
    rw [if_pos (by omega), if_pos (by decide), if_neg (by decide)]
    exact this
def mpList (m : Gi_Map) (l : List Int) : Bool := l.all (mpEdgeOk m) && rising l
theorem edgesGo_s {m : Gi_Map} (hd : MpDim m 10) {l : List Int} (hl : l.length ≤ 2000000) : ∀ (n i : Nat), i + n = l.length → (∀ x ∈ l.take i, mpEdgeOk m x = true) → loop Bs_mEdges (.h1 l l (l.length : Int) (i : Int) m) = some ((l.drop i).all (mpEdgeOk m) && rising l)
  | 0, i, h, hb => by
    have hs := mpSize hd
    rw [List.take_of_length_le (by omega)] at hb
    rw [loop_eq, List.drop_of_length_le (by omega)]
    simp only [Bs_mEdges]
    rw [if_neg (by omega), mSize_s hd (by decide), Option.bind_some, w64 (n := 3 * (m.Width * m.Height)) (by omega), w64 (by omega), rising_s hl (fun x hx => by
      have := mpEdge_iff.1 (hb x hx)
      omega)]
    rfl
  | n + 1, i, h, hb => by
    have hs := mpSize hd
    have hd1 : MpDim m 100 := by unfold MpDim at hd ⊢; omega
    have hx : l[i]? = some l[i] := List.getElem?_eq_getElem (by omega)
    rw [loop_eq, List.drop_eq_getElem_cons (by omega), List.all_cons]
    simp only [Bs_mEdges]
    rw [if_pos (by omega), if_pos (by omega), Int.toNat_natCast, hx, Option.bind_some, mSize_s hd (by decide), Option.bind_some, w64 (n := 3 * (m.Width * m.Height)) (by omega), w64 (n := 3 * (m.Width * m.Height) - 1) (by omega), in_b, Option.bind_some, wsucc (by omega)]
    by_cases c : 0 ≤ l[i] ∧ l[i] ≤ 3 * (m.Width * m.Height) - 1
    · rw [if_pos (by simp [c.1, c.2])]
      have h3 : 0 ≤ l[i] / 3 ∧ l[i] / 3 ≤ 10000 := by omega
      rw [Int.tdiv_eq_ediv_of_nonneg c.1, Int.tmod_eq_emod_of_nonneg c.1, w64 (by omega), (next_b hd1 h3 (by omega)).2, Option.bind_some]
      by_cases c3 : 0 ≤ mpNext m (l[i] / 3) (l[i] % 3)
      · have hok : mpEdgeOk m l[i] = true := mpEdge_iff.2 ⟨c.1, c.2, c3⟩
        rw [if_neg (by omega), hok, Bool.true_and]
        refine edgesGo_s hd hl n (i + 1) (by omega) fun x hx' => ?_
        rw [List.take_add_one, hx] at hx'
        rcases List.mem_append.1 hx' with hx' | hx'
        · exact hb x hx'
        · simp at hx'; subst hx'; exact hok
      · have hok : mpEdgeOk m l[i] = false := by
          cases hh : mpEdgeOk m l[i] with
          | false => rfl
          | true => exact absurd (mpEdge_iff.1 hh).2.2 c3
        rw [if_pos (by omega), hok, Bool.false_and, Bool.false_and]
        rfl
    · have hok : mpEdgeOk m l[i] = false := by
        cases hh : mpEdgeOk m l[i] with
        | false => rfl
        | true => exact absurd ⟨(mpEdge_iff.1 hh).1, (mpEdge_iff.1 hh).2.1⟩ c
      rw [if_neg (by simp only [Bool.and_eq_true, decide_eq_true_eq]; exact c), hok, Bool.false_and, Bool.false_and]
      rfl
theorem edges_s {m : Gi_Map} (hd : MpDim m 10) {l : List Int} (hl : l.length ≤ 2000000) : Ds_mEdges m l = some (mpList m l) := by
  have := edgesGo_s hd hl l.length 0 (by omega) (fun x hx => by simp at hx)
  rw [List.drop_zero] at this
  exact this
def terrOk (x : Int) : Bool := decide (0 ≤ x) && decide (x ≤ 5)
theorem terr_s {l : List Int} (hl : l.length ≤ 2000000) : ∀ (n i : Nat), i + n = l.length → loop Bs_l1All (.h1 0 5 l (l.length : Int) (i : Int)) = some ((l.drop i).all terrOk)
  | 0, i, h => by
    rw [loop_eq, List.drop_of_length_le (by omega)]
    simp only [Bs_l1All]
    rw [if_neg (by omega)]
    rfl
  | n + 1, i, h => by
    have hx : l[i]? = some l[i] := List.getElem?_eq_getElem (by omega)
    have ih := terr_s hl n (i + 1) (by omega)
    rw [loop_eq, List.drop_eq_getElem_cons (by omega), List.all_cons]
    simp only [Bs_l1All]
    rw [if_pos (by omega), if_pos (by omega), Int.toNat_natCast, hx, Option.bind_some, in_b, Option.bind_some, wsucc (by omega)]
    by_cases c : terrOk l[i] = true
    · have c' := c
      unfold terrOk at c'
      rw [if_pos c', c, Bool.true_and]
      exact ih
    · have c' := c
      unfold terrOk at c'
      rw [if_neg c']
      simp only [Bool.not_eq_true] at c
      rw [c, Bool.false_and]
      rfl
theorem edgeLoop_i {m : Gi_Map} (hd : MpDim m 10) {l : List Int} (hl : l.length ≤ 2000000) {t0 t1 : Int} {L : List (List Int)} : ∀ (n i : Nat), i + n = l.length →
    loop Bi_IsMap (.h3 t0 t1 l (l.length : Int) (i : Int) m L) = if (l.drop i).all (mpEdgeOk m) = true then loop Bi_IsMap (.h2 t0 (IntKind.wrap .i64 (t1 + 1)) m L) else some false
  | 0, i, h => by
    rw [loop_eq, List.drop_of_length_le (by omega)]
    simp only [Bi_IsMap]
    rw [if_neg (by omega), if_pos (by rfl)]
    rfl
  | n + 1, i, h => by
    have hx : l[i]? = some l[i] := List.getElem?_eq_getElem (by omega)
    have ih := edgeLoop_i hd hl (t0 := t0) (t1 := t1) (L := L) n (i + 1) (by omega)
    rw [loop_eq, List.drop_eq_getElem_cons (by omega), List.all_cons]
    simp only [Bi_IsMap]
    rw [if_pos (by omega), if_pos (by omega), Int.toNat_natCast, hx, Option.bind_some, isEdge_i hd, Option.bind_some, wsucc (by omega)]
    by_cases c : mpEdgeOk m l[i] = true
    · rw [if_pos c, c, Bool.true_and]
      exact ih
    · rw [if_neg c]
      simp only [Bool.not_eq_true] at c
      rw [c, Bool.false_and, if_neg (by decide)]
      rfl
theorem lists_i {m : Gi_Map} (hd : MpDim m 10) (hr : m.Rivers.length ≤ 2000000) (ho : m.Roads.length ≤ 2000000) : loop Bi_IsMap (.h2 2 0 m [m.Rivers, m.Roads]) = some (mpList m m.Rivers && mpList m m.Roads) := by
  have i1 := edgeLoop_i hd hr (t0 := 2) (t1 := 0) (L := [m.Rivers, m.Roads]) m.Rivers.length 0 (by omega)
  have i2 := edgeLoop_i hd ho (t0 := 2) (t1 := 1) (L := [m.Rivers, m.Roads]) m.Roads.length 0 (by omega)
  rw [List.drop_zero, show IntKind.wrap .i64 (0 + 1) = 1 from by decide] at i1
  rw [List.drop_zero, show IntKind.wrap .i64 (1 + 1) = 2 from by decide] at i2
  have e3 : loop Bi_IsMap (.h2 2 2 m [m.Rivers, m.Roads]) = some true := by rw [loop_eq]; rfl
  have e2 : loop Bi_IsMap (.h2 2 1 m [m.Rivers, m.Roads]) = some (mpList m m.Roads) := by
    rw [loop_eq]
    simp only [Bi_IsMap]
    rw [if_pos (by decide), if_pos (by decide), show [m.Rivers, m.Roads][Int.toNat 1]? = some m.Roads from rfl, Option.bind_some, increasing_i ho, Option.bind_some]
    unfold mpList
    by_cases c : rising m.Roads = true
    · rw [if_pos c, c, Bool.and_true]
      refine (show _ = _ from i2).trans ?_
      rw [e3]
      by_cases c2 : m.Roads.all (mpEdgeOk m) = true
      · rw [if_pos c2, c2]
      · rw [if_neg c2]
        simp only [Bool.not_eq_true] at c2
        rw [c2]
    · rw [if_neg c]
      simp only [Bool.not_eq_true] at c
      rw [c, Bool.and_false]
      rfl
  rw [loop_eq]
  simp only [Bi_IsMap]
  rw [if_pos (by decide), if_pos (by decide), show [m.Rivers, m.Roads][Int.toNat 0]? = some m.Rivers from rfl, Option.bind_some, increasing_i hr, Option.bind_some]
  by_cases c : rising m.Rivers = true
  · rw [if_pos c]
    refine (show _ = _ from i1).trans ?_
    rw [e2]
    unfold mpList
    rw [c, Bool.and_true]
    by_cases c2 : m.Rivers.all (mpEdgeOk m) = true
    · rw [if_pos c2, c2, Bool.true_and]
    · rw [if_neg c2]
      simp only [Bool.not_eq_true] at c2
      rw [c2, Bool.false_and]
  · rw [if_neg c]
    simp only [Bool.not_eq_true] at c
    unfold mpList
    rw [c, Bool.and_false, Bool.false_and]
    rfl
theorem terr_i {m : Gi_Map} {l : List Int} (hl : l.length ≤ 2000000) : ∀ (n i : Nat), i + n = l.length → loop Bi_IsMap (.h1 l (l.length : Int) (i : Int) m) = if (l.drop i).all terrOk = true then loop Bi_IsMap (.h2 2 0 m [m.Rivers, m.Roads]) else some false
  | 0, i, h => by
    rw [loop_eq, List.drop_of_length_le (by omega)]
    simp only [Bi_IsMap]
    rw [if_neg (by omega), if_pos (by rfl)]
    rfl
  | n + 1, i, h => by
    have hx : l[i]? = some l[i] := List.getElem?_eq_getElem (by omega)
    have ih := terr_i hl (m := m) n (i + 1) (by omega)
    have e : Di_isIndex l[i] 6 = some (terrOk l[i]) := by
      unfold Di_isIndex Di_inRange terrOk
      rw [show IntKind.wrap .i64 (6 - 1) = 5 from by decide]
      by_cases c : 0 ≤ l[i] <;> simp [c]
    rw [loop_eq, List.drop_eq_getElem_cons (by omega), List.all_cons]
    simp only [Bi_IsMap]
    rw [if_pos (by omega), if_pos (by omega), Int.toNat_natCast, hx, Option.bind_some, e, Option.bind_some, wsucc (by omega)]
    by_cases c : terrOk l[i] = true
    · rw [if_pos c, c, Bool.true_and]
      exact ih
    · rw [if_neg c]
      simp only [Bool.not_eq_true] at c
      rw [c, Bool.false_and, if_neg (by decide)]
      rfl
def MpLen (m : Gi_Map) : Prop := m.Terrain.length ≤ 2000000 ∧ m.Rivers.length ≤ 2000000 ∧ m.Roads.length ≤ 2000000
def mpGood (m : Gi_Map) : Bool := decide (1 ≤ m.Width) && decide (m.Width ≤ 10) && decide (1 ≤ m.Height) && decide (m.Height ≤ 10) && decide ((m.Terrain.length : Int) = m.Width * m.Height) && m.Terrain.all terrOk && mpList m m.Rivers && mpList m m.Roads
theorem mpGood_dim {m : Gi_Map} (h : mpGood m = true) : MpDim m 10 ∧ (m.Terrain.length : Int) = m.Width * m.Height ∧ mpList m m.Rivers = true ∧ mpList m m.Roads = true := by
  simp only [mpGood, Bool.and_eq_true, decide_eq_true_eq] at h
  exact ⟨⟨h.1.1.1.1.1.1.1, h.1.1.1.1.1.1.2, h.1.1.1.1.1.2, h.1.1.1.1.2⟩, h.1.1.1.2, h.1.2, h.2⟩
theorem isMap_i {m : Gi_Map} (hl : MpLen m) : Di_IsMap m = some (mpGood m) := by
  unfold Di_IsMap Di_inRange mpGood
  by_cases c1 : 1 ≤ m.Width
  · by_cases c2 : m.Width ≤ 10
    · by_cases c3 : 1 ≤ m.Height
      · by_cases c4 : m.Height ≤ 10
        · have hd : MpDim m 10 := ⟨c1, c2, c3, c4⟩
          have hs := mpSize hd
          have t := terr_i hl.1 (m := m) m.Terrain.length 0 (by omega)
          rw [List.drop_zero, lists_i hd hl.2.1 hl.2.2] at t
          simp only [c1, c2, c3, c4, if_true, Option.bind_some, decide_true, Bool.true_and]
          rw [w64 (by omega)]
          by_cases c5 : (m.Terrain.length : Int) = m.Width * m.Height
          · rw [if_pos c5]
            refine (show _ = _ from t).trans ?_
            simp only [c5, decide_true, Bool.true_and]
            by_cases c6 : m.Terrain.all terrOk = true
            · rw [if_pos c6, c6, Bool.true_and]
            · rw [if_neg c6]
              simp only [Bool.not_eq_true] at c6
              rw [c6]
              rfl
          · rw [if_neg c5]
            simp [c5]
        · simp [c1, c2, c3, c4]
      · simp [c1, c2, c3]
    · simp [c1, c2]
  · simp [c1]
theorem good_m {m : Gi_Map} (hl : MpLen m) : Ds_mGood m = some (mpGood m) := by
  unfold Ds_mGood mpGood
  rw [in_b, in_b]
  by_cases c1 : 1 ≤ m.Width
  · by_cases c2 : m.Width ≤ 10
    · by_cases c3 : 1 ≤ m.Height
      · by_cases c4 : m.Height ≤ 10
        · have hd : MpDim m 10 := ⟨c1, c2, c3, c4⟩
          have t := terr_s hl.1 m.Terrain.length 0 (by omega)
          rw [List.drop_zero] at t
          have t' : Ds_l1All m.Terrain 0 5 = some (m.Terrain.all terrOk) := t
          simp only [c1, c2, c3, c4, if_true, Option.bind_some, decide_true, Bool.true_and, mSize_s hd (by decide), edges_s hd hl.2.1, edges_s hd hl.2.2, t']
          by_cases c5 : (m.Terrain.length : Int) = m.Width * m.Height
          · simp only [c5, decide_true, Bool.true_and, if_true]
            by_cases c6 : m.Terrain.all terrOk = true
            · rw [if_pos c6, c6, Bool.true_and]
              by_cases c7 : mpList m m.Rivers = true
              · rw [if_pos c7, c7, Bool.true_and]
              · rw [if_neg c7]
                simp only [Bool.not_eq_true] at c7
                rw [c7, Bool.false_and]
            · rw [if_neg c6]
              simp only [Bool.not_eq_true] at c6
              rw [c6]
              rfl
          · simp [c5]
        · simp [c1, c2, c3, c4]
      · simp [c1, c2, c3]
    · simp [c1, c2]
  · simp [c1]


def mpOn (m : Gi_Map) (i : Int) : Bool := mpGood m && (decide (0 ≤ i) && decide (i ≤ m.Width * m.Height - 1))
theorem mpOn_iff {m : Gi_Map} {i : Int} : mpOn m i = true ↔ mpGood m = true ∧ 0 ≤ i ∧ i < m.Width * m.Height := by
  simp only [mpOn, Bool.and_eq_true, decide_eq_true_eq]
  exact ⟨fun h => ⟨h.1, h.2.1, by omega⟩, fun h => ⟨h.1, h.2.1, by omega⟩⟩
theorem mpOn_dim {m : Gi_Map} {i : Int} (h : mpOn m i = true) : MpDim m 10 ∧ MpDim m 100 ∧ 0 ≤ i ∧ i ≤ 10000 ∧ i < m.Width * m.Height := by
  obtain ⟨h1, h2, h3⟩ := mpOn_iff.1 h
  have hd := (mpGood_dim h1).1
  have hs := mpSize hd
  refine ⟨hd, ?_, h2, by omega, h3⟩
  unfold MpDim at hd ⊢
  omega
def mpPair (m : Gi_Map) (i d : Int) : Bool := mpOn m i && (decide (0 ≤ d) && decide (d ≤ 5)) && decide (0 ≤ mpNext m i d)
theorem mpPair_iff {m : Gi_Map} {i d : Int} : mpPair m i d = true ↔ mpOn m i = true ∧ (0 ≤ d ∧ d < 6) ∧ 0 ≤ mpNext m i d := by
  simp only [mpPair, Bool.and_eq_true, decide_eq_true_eq]
  constructor
  · rintro ⟨⟨h1, h2⟩, h3⟩; exact ⟨h1, ⟨h2.1, by omega⟩, h3⟩
  · rintro ⟨h1, h2, h3⟩; exact ⟨⟨h1, h2.1, by omega⟩, h3⟩
theorem mpNext_lt {m : Gi_Map} {i d : Int} (h : 0 ≤ mpNext m i d) : mpNext m i d < m.Width * m.Height ∧ mpHex m (mpNext m i d) = hexGo (mpHex m i) d 1 := by
  obtain ⟨h1, h2⟩ := mpIdx_hex (m := m) (h := hexGo (mpHex m i) d 1) h
  exact ⟨h2, h1⟩
def mpEdge (m : Gi_Map) (i d : Int) : Int := if d < 3 then 3 * i + d else 3 * mpNext m i d + d - 3
theorem edge_b {m : Gi_Map} {i d : Int} (h : mpPair m i d = true) : Di_edgeOf m i d = some (mpEdge m i d) ∧ Ds_mEdge m i d = some (mpEdge m i d) := by
  obtain ⟨h1, h2, h3⟩ := mpPair_iff.1 h
  obtain ⟨d1, d2, d3, d4, d5⟩ := mpOn_dim h1
  have hs := mpSize d1
  have hn := mpNext_lt h3
  obtain ⟨n1, n2⟩ := next_b (m := m) (i := i) (d := d) d2 ⟨d3, d4⟩ h2
  unfold Di_edgeOf Ds_mEdge mpEdge
  rw [n1, n2, Option.bind_some, if_neg (by omega)]
  by_cases c : d < 3
  · rw [if_pos c, if_pos c, if_pos c, w64 (n := 3 * i) (by omega), w64 (by omega)]
    exact ⟨rfl, rfl⟩
  · rw [if_neg c, if_neg c, if_neg c, Option.bind_some, w64 (n := 3 * mpNext m i d) (by omega), w64 (n := 3 * mpNext m i d + d) (by omega), w64 (by omega)]
    exact ⟨rfl, rfl⟩
def hasB (l : List Int) (e : Int) : Bool := l.any fun x => decide (x = e)
theorem has_i {l : List Int} {e : Int} (hl : l.length ≤ 2000000) : ∀ (n i : Nat), i + n = l.length → ∃ r, loop Bslices_Index_int (.h1 l e (l.length : Int) (i : Int)) = some r ∧ decide (r ≥ 0) = hasB (l.drop i) e
  | 0, i, h => by
    rw [loop_eq, List.drop_of_length_le (by omega)]
    simp only [Bslices_Index_int]
    rw [if_neg (by omega)]
    exact ⟨-1, rfl, rfl⟩
  | n + 1, i, h => by
    have hx : l[i]? = some l[i] := List.getElem?_eq_getElem (by omega)
    obtain ⟨r, e1, e2⟩ := has_i hl (e := e) n (i + 1) (by omega)
    rw [loop_eq, List.drop_eq_getElem_cons (by omega)]
    simp only [Bslices_Index_int, hasB, List.any_cons]
    rw [if_pos (by omega), if_pos (by omega), Int.toNat_natCast, hx, Option.bind_some, wsucc (by omega)]
    by_cases c : e = l[i]
    · rw [if_pos c, decide_eq_true c.symm, Bool.true_or]
      exact ⟨_, rfl, by simp⟩
    · rw [if_neg c, decide_eq_false (fun h => c h.symm), Bool.false_or]
      exact ⟨r, e1, e2⟩
theorem contains_i {l : List Int} {e : Int} (hl : l.length ≤ 2000000) : Dslices_Contains_int l e = some (hasB l e) := by
  obtain ⟨r, e1, e2⟩ := has_i hl (e := e) l.length 0 (by omega)
  unfold Dslices_Contains_int
  rw [show Dslices_Index_int l e = some r from e1, Option.bind_some, e2, List.drop_zero]
theorem has_s' {l : List Int} {e : Int} (hl : l.length ≤ 2000000) : ∀ (n i : Nat), i + n = l.length → loop Bs_l1Has (.h1 e l (l.length : Int) (i : Int)) = some (hasB (l.drop i) e)
  | 0, i, h => by
    rw [loop_eq, List.drop_of_length_le (by omega)]
    simp only [Bs_l1Has]
    rw [if_neg (by omega)]
    rfl
  | n + 1, i, h => by
    have hx : l[i]? = some l[i] := List.getElem?_eq_getElem (by omega)
    have ih := has_s' hl (e := e) n (i + 1) (by omega)
    rw [loop_eq, List.drop_eq_getElem_cons (by omega)]
    simp only [Bs_l1Has, hasB, List.any_cons]
    rw [if_pos (by omega), if_pos (by omega), Int.toNat_natCast, hx, Option.bind_some, wsucc (by omega)]
    by_cases c : l[i] = e
    · rw [if_pos c, decide_eq_true c, Bool.true_or]
      rfl
    · rw [if_neg c, decide_eq_false c, Bool.false_or]
      exact ih
theorem has_s {l : List Int} {e : Int} (hl : l.length ≤ 2000000) : Ds_l1Has l e = some (hasB l e) := by
  have := has_s' hl (e := e) l.length 0 (by omega)
  rw [List.drop_zero] at this
  exact this
theorem put_ex {l : List Int} {x : Int} (hl : l.length ≤ 1000) : ∀ (n i : Nat), i + n = l.length → ∃ l', loop Bs_l1Put_c0 (.h1 x (i : Int) l) = some l' ∧ l'.length ≤ l.length + 1
  | 0, i, h => by
    have hlen : (((List.take (i - 0) (List.drop 0 l)) ++ [x]) ++ (List.take (l.length - i) (List.drop i l))).length ≤ l.length + 1 := by
      simp only [List.length_append, List.length_take, List.length_drop, List.length_singleton]; omega
    have hlen1 : (List.take (i - 0) (List.drop 0 l)).length ≤ l.length := by simp only [List.length_take, List.length_drop]; omega
    have hlen2 : ((List.take (i - 0) (List.drop 0 l)) ++ [x]).length ≤ l.length + 1 := by rw [List.length_append, List.length_singleton]; omega
    rw [loop_eq]
    simp only [Bs_l1Put_c0, Int.toNat_natCast]
    rw [if_neg (by omega), if_neg (by omega), if_pos (by omega), if_pos (by omega), if_pos (by omega), if_pos (by omega), if_pos (by omega), if_pos (by omega), if_pos (by omega)]
    exact ⟨_, rfl, hlen⟩
  | n + 1, i, h => by
    have hlen : (((List.take (i - 0) (List.drop 0 l)) ++ [x]) ++ (List.take (l.length - i) (List.drop i l))).length ≤ l.length + 1 := by
      simp only [List.length_append, List.length_take, List.length_drop, List.length_singleton]; omega
    have hlen1 : (List.take (i - 0) (List.drop 0 l)).length ≤ l.length := by simp only [List.length_take, List.length_drop]; omega
    have hlen2 : ((List.take (i - 0) (List.drop 0 l)) ++ [x]).length ≤ l.length + 1 := by rw [List.length_append, List.length_singleton]; omega
    have hx : l[i]? = some l[i] := List.getElem?_eq_getElem (by omega)
    rw [loop_eq]
    simp only [Bs_l1Put_c0, Int.toNat_natCast, hx, Option.bind_some]
    rw [if_pos (by omega), if_pos (by omega)]
    by_cases c : l[i] < x
    · rw [if_pos c, wsucc (by omega)]
      exact put_ex hl n (i + 1) (by omega)
    · rw [if_neg c, if_pos (by omega), if_pos (by omega)]
      by_cases d : l[i] = x
      · rw [if_pos d]
        exact ⟨_, rfl, by omega⟩
      · rw [if_neg d, if_pos (by omega), if_pos (by omega), if_pos (by omega), if_pos (by omega), if_pos (by omega), if_pos (by omega), if_pos (by omega)]
        exact ⟨_, rfl, hlen⟩
theorem put_l {l : List Int} {x : Int} (hl : l.length ≤ 1000) : ∃ l', Ds_l1Put_c0 l x = some l' ∧ l'.length ≤ l.length + 1 := put_ex hl l.length 0 (by omega)
theorem edge_ex {m : Gi_Map} {i d : Int} (hd : MpDim m 100) (hi : 0 ≤ i ∧ i ≤ 10000) (h6 : 0 ≤ d ∧ d < 6) : ∃ e, Ds_mEdge m i d = some e := by
  unfold Ds_mEdge
  rw [(next_b hd hi h6).2]
  split <;> exact ⟨_, rfl⟩
theorem cuEdgesLoop {m : Gi_Map} (hd : MpDim m 10) : ∀ (n : Nat) {c : Gs_l1Cur} {k : Int} {l : List Int}, Cu c k → k + 4 * n ≤ 1099511627776 → l.length + n ≤ 100 →
    ∃ l' c', loop Bs_l1Cur_edges (.h1 (n : Int) c m l) = some (l', c') ∧ Cu c' (k + 4 * n) ∧ l'.length ≤ 100
  | 0, c, k, l, h, hk, hl => by
    rw [loop_eq]
    simp only [Bs_l1Cur_edges]
    rw [if_neg (by omega)]
    exact ⟨l, c, rfl, h.mono (by omega) (by omega), by omega⟩
  | n + 1, c, k, l, h, hk, hl => by
    have hs := mpSize hd
    have hd1 : MpDim m 100 := by unfold MpDim at hd ⊢; omega
    obtain ⟨v1, c1, e1, b1, g1⟩ := cuPick h (by omega) (m.Width * m.Height)
    obtain ⟨v2, c2, e2, b2, g2⟩ := cuPick g1 (by omega) 6
    have hv1 := b1.2.1 (by omega)
    have hv2 := b2.2.1 (by omega)
    have h6 : 0 ≤ v2 ∧ v2 < 6 := ⟨b2.1, hv2⟩
    have hi : 0 ≤ v1 ∧ v1 ≤ 10000 := ⟨b1.1, by omega⟩
    obtain ⟨e, he⟩ := edge_ex hd1 hi h6
    rw [loop_eq]
    simp only [Bs_l1Cur_edges]
    rw [if_pos (by omega), mSize_s hd (by decide), Option.bind_some, e1, Option.bind_some, e2, Option.bind_some, (next_b hd1 hi h6).2, Option.bind_some, w64 (n := ((n + 1 : Nat) : Int) - 1) (by omega), show (((n + 1 : Nat) : Int) - 1) = (n : Int) by omega]
    by_cases z : mpNext m v1 v2 ≥ 0
    · obtain ⟨l1, p1, p2⟩ := put_l (l := l) (x := e) (by omega)
      rw [if_pos z, he, Option.bind_some, p1, Option.bind_some]
      obtain ⟨l', c', q1, q2, q3⟩ := cuEdgesLoop hd n g2 (by omega) (l := l1) (by omega)
      exact ⟨l', c', q1, q2.mono (by omega) (by omega), q3⟩
    · rw [if_neg z]
      obtain ⟨l', c', q1, q2, q3⟩ := cuEdgesLoop hd n g2 (by omega) (l := l) (by omega)
      exact ⟨l', c', q1, q2.mono (by omega) (by omega), q3⟩
theorem cuEdges {m : Gi_Map} (hd : MpDim m 10) {c : Gs_l1Cur} {k : Int} (h : Cu c k) (hk : k + 40 ≤ 1099511627776) : ∃ l c', Ds_l1Cur_edges c m = some (l, c') ∧ Cu c' (k + 40) ∧ l.length ≤ 100 := by
  obtain ⟨v1, c1, e1, b1, g1⟩ := cuPick h (by omega) 8
  have hv1 := b1.2.1 (by omega)
  unfold Ds_l1Cur_edges
  rw [e1, Option.bind_some]
  obtain ⟨l', c', q1, q2, q3⟩ := cuEdgesLoop hd v1.toNat g1 (by omega) (l := []) (by simp; omega)
  rw [Int.toNat_of_nonneg b1.1] at q1
  exact ⟨l', c', q1, q2.mono (by omega) (by omega), q3⟩
structure MpDrawn (m : Gi_Map) : Prop where
  dim : MpDim m 10
  t1 : 1 ≤ m.Terrain.length
  t2 : m.Terrain.length ≤ 200
  r : m.Rivers.length ≤ 100
  o : m.Roads.length ≤ 100
theorem cuMapLoop {b3 b4 W H : Int} (hd : MpDim ⟨W, H, [], [], []⟩ 10) : ∀ (n i : Nat) {c : Gs_l1Cur} {k : Int} {l : List Int}, (i : Int) + n = W * H → Cu c k → k + 4 * n + 100 ≤ 1099511627776 → l.length = i → 1 ≤ i →
    ∃ m' c', loop Bs_l1Cur_mapOf (.h2 6 (i : Int) c b3 b4 W H l) = some (m', c') ∧ Cu c' (k + 4 * n + 100) ∧ MpDrawn m'
  | 0, i, c, k, l, hn, h, hk, hl, h1 => by
    have hs := mpSize hd
    simp only at hs
    have hd1 : MpDim ⟨W, H, l, [], []⟩ 10 := hd
    obtain ⟨l1, c1, e1, g1, x1⟩ := cuEdges hd1 h (by omega)
    have hd2 : MpDim ⟨W, H, l, l1, []⟩ 10 := hd
    obtain ⟨l2, c2, e2, g2, x2⟩ := cuEdges hd2 g1 (by omega)
    rw [loop_eq]
    simp only [Bs_l1Cur_mapOf]
    rw [mSize_s hd1 (by decide), Option.bind_some, if_neg (by simp only; omega), e1, Option.bind_some, e2, Option.bind_some]
    exact ⟨_, _, rfl, g2.mono (by omega) (by omega), hd, by simp only; omega, by simp only; omega, x1, x2⟩
  | n + 1, i, c, k, l, hn, h, hk, hl, h1 => by
    have hs := mpSize hd
    simp only at hs
    have hd1 : MpDim ⟨W, H, l, [], []⟩ 10 := hd
    obtain ⟨v1, c1, e1, g1⟩ := cuOne h (by omega) 3
    obtain ⟨v2, c2, e2, b2, g2⟩ := cuPick g1 (by omega) 6
    rw [loop_eq]
    simp only [Bs_l1Cur_mapOf]
    rw [mSize_s hd1 (by decide), Option.bind_some, if_pos (by simp only; omega), e1, Option.bind_some, wsucc (by omega)]
    by_cases z : v1 = true
    · rw [if_pos z, e2, Option.bind_some, if_pos (by simp only [List.length_append, List.length_singleton]; omega)]
      obtain ⟨m', c', q1, q2, q3⟩ := cuMapLoop hd (b3 := b3) (b4 := b4) n (i + 1) (c := c2) (l := l ++ [v2]) (by omega) g2 (by omega) (by simp [hl]) (by omega)
      exact ⟨m', c', q1, q2.mono (by omega) (by omega), q3⟩
    · rw [if_neg z, if_pos (by simp only [List.length_append, List.length_singleton]; omega)]
      obtain ⟨m', c', q1, q2, q3⟩ := cuMapLoop hd (b3 := b3) (b4 := b4) n (i + 1) (c := c1) (l := l ++ [0]) (by omega) g1 (by omega) (by simp [hl]) (by omega)
      exact ⟨m', c', q1, q2.mono (by omega) (by omega), q3⟩
theorem cuMapOf {c : Gs_l1Cur} {k : Int} (h : Cu c k) (hk : k + 1000 ≤ 1099511627776) : ∃ m c', Ds_l1Cur_mapOf c 6 = some (m, c') ∧ Cu c' (k + 1000) ∧ MpDrawn m := by
  obtain ⟨v1, c1, e1, b1, g1⟩ := cuPick h (by omega) 6
  obtain ⟨v2, c2, e2, b2, g2⟩ := cuPick g1 (by omega) 6
  have hv1 := b1.2.1 (by omega)
  have hv2 := b2.2.1 (by omega)
  have hd : MpDim ⟨1 + v1, 1 + v2, [], [], []⟩ 10 := by unfold MpDim; simp only; omega
  have hs := mpSize hd
  simp only at hs
  have hm := mulb (a := 1 + v1) (b := 1 + v2) (A := 6) (B := 6) (by omega) (by omega)
  obtain ⟨v3, c3, e3, g3⟩ := cuOne g2 (by omega) 3
  obtain ⟨v4, c4, e4, b4, g4⟩ := cuPick g3 (by omega) 6
  unfold Ds_l1Cur_mapOf
  rw [e1, Option.bind_some, e2, Option.bind_some, w64 (n := 1 + v1) (by omega), w64 (n := 1 + v2) (by omega), loop_eq]
  simp only [Bs_l1Cur_mapOf]
  rw [mSize_s hd (by decide), Option.bind_some, if_pos (by simp only; omega), e3, Option.bind_some]
  have key : ∀ {cc : Gs_l1Cur} {t : Int}, Cu cc (k + 8) → ∃ m c', loop Bs_l1Cur_mapOf (.h2 6 1 cc 0 0 (1 + v1) (1 + v2) [t]) = some (m, c') ∧ Cu c' (k + 1000) ∧ MpDrawn m := fun {cc t} hc => by
    obtain ⟨m', c', q1, q2, q3⟩ := cuMapLoop hd (b3 := 0) (b4 := 0) ((1 + v1) * (1 + v2) - 1).toNat 1 (c := cc) (l := [t]) (by omega) hc (by omega) rfl (by decide)
    exact ⟨m', c', q1, q2.mono (by omega) (by omega), q3⟩
  by_cases z : v3 = true
  · rw [if_pos z, e4, Option.bind_some, if_pos (by simp)]
    exact key (g4.mono (by omega) (by omega))
  · rw [if_neg z, if_pos (by simp)]
    exact key (g3.mono (by omega) (by omega))
theorem mSize_ex (m : Gi_Map) : ∃ v, Ds_mSize m = some v := ⟨_, rfl⟩
theorem cuAnyMap {c : Gs_l1Cur} {k : Int} (h : Cu c k) (hk : k + 1100 ≤ 1099511627776) : ∃ m c', Ds_l1Cur_anyMap c = some (m, c') ∧ Cu c' (k + 1100) ∧ MpLen m := by
  obtain ⟨m, c1, e1, g1, d⟩ := cuMapOf h (by omega)
  obtain ⟨v, c2, e2, _, g2⟩ := cuPick g1 (by omega) 30
  obtain ⟨s, es⟩ := mSize_ex m
  have hr := d.r
  have ho := d.o
  have ht := d.t2
  have ht1 := d.t1
  have h0 : m.Terrain[Int.toNat 0]? = some m.Terrain[0] := List.getElem?_eq_getElem (by omega)
  have hM : MpLen m := ⟨by omega, by omega, by omega⟩
  unfold Ds_l1Cur_anyMap
  rw [e1, Option.bind_some, e2, Option.bind_some]
  by_cases z0 : v = 0
  · obtain ⟨v4, c4, e4, _, g4⟩ := cuAmong g2 (by omega) [0, 10, 11, (IntKind.wrap .i64 (m.Width + 1))] (by simp)
    rw [if_pos z0]
    simp only [e4, Option.bind_some]
    exact ⟨_, _, rfl, g4.mono (by omega) (by omega), hM⟩
  · rw [if_neg z0]
    by_cases z1 : v = 1
    · obtain ⟨v4, c4, e4, _, g4⟩ := cuAmong g2 (by omega) [(-1), 6] (by simp)
      rw [if_pos z1]
      simp only [e4, h0, Option.bind_some]
      exact ⟨_, _, rfl, g4.mono (by omega) (by omega), by simp only [List.length_set]; omega, by simp only; omega, by simp only; omega⟩
    · rw [if_neg z1]
      by_cases z2 : v = 2
      · obtain ⟨v4, c4, e4, _, g4⟩ := cuAmong g2 (by omega) [0, (IntKind.wrap .i64 (3 * s)), (IntKind.wrap .i64 ((IntKind.wrap .i64 (3 * s)) - 1)), (-1)] (by simp)
        rw [if_pos z2, es]
        simp only [e4, Option.bind_some]
        rw [if_pos (by simp only [List.length_append, List.length_singleton]; omega)]
        exact ⟨_, _, rfl, g4.mono (by omega) (by omega), by simp only; omega, by simp only [List.length_append, List.length_singleton]; omega, by simp only; omega⟩
      · rw [if_neg z2]
        by_cases z3 : v = 3
        · rw [if_pos z3, if_pos (by simp only [List.length_append, List.length_singleton]; omega)]
          exact ⟨_, _, rfl, g2.mono (by omega) (by omega), by simp only; omega, by simp only; omega, by simp only [List.length_append, List.length_singleton]; omega⟩
        · rw [if_neg z3]
          exact ⟨_, _, rfl, g2.mono (by omega) (by omega), hM⟩
theorem cuPlace {c : Gs_l1Cur} {k : Int} (h : Cu c k) (hk : k + 4 ≤ 1099511627776) (m : Gi_Map) : ∃ v c', Ds_l1Cur_place c m = some (v, c') ∧ Cu c' (k + 4) := by
  obtain ⟨v1, c1, e1, g1⟩ := cuOne h (by omega) 20
  obtain ⟨s, es⟩ := mSize_ex m
  obtain ⟨v2, c2, e2, _, g2⟩ := cuAmong g1 (by omega) [(-1), s] (by simp)
  unfold Ds_l1Cur_place
  rw [e1, Option.bind_some, es]
  by_cases z : v1 = true
  · rw [if_pos z, Option.bind_some, e2, Option.bind_some]
    exact ⟨_, _, rfl, g2.mono (by omega) (by omega)⟩
  · rw [if_neg z, Option.bind_some]
    obtain ⟨t, et⟩ : ∃ t, Ds_l1Most s 1 = some t := by unfold Ds_l1Most; split <;> exact ⟨_, rfl⟩
    obtain ⟨v3, c3, e3, _, g3⟩ := cuPick g1 (by omega) t
    rw [et, Option.bind_some, e3, Option.bind_some]
    exact ⟨_, _, rfl, g3.mono (by omega) (by omega)⟩
def kIn (x lo hi : Int) : Bool := decide (lo ≤ x) && decide (x ≤ hi)
theorem kIn_iff {x lo hi : Int} : kIn x lo hi = true ↔ lo ≤ x ∧ x ≤ hi := by simp [kIn]
theorem kin_i (x lo hi : Int) : Di_inRange x lo hi = some (kIn x lo hi) := by
  unfold Di_inRange kIn
  by_cases c : lo ≤ x <;> simp [c]
theorem kin_s (x lo hi : Int) : Ds_l1In x lo hi = some (kIn x lo hi) := by
  unfold Ds_l1In kIn
  by_cases c : lo ≤ x
  · rw [if_pos c]; simp [c]
  · rw [if_neg c]; simp [c]
theorem ifB (b : Bool) : (if b = true then some true else some false) = some b := by cases b <;> rfl
theorem ifNB (b : Bool) : (if b = true then some false else some true) = some (!b) := by cases b <;> rfl

/-- A walk over a list that ends at the first element that q does not hold of. -/
theorem all_goL {σ α ρ : Type} {L : σ → Option ρ} {S : Nat → σ} {l : List α} {q : Nat → α → Bool} {f : ρ} {r : Option ρ}
    (hs : ∀ i x, l[i]? = some x → i < l.length → (∀ j y, j < i → l[j]? = some y → q j y = true) → L (S i) = if q i x = true then L (S (i + 1)) else some f)
    (he : (∀ j y, l[j]? = some y → q j y = true) → L (S l.length) = r) : L (S 0) = if alli q l = true then r else some f := by
  have key : ∀ (k i : Nat), i + k = l.length → (∀ j x, j < i → l[j]? = some x → q j x = true) → L (S i) = if alli q l = true then r else some f := by
    intro k
    induction k with
    | zero =>
      intro i h hb
      have : i = l.length := by omega
      subst this
      have hall : ∀ j y, l[j]? = some y → q j y = true := fun j x hj => hb j x (List.getElem?_eq_some_iff.1 hj).1 hj
      rw [he hall, if_pos (alli_iff.2 hall)]
    | succ k ih =>
      intro i h hb
      have hlt : i < l.length := by omega
      have hx := List.getElem?_eq_getElem hlt
      rw [hs i l[i] hx hlt hb]
      by_cases hp : q i l[i] = true
      · rw [if_pos hp]
        refine ih (i + 1) (by omega) fun j x hj hx' => ?_
        by_cases hji : j = i
        · subst hji
          rw [hx] at hx'
          cases hx'
          exact hp
        · exact hb j x (by omega) hx'
      · rw [if_neg hp, if_neg fun h => hp (alli_iff.1 h i _ hx)]
  exact key l.length 0 (by omega) fun j x h => by omega

theorem l1All_s {l : List Int} (hl : l.length ≤ 2000000) (lo hi : Int) : Ds_l1All l lo hi = some (alli (fun _ x => kIn x lo hi) l) := by
  rw [← ifB]
  exact all_goL (L := loop Bs_l1All) (S := fun i => .h1 lo hi l (l.length : Int) (i : Int)) (fun i x hx hlt _ => by
    rw [loop_eq]
    simp only [Bs_l1All]
    rw [if_pos (by omega), if_pos (by omega), Int.toNat_natCast, hx, Option.bind_some, kin_s, Option.bind_some, wsucc (by omega)]
    by_cases c : kIn x lo hi = true
    · rw [if_pos c, if_pos c]; rfl
    · rw [if_neg c, if_neg c]; rfl) fun _ => by
    rw [loop_eq]
    simp only [Bs_l1All]
    rw [if_neg (by omega)]
    rfl
theorem wpred {i : Nat} (h : i < 9223372036854775807) (h0 : 0 < i) : IntKind.wrap .i64 ((i : Int) - 1) = ((i - 1 : Nat) : Int) := by rw [w64 (by omega)]; omega
theorem three {x : List Int} (h : x.length = 3) : ∃ a b c, x = [a, b, c] := by
  match x, h with
  | [a, b, c], _ => exact ⟨a, b, c, rfl⟩
theorem mulB {x y M N : Int} (hx : 0 ≤ x ∧ x ≤ M) (hy : 0 ≤ y ∧ y ≤ N) : 0 ≤ x * y ∧ x * y ≤ M * N := by
  refine ⟨Int.mul_nonneg hx.1 hy.1, ?_⟩
  exact Int.mul_le_mul hx.2 hy.2 hy.1 (by omega)
/-- It gives something, and Q holds of it. -/
def Ok {α : Type} (o : Option α) (Q : α → Prop) : Prop := ∃ a, o = some a ∧ Q a
theorem Ok.ret {α : Type} {a : α} {Q : α → Prop} (h : Q a) : Ok (some a) Q := ⟨a, rfl, h⟩
theorem Ok.mono {α : Type} {o : Option α} {P Q : α → Prop} (h : Ok o P) (k : ∀ a, P a → Q a) : Ok o Q := by
  obtain ⟨a, e, h⟩ := h
  exact ⟨a, e, k a h⟩
theorem Ok.bind {α β : Type} {o : Option α} {f : α → Option β} {P : α → Prop} {Q : β → Prop} (h : Ok o P) (k : ∀ a, P a → Ok (f a) Q) : Ok (Option.bind o f) Q := by
  obtain ⟨a, rfl, h⟩ := h
  exact k a h
theorem Ok.ite {α : Type} {c : Prop} [Decidable c] {a b : Option α} {Q : α → Prop} (h1 : c → Ok a Q) (h2 : ¬ c → Ok b Q) : Ok (if c then a else b) Q := by
  by_cases h : c
  · rw [if_pos h]; exact h1 h
  · rw [if_neg h]; exact h2 h
theorem Ok.chk {α : Type} {c : Prop} [Decidable c] {a b : Option α} {Q : α → Prop} (h : c) (h1 : Ok a Q) : Ok (if c then a else b) Q := by
  rw [if_pos h]; exact h1
theorem Ok.els {α : Type} {c : Prop} [Decidable c] {a b : Option α} {Q : α → Prop} (h : ¬ c) (h1 : Ok b Q) : Ok (if c then a else b) Q := by
  rw [if_neg h]; exact h1
theorem Ok.get {α β : Type} {l : List α} {i : Nat} {f : α → Option β} {Q : β → Prop} (h : i < l.length) (k : ∀ x, l[i]? = some x → x ∈ l → Ok (f x) Q) : Ok (Option.bind l[i]? f) Q := by
  have e := List.getElem?_eq_getElem h
  rw [e]
  exact k _ e (List.mem_of_getElem? e)
theorem Ok.eq {α β : Type} {o : Option α} {a : α} {f : α → Option β} {Q : β → Prop} (e : o = some a) (k : Ok (f a) Q) : Ok (Option.bind o f) Q := by
  rw [e]; exact k
/-- A loop with an invariant and a measure. -/
theorem Ok.loop {σ ρ : Type} {B : σ → Option (σ ⊕ ρ)} {Q : ρ → Prop} (I : σ → Prop) (m : σ → Nat) (hs : ∀ s, I s → Ok (B s) fun o => match o with | .inl s' => I s' ∧ m s' < m s | .inr r => Q r) : ∀ {s}, I s → Ok (loop B s) Q := by
  have key : ∀ n s, m s < n → I s → Ok (Ab.loop B s) Q := by
    intro n
    induction n with
    | zero => intro s h; omega
    | succ n ih =>
      intro s hn hI
      obtain ⟨o, e, h⟩ := hs s hI
      rw [loop_eq, e]
      cases o with
      | inl s' => exact ih s' (by omega) h.1
      | inr r => exact ⟨r, rfl, h⟩
  intro s h
  exact key _ s (Nat.lt_succ_self _) h

theorem ltc {i n : Nat} (h : i < n) : ((i : Int) < (n : Int)) = True := by simp [h]
theorem nltc (n : Nat) : ((n : Int) < (n : Int)) = False := by simp
theorem nnc (i : Nat) : ((0 : Int) ≤ (i : Int)) = True := by simp

def nmB (s : ByteArray) : Bool := alli (fun i _ => decide (97 ≤ byteAt s i) && decide (byteAt s i ≤ 122)) (List.range s.size) && kIn s.size 1 8
theorem nm_i {s : ByteArray} (hs : s.size ≤ 2000000) : Di_isName s = some (nmB s) := by
  unfold Di_isName nmB
  refine all_loop2 (B := Bi_isName) (S := fun i => .h1 s (i : Int)) (fun i x hx hi _ => ?_) ?_
  · rw [List.length_range] at hi
    simp only [Bi_isName, ltc hi, nnc, if_true, Int.toNat_natCast, wsucc (show i < 9223372036854775807 by omega)]
    by_cases c1 : byteAt s i < 97
    · rw [if_pos (by omega), if_neg (by simp only [Bool.and_eq_true, decide_eq_true_eq]; omega)]
    · rw [if_neg (by omega)]
      by_cases c2 : byteAt s i > 122
      · rw [if_pos (by omega), if_neg (by simp only [Bool.and_eq_true, decide_eq_true_eq]; omega)]
      · rw [if_neg (by omega), if_pos (by simp only [Bool.and_eq_true, decide_eq_true_eq]; omega)]
  · simp only [Bi_isName, List.length_range, nltc, if_false, kin_i, Option.bind_some]
theorem nm_s {s : ByteArray} (hs : s.size ≤ 2000000) : Ds_rName s = some (nmB s) := by
  unfold Ds_rName nmB
  refine all_loop2 (B := Bs_rName) (S := fun i => .h1 s (i : Int)) (fun i x hx hi _ => ?_) ?_
  · rw [List.length_range] at hi
    simp only [Bs_rName, ltc hi, nnc, if_true, Int.toNat_natCast, wsucc (show i < 9223372036854775807 by omega)]
    by_cases c1 : byteAt s i < 97
    · rw [if_pos (by omega), if_neg (by simp only [Bool.and_eq_true, decide_eq_true_eq]; omega)]
    · rw [if_neg (by omega)]
      by_cases c2 : byteAt s i > 122
      · rw [if_pos (by omega), if_neg (by simp only [Bool.and_eq_true, decide_eq_true_eq]; omega)]
      · rw [if_neg (by omega), if_pos (by simp only [Bool.and_eq_true, decide_eq_true_eq]; omega)]
  · simp only [Bs_rName, List.length_range, nltc, if_false, kin_s, Option.bind_some]
def trIx (nm : ByteArray) (l : List Gi_Terrain) : Int := ix (fun t => t.Name == nm) l
def kdIx (nm : ByteArray) (l : List Gi_Kind) : Int := ix (fun t => t.Name == nm) l
theorem trIx_i {l : List Gi_Terrain} (hl : l.length ≤ 2000000) (nm : ByteArray) : Di_terrainIndex l nm = some (trIx nm l) := by
  have h : loop Bslices_IndexFunc_i_Terrain_i_terrainIndex_1 (.h1 l nm (l.length : Int) 0) = some (trIx nm l) := find_loop (B := Bslices_IndexFunc_i_Terrain_i_terrainIndex_1) (S := fun i => .h1 l nm (l.length : Int) (i : Int)) (p := fun t => t.Name == nm) (l := l) (fun i x hx hi => by
    simp only [Bslices_IndexFunc_i_Terrain_i_terrainIndex_1, ltc hi, nnc, if_true, Int.toNat_natCast, hx, Option.bind_some, Di_terrainIndex_1, wsucc (show i < 9223372036854775807 by omega)]) (by
    simp only [Bslices_IndexFunc_i_Terrain_i_terrainIndex_1, nltc, if_false])
  unfold Di_terrainIndex Dslices_IndexFunc_i_Terrain_i_terrainIndex_1
  rw [h]; rfl
theorem kdIx_i {l : List Gi_Kind} (hl : l.length ≤ 2000000) (nm : ByteArray) : Di_kindIndex l nm = some (kdIx nm l) := by
  have h : loop Bslices_IndexFunc_i_Kind_i_kindIndex_1 (.h1 l nm (l.length : Int) 0) = some (kdIx nm l) := find_loop (B := Bslices_IndexFunc_i_Kind_i_kindIndex_1) (S := fun i => .h1 l nm (l.length : Int) (i : Int)) (p := fun t => t.Name == nm) (l := l) (fun i x hx hi => by
    simp only [Bslices_IndexFunc_i_Kind_i_kindIndex_1, ltc hi, nnc, if_true, Int.toNat_natCast, hx, Option.bind_some, Di_kindIndex_1, wsucc (show i < 9223372036854775807 by omega)]) (by
    simp only [Bslices_IndexFunc_i_Kind_i_kindIndex_1, nltc, if_false])
  unfold Di_kindIndex Dslices_IndexFunc_i_Kind_i_kindIndex_1
  rw [h]; rfl
theorem trIx_s {l : List Gi_Terrain} (hl : l.length ≤ 2000000) (nm : ByteArray) : Ds_rTerrain l nm = some (trIx nm l) :=
  find_loop (B := Bs_rTerrain) (S := fun i => .h1 nm l (l.length : Int) (i : Int)) (p := fun t => t.Name == nm) (l := l) (fun i x hx hi => by
    simp only [Bs_rTerrain, ltc hi, nnc, if_true, Int.toNat_natCast, hx, Option.bind_some, beq_iff_eq, wsucc (show i < 9223372036854775807 by omega)]) (by
    simp only [Bs_rTerrain, nltc, if_false])
theorem kdIx_s {l : List Gi_Kind} (hl : l.length ≤ 2000000) (nm : ByteArray) : Ds_rKind l nm = some (kdIx nm l) :=
  find_loop (B := Bs_rKind) (S := fun i => .h1 nm l (l.length : Int) (i : Int)) (p := fun t => t.Name == nm) (l := l) (fun i x hx hi => by
    simp only [Bs_rKind, ltc hi, nnc, if_true, Int.toNat_natCast, hx, Option.bind_some, beq_iff_eq, wsucc (show i < 9223372036854775807 by omega)]) (by
    simp only [Bs_rKind, nltc, if_false])
theorem contains_cost {l : List Int} (hl : l.length ≤ 2000000) : Dslices_ContainsFunc_int_i_goodTerrain_1 l = some (!(alli (fun _ x => kIn x 0 9) l)) := by
  rw [← ifNB]
  have := all_goL (L := fun s => (loop Bslices_IndexFunc_int_i_goodTerrain_1 s).map fun r => decide (r ≥ 0)) (S := fun i => .h1 l (l.length : Int) (i : Int)) (l := l) (q := fun _ x => kIn x 0 9) (f := true) (r := some false) (fun i x hx hi _ => by
    rw [loop_eq]
    simp only [Bslices_IndexFunc_int_i_goodTerrain_1, ltc hi, nnc, if_true, Int.toNat_natCast, hx, Option.bind_some, Di_goodTerrain_1, kin_i, wsucc (show i < 9223372036854775807 by omega)]
    cases kIn x 0 9 <;> simp [goOn]) fun _ => by
    rw [loop_eq]
    simp only [Bslices_IndexFunc_int_i_goodTerrain_1, nltc, if_false]
    rfl
  refine Eq.trans ?_ this
  unfold Dslices_ContainsFunc_int_i_goodTerrain_1 Dslices_IndexFunc_int_i_goodTerrain_1
  cases loop Bslices_IndexFunc_int_i_goodTerrain_1 (.h1 l (l.length : Int) 0) <;> rfl
structure TrLen (t : Gi_Terrain) : Prop where
  n : t.Name.size ≤ 2000000
  c : t.Cost.length ≤ 2000000
structure RlLen (r : Gi_Rules) : Prop where
  t : r.Terrains.length ≤ 2000000
  ts : ∀ x ∈ r.Terrains, TrLen x
  k : r.Kinds.length ≤ 2000000
  ks : ∀ x ∈ r.Kinds, x.Name.size ≤ 2000000
def trOk (K : Nat) (t : Gi_Terrain) : Bool := nmB t.Name && decide (t.Cost.length = K) && kIn t.Shift (-3) 3 && kIn t.Height 0 3 && alli (fun _ x => kIn x 0 9) t.Cost
def kdOk (k : Gi_Kind) : Bool := nmB k.Name && kIn k.Strength 1 9 && kIn k.Moves 0 9 && kIn k.Steps 1 4 && kIn k.View 0 4
def rlEnd (r : Gi_Rules) : Bool := kIn r.Stack 1 4 && kIn r.River 0 9 && kIn r.Road 1 9 && kIn r.Supply 0 20 && kIn r.Turns 1 30
def rlG (r : Gi_Rules) : Bool := kIn r.Terrains.length 1 6 && kIn r.Kinds.length 1 4 && alli (fun i t => trOk r.Kinds.length t && decide (trIx t.Name r.Terrains = i)) r.Terrains && alli (fun i k => kdOk k && decide (kdIx k.Name r.Kinds = i)) r.Kinds && rlEnd r
theorem goodTr_i {t : Gi_Terrain} (h : TrLen t) (K : Nat) : Di_goodTerrain t (K : Int) = some (trOk K t) := by
  unfold Di_goodTerrain trOk
  simp only [nm_i h.n, Option.bind_some, kin_i, contains_cost h.c, Int.ofNat_inj, Bool.not_not]
  by_cases c1 : t.Cost.length = K
  · simp only [c1, decide_true, Bool.and_true, if_true]
    cases nmB t.Name <;> cases kIn t.Shift (-3) 3 <;> cases kIn t.Height 0 3 <;> simp
  · cases nmB t.Name <;> simp [c1]
theorem goodKd_i {k : Gi_Kind} (h : k.Name.size ≤ 2000000) : Di_goodKind k = some (kdOk k) := by
  unfold Di_goodKind kdOk
  simp only [nm_i h, Option.bind_some, kin_i]
  cases nmB k.Name <;> cases kIn k.Strength 1 9 <;> cases kIn k.Moves 0 9 <;> cases kIn k.Steps 1 4 <;> simp
theorem rlKinds_i {r : Gi_Rules} (h : RlLen r) : loop Bi_IsRules (.h2 r.Kinds (r.Kinds.length : Int) 0 r) = some (alli (fun i k => kdOk k && decide (kdIx k.Name r.Kinds = i)) r.Kinds && rlEnd r) := by
  have hk := h.k
  refine all_loop2 (B := Bi_IsRules) (S := fun i => .h2 r.Kinds (r.Kinds.length : Int) (i : Int) r) (fun i x hx hi _ => ?_) ?_
  · have hn := h.ks x (List.mem_of_getElem? hx)
    simp only [Bi_IsRules, ltc hi, nnc, if_true, Int.toNat_natCast, hx, Option.bind_some, goodKd_i hn, kdIx_i hk, wsucc (show i < 9223372036854775807 by omega)]
    by_cases c : kdIx x.Name r.Kinds = i
    · cases kdOk x <;> simp [c]
    · cases kdOk x <;> simp [c]
  · simp only [Bi_IsRules, nltc, if_false, kin_i, Option.bind_some, rlEnd]
    cases kIn r.Stack 1 4 <;> cases kIn r.River 0 9 <;> cases kIn r.Road 1 9 <;> cases kIn r.Supply 0 20 <;> simp
theorem rlKinds_s {r : Gi_Rules} (h : RlLen r) : loop Bs_rGood (.h2 r.Kinds (r.Kinds.length : Int) 0 r) = some (alli (fun i k => kdOk k && decide (kdIx k.Name r.Kinds = i)) r.Kinds && rlEnd r) := by
  have hk := h.k
  refine all_loop2 (B := Bs_rGood) (S := fun i => .h2 r.Kinds (r.Kinds.length : Int) (i : Int) r) (fun i x hx hi _ => ?_) ?_
  · have hn := h.ks x (List.mem_of_getElem? hx)
    simp only [Bs_rGood, ltc hi, nnc, if_true, Int.toNat_natCast, hx, Option.bind_some, nm_s hn, kin_s, kdIx_s hk, wsucc (show i < 9223372036854775807 by omega)]
    have b1 := Bool.eq_false_or_eq_true (nmB x.Name)
    have b2 := Bool.eq_false_or_eq_true (kIn x.Strength 1 9)
    have b3 := Bool.eq_false_or_eq_true (kIn x.Moves 0 9)
    have b4 := Bool.eq_false_or_eq_true (kIn x.Steps 1 4)
    have b5 := Bool.eq_false_or_eq_true (kIn x.View 0 4)
    by_cases c : kdIx x.Name r.Kinds = i
    · rcases b1 with b1 | b1 <;> rcases b2 with b2 | b2 <;> rcases b3 with b3 | b3 <;> rcases b4 with b4 | b4 <;> rcases b5 with b5 | b5 <;> simp [kdOk, c, b1, b2, b3, b4, b5]
    · rcases b1 with b1 | b1 <;> simp [kdOk, c, b1]
  · simp only [Bs_rGood, nltc, if_false, kin_s, Option.bind_some, rlEnd]
    cases kIn r.Stack 1 4 <;> cases kIn r.River 0 9 <;> cases kIn r.Road 1 9 <;> cases kIn r.Supply 0 20 <;> simp
theorem isRules_i {r : Gi_Rules} (h : RlLen r) : Di_IsRules r = some (rlG r) := by
  have ht := h.t
  have key := all_goL (L := loop Bi_IsRules) (S := fun i => .h1 r.Terrains (r.Terrains.length : Int) (i : Int) r) (l := r.Terrains) (q := fun i t => trOk r.Kinds.length t && decide (trIx t.Name r.Terrains = i)) (f := false) (r := some (alli (fun i k => kdOk k && decide (kdIx k.Name r.Kinds = i)) r.Kinds && rlEnd r)) (fun i x hx hi _ => by
      have hn := h.ts x (List.mem_of_getElem? hx)
      rw [loop_eq]
      simp only [Bi_IsRules, ltc hi, nnc, if_true, Int.toNat_natCast, hx, Option.bind_some, goodTr_i hn, trIx_i ht, wsucc (show i < 9223372036854775807 by omega)]
      by_cases c : trIx x.Name r.Terrains = i
      · cases trOk r.Kinds.length x <;> simp [c, goOn]
      · cases trOk r.Kinds.length x <;> simp [c, goOn]) fun _ => by
      rw [loop_eq]
      simp only [Bi_IsRules, nltc, if_false, goOn]
      exact rlKinds_i h
  unfold Di_IsRules
  simp only [kin_i, Option.bind_some, rlG]
  have key' : loop Bi_IsRules (.h1 r.Terrains (r.Terrains.length : Int) 0 r) = _ := key
  rw [key']
  cases kIn r.Terrains.length 1 6 <;> cases kIn r.Kinds.length 1 4 <;> cases alli (fun i t => trOk r.Kinds.length t && decide (trIx t.Name r.Terrains = i)) r.Terrains <;> simp
theorem isRules_s {r : Gi_Rules} (h : RlLen r) : Ds_rGood r = some (rlG r) := by
  have ht := h.t
  have key := all_goL (L := loop Bs_rGood) (S := fun i => .h1 r.Terrains (r.Terrains.length : Int) (i : Int) r) (l := r.Terrains) (q := fun i t => trOk r.Kinds.length t && decide (trIx t.Name r.Terrains = i)) (f := false) (r := some (alli (fun i k => kdOk k && decide (kdIx k.Name r.Kinds = i)) r.Kinds && rlEnd r)) (fun i x hx hi _ => by
      have hn := h.ts x (List.mem_of_getElem? hx)
      have hn1 := hn.n
      have hn2 := hn.c
      rw [loop_eq]
      simp only [Bs_rGood, ltc hi, nnc, if_true, Int.toNat_natCast, hx, Option.bind_some, nm_s hn1, l1All_s hn2, kin_s, trIx_s ht, wsucc (show i < 9223372036854775807 by omega), Int.ofNat_inj]
      have b1 := Bool.eq_false_or_eq_true (nmB x.Name)
      have b2 := Bool.eq_false_or_eq_true (kIn x.Shift (-3) 3)
      have b3 := Bool.eq_false_or_eq_true (kIn x.Height 0 3)
      have b4 := Bool.eq_false_or_eq_true (alli (fun _ x => kIn x 0 9) x.Cost)
      by_cases c : trIx x.Name r.Terrains = i
      · by_cases c1 : x.Cost.length = r.Kinds.length
        · rcases b1 with b1 | b1 <;> rcases b2 with b2 | b2 <;> rcases b3 with b3 | b3 <;> rcases b4 with b4 | b4 <;> simp [trOk, c, c1, b1, b2, b3, b4, goOn]
        · rcases b1 with b1 | b1 <;> simp [trOk, c, c1, b1, goOn]
      · rcases b1 with b1 | b1 <;> simp [trOk, c, b1, goOn]) fun _ => by
      rw [loop_eq]
      simp only [Bs_rGood, nltc, if_false, goOn]
      exact rlKinds_s h
  unfold Ds_rGood
  simp only [kin_s, Option.bind_some, rlG]
  have key' : loop Bs_rGood (.h1 r.Terrains (r.Terrains.length : Int) 0 r) = _ := key
  rw [key']
  cases kIn r.Terrains.length 1 6 <;> cases kIn r.Kinds.length 1 4 <;> cases alli (fun i t => trOk r.Kinds.length t && decide (trIx t.Name r.Terrains = i)) r.Terrains <;> simp
/-- What valid rules are. -/
structure RlOk (r : Gi_Rules) : Prop where
  t : 1 ≤ r.Terrains.length ∧ r.Terrains.length ≤ 6
  k : 1 ≤ r.Kinds.length ∧ r.Kinds.length ≤ 4
  ts : ∀ x ∈ r.Terrains, x.Cost.length = r.Kinds.length ∧ ∀ c ∈ x.Cost, 0 ≤ c ∧ c ≤ 9
  ks : ∀ x ∈ r.Kinds, (1 ≤ x.Strength ∧ x.Strength ≤ 9) ∧ (0 ≤ x.Moves ∧ x.Moves ≤ 9) ∧ (1 ≤ x.Steps ∧ x.Steps ≤ 4) ∧ (0 ≤ x.View ∧ x.View ≤ 4)
  sh : ∀ x ∈ r.Terrains, (-3 ≤ x.Shift ∧ x.Shift ≤ 3) ∧ (0 ≤ x.Height ∧ x.Height ≤ 3)
  e : (1 ≤ r.Stack ∧ r.Stack ≤ 4) ∧ (0 ≤ r.River ∧ r.River ≤ 9) ∧ (1 ≤ r.Road ∧ r.Road ≤ 9) ∧ (0 ≤ r.Supply ∧ r.Supply ≤ 20) ∧ (1 ≤ r.Turns ∧ r.Turns ≤ 30)
theorem rlG_ok {r : Gi_Rules} (h : rlG r = true) : RlOk r := by
  simp only [rlG, rlEnd, Bool.and_eq_true, kIn_iff] at h
  obtain ⟨⟨⟨⟨h1, h2⟩, h3⟩, h4⟩, h5⟩ := h
  have h3' := alli_iff.1 h3
  have h4' := alli_iff.1 h4
  refine ⟨by omega, by omega, fun x hx => ?_, fun x hx => ?_, fun x hx => ?_, by omega⟩
  · obtain ⟨i, hi⟩ := List.getElem?_of_mem hx
    have := h3' i x hi
    simp only [trOk, Bool.and_eq_true, decide_eq_true_eq, kIn_iff] at this
    refine ⟨this.1.1.1.1.2, fun c hc => ?_⟩
    obtain ⟨j, hj⟩ := List.getElem?_of_mem hc
    have := alli_iff.1 this.1.2 j c hj
    simpa [kIn_iff] using this
  · obtain ⟨i, hi⟩ := List.getElem?_of_mem hx
    have := h4' i x hi
    simp only [kdOk, Bool.and_eq_true, decide_eq_true_eq, kIn_iff] at this
    omega
  · obtain ⟨i, hi⟩ := List.getElem?_of_mem hx
    have := h3' i x hi
    simp only [trOk, Bool.and_eq_true, decide_eq_true_eq, kIn_iff] at this
    omega

/-- A loop that folds a list, in any setting. -/
theorem fold_goI {σ α A ρ : Type} {L : σ → Option ρ} {S : A → Nat → σ} {l : List α} {g : A → α → A} {I : Nat → A → Prop} {r : A → Option ρ}
    (hs : ∀ a i x, l[i]? = some x → i < l.length → I i a → L (S a i) = L (S (g a x) (i + 1)) ∧ I (i + 1) (g a x)) (he : ∀ a, I l.length a → L (S a l.length) = r a) {a : A} (ha : I 0 a) : L (S a 0) = r (l.foldl g a) ∧ I l.length (l.foldl g a) := by
  have key : ∀ (k i : Nat) a, i + k = l.length → I i a → L (S a i) = r ((l.drop i).foldl g a) ∧ I l.length ((l.drop i).foldl g a) := by
    intro k
    induction k with
    | zero =>
      intro i a h hI
      have : i = l.length := by omega
      subst this
      rw [he a hI, List.drop_of_length_le (Nat.le_refl _)]
      exact ⟨rfl, hI⟩
    | succ k ih =>
      intro i a h hI
      have hlt : i < l.length := by omega
      obtain ⟨h1, h2⟩ := hs a i l[i] (List.getElem?_eq_getElem hlt) hlt hI
      rw [h1, List.drop_eq_getElem_cons hlt]
      exact ih (i + 1) _ (by omega) h2
  simpa using key l.length 0 a (by omega) ha
/-- The places below n that f gives something of, collected. -/
theorem fm_goL {σ α ρ : Type} {L : σ → Option ρ} {S : Nat → List α → σ} {n : Nat} {f : Nat → Option α} {r : List α → Option ρ}
    (hs : ∀ i acc, i < n → acc.length ≤ i → L (S i acc) = L (S (i + 1) (match f i with | some a => acc ++ [a] | none => acc))) (he : ∀ acc, acc.length ≤ n → L (S n acc) = r acc) : L (S 0 []) = r ((List.range n).filterMap f) := by
  have key : ∀ (k i : Nat) acc, i + k = n → acc.length ≤ i → L (S i acc) = r (acc ++ (List.range' i k).filterMap f) := by
    intro k
    induction k with
    | zero =>
      intro i acc h hl
      have : i = n := by omega
      subst this
      rw [he acc hl]
      simp
    | succ k ih =>
      intro i acc h hl
      rw [hs i acc (by omega) hl, List.range'_succ, List.filterMap_cons]
      cases hf : f i with
      | none => exact ih (i + 1) acc (by omega) (by omega)
      | some a =>
        simp only
        rw [ih (i + 1) _ (by omega) (by simp; omega)]
        simp
  have := key n 0 [] (by omega) (by simp)
  rw [this, List.range_eq_range']
  rfl
theorem fm_len {α : Type} (f : Nat → Option α) (n : Nat) : ((List.range n).filterMap f).length ≤ n := by
  have := List.length_filterMap_le f (List.range n)
  simpa using this
theorem ap8 {α : Type} {l : List α} {x : α} (h : l.length ≤ 3000000) : (l ++ [x]).length * 8 ≤ 70368744177664 := by simp; omega
theorem if8 {α β : Type} {l : List α} {x : α} (h : l.length ≤ 3000000) (a b : β) : (if (l ++ [x]).length * 8 ≤ 70368744177664 then a else b) = a := if_pos (ap8 h)

structure BdLen (b : Gi_Board) : Prop where
  r : RlLen b.Rules
  m : MpLen b.Map
def bdG (b : Gi_Board) : Bool := rlG b.Rules && mpGood b.Map && alli (fun _ x => kIn x 0 (b.Rules.Terrains.length - 1)) b.Map.Terrain
theorem mpGood_terr {m : Gi_Map} (h : mpGood m = true) : ∀ x ∈ m.Terrain, 0 ≤ x ∧ x ≤ 5 := by
  simp only [mpGood, Bool.and_eq_true, List.all_eq_true] at h
  intro x hx
  have := h.1.1.2 x hx
  simpa [terrOk] using this
theorem contains_terr {b : Gi_Board} {l : List Int} (hl : l.length ≤ 2000000) : Dslices_ContainsFunc_int_i_IsBoard_1 l b = some (!(alli (fun _ (x : Int) => decide (x < b.Rules.Terrains.length)) l)) := by
  rw [← ifNB]
  have := all_goL (L := fun s => (loop Bslices_IndexFunc_int_i_IsBoard_1 s).map fun r => decide (r ≥ 0)) (S := fun i => .h1 l b (l.length : Int) (i : Int)) (l := l) (q := fun _ (x : Int) => decide (x < b.Rules.Terrains.length)) (f := true) (r := some false) (fun i x hx hi _ => by
    rw [loop_eq]
    simp only [Bslices_IndexFunc_int_i_IsBoard_1, ltc hi, nnc, if_true, Int.toNat_natCast, hx, Option.bind_some, Di_IsBoard_1, wsucc (show i < 9223372036854775807 by omega)]
    by_cases c : x < b.Rules.Terrains.length
    · have : ¬ x ≥ b.Rules.Terrains.length := by omega
      simp [c, this, goOn]
    · have : x ≥ b.Rules.Terrains.length := by omega
      simp [c, this, goOn]) fun _ => by
    rw [loop_eq]
    simp only [Bslices_IndexFunc_int_i_IsBoard_1, nltc, if_false]
    rfl
  refine Eq.trans ?_ this
  unfold Dslices_ContainsFunc_int_i_IsBoard_1 Dslices_IndexFunc_int_i_IsBoard_1
  cases loop Bslices_IndexFunc_int_i_IsBoard_1 (.h1 l b (l.length : Int) 0) <;> rfl
theorem isBoard_i {b : Gi_Board} (h : BdLen b) : Di_IsBoard b = some (bdG b) := by
  unfold Di_IsBoard bdG
  rw [isRules_i h.r, Option.bind_some]
  cases c1 : rlG b.Rules with
  | false => simp
  | true =>
    rw [isMap_i h.m]
    simp only [if_true, Option.bind_some]
    cases c2 : mpGood b.Map with
    | false => simp
    | true =>
      have ht := mpGood_terr c2
      simp only [if_true, contains_terr h.m.1, Option.bind_some, Bool.not_not, Bool.true_and, Option.some.injEq]
      rw [Bool.eq_iff_iff, alli_iff, alli_iff]
      constructor
      · intro k i x hx
        have h1 := k i x hx
        have h2 := ht x (List.mem_of_getElem? hx)
        simp only [decide_eq_true_eq] at h1
        exact kIn_iff.2 ⟨h2.1, by omega⟩
      · intro k i x hx
        have h1 := kIn_iff.1 (k i x hx)
        simp only [decide_eq_true_eq]
        omega
theorem isBoard_s {b : Gi_Board} (h : BdLen b) : Ds_bGood b = some (bdG b) := by
  have hr := h.r.t
  unfold Ds_bGood bdG
  rw [isRules_s h.r, Option.bind_some]
  cases c1 : rlG b.Rules with
  | false => simp
  | true =>
    rw [good_m h.m]
    simp only [if_true, Option.bind_some]
    cases c2 : mpGood b.Map with
    | false => simp
    | true =>
      rw [w64 (by omega)]
      simp only [if_true, l1All_s h.m.1, Option.bind_some, Bool.true_and]
/-- What a valid board is. -/
structure BdOk (b : Gi_Board) : Prop where
  r : RlOk b.Rules
  d : MpDim b.Map 10
  n : (b.Map.Terrain.length : Int) = b.Map.Width * b.Map.Height
  n2 : 1 ≤ b.Map.Terrain.length ∧ b.Map.Terrain.length ≤ 100
  t : ∀ x ∈ b.Map.Terrain, 0 ≤ x ∧ x < b.Rules.Terrains.length
theorem bdG_ok {b : Gi_Board} (h : bdG b = true) : BdOk b := by
  simp only [bdG, Bool.and_eq_true] at h
  obtain ⟨⟨h1, h2⟩, h3⟩ := h
  obtain ⟨d, n, _, _⟩ := mpGood_dim h2
  have hs := mpSize d
  refine ⟨rlG_ok h1, d, n, by omega, fun x hx => ?_⟩
  obtain ⟨i, hi⟩ := List.getElem?_of_mem hx
  have := kIn_iff.1 (alli_iff.1 h3 i x hi)
  omega
theorem BdOk.d100 {b : Gi_Board} (h : BdOk b) : MpDim b.Map 100 := by
  have := h.d
  unfold MpDim at this ⊢
  omega

def bdT (b : Gi_Board) (i : Int) : Gi_Terrain := match b.Map.Terrain[i.toNat]? with
  | some t => (match b.Rules.Terrains[t.toNat]? with
    | some x => x
    | none => ⟨⟨#[]⟩, [], 0, 0, false⟩)
  | none => ⟨⟨#[]⟩, [], 0, 0, false⟩
def bdC (b : Gi_Board) (k i : Int) : Int := match (bdT b i).Cost[k.toNat]? with
  | some c => c
  | none => 0
theorem bdT_b {b : Gi_Board} (h : BdOk b) {i : Int} (hi : 0 ≤ i ∧ i < b.Map.Terrain.length) : Di_terrainAt b i = some (bdT b i) ∧ Ds_bTerrain b i = some (bdT b i) ∧ bdT b i ∈ b.Rules.Terrains := by
  have h1 : b.Map.Terrain[i.toNat]? = some b.Map.Terrain[i.toNat] := List.getElem?_eq_getElem (by omega)
  have h2 := h.t _ (List.mem_of_getElem? h1)
  have h3 : b.Rules.Terrains[b.Map.Terrain[i.toNat].toNat]? = some b.Rules.Terrains[b.Map.Terrain[i.toNat].toNat] := List.getElem?_eq_getElem (by omega)
  have e : bdT b i = b.Rules.Terrains[b.Map.Terrain[i.toNat].toNat] := by
    unfold bdT
    rw [h1]
    simp only
    rw [h3]
  rw [e]
  unfold Di_terrainAt Ds_bTerrain
  rw [if_pos hi.1, h1, Option.bind_some, if_pos h2.1, h3]
  exact ⟨rfl, rfl, List.getElem_mem _⟩
theorem bdC_b {b : Gi_Board} (h : BdOk b) {k i : Int} (hk : 0 ≤ k ∧ k < b.Rules.Kinds.length) (hi : 0 ≤ i ∧ i < b.Map.Terrain.length) : Di_enterCost b k i = some (bdC b k i) ∧ Ds_bCost b k i = some (bdC b k i) ∧ 0 ≤ bdC b k i ∧ bdC b k i ≤ 9 := by
  obtain ⟨e1, e2, hm⟩ := bdT_b h hi
  obtain ⟨hl, hc⟩ := h.r.ts _ hm
  have h1 : (bdT b i).Cost[k.toNat]? = some (bdT b i).Cost[k.toNat] := List.getElem?_eq_getElem (by omega)
  have h2 := hc _ (List.mem_of_getElem? h1)
  have e : bdC b k i = (bdT b i).Cost[k.toNat] := by
    unfold bdC
    rw [h1]
  rw [e]
  unfold Di_enterCost Ds_bCost
  rw [e1, e2, Option.bind_some, if_pos hk.1, h1]
  exact ⟨rfl, rfl, h2⟩
def insL (x : Int) : List Int → List Int
  | [] => [x]
  | y :: r => if y < x then y :: insL x r else if y = x then y :: r else x :: y :: r
theorem put_at {x : Int} : ∀ (p s : List Int), (p ++ s).length ≤ 3000000 → (∀ y ∈ p, y < x) → loop Bs_l1Put_c0 (.h1 x (p.length : Int) (p ++ s)) = some (p ++ insL x s)
  | p, [], hl, hp => by
    rw [loop_eq]
    simp only [Bs_l1Put_c0, List.append_nil, nltc, if_false, insL]
    rw [if_pos (by omega), if_pos (by omega)]
    simp only [Int.toNat_natCast, List.drop_zero, Nat.sub_zero, List.take_length, List.drop_length, List.take_nil, List.append_nil, Nat.sub_self]
    simp only [List.append_nil] at hl
    rw [if_pos (by omega), if_pos (by simp; omega), if_pos (by omega), if_pos (by omega), if_pos (by simp; omega)]
    rfl
  | p, y :: s, hl, hp => by
    have hg : (p ++ y :: s)[p.length]? = some y := by rw [List.getElem?_append_right (Nat.le_refl _)]; simp
    have hlt : ((p.length : Int) < ((p ++ y :: s).length : Int)) := by simp; omega
    rw [loop_eq]
    simp only [Bs_l1Put_c0, hlt, if_true, nnc, Int.toNat_natCast, hg, Option.bind_some]
    simp only [List.length_append, List.length_cons] at hl
    by_cases c : y < x
    · have ih := put_at (x := x) (p ++ [y]) s (by simp; omega) (fun z hz => by
        rcases List.mem_append.1 hz with hz | hz
        · exact hp z hz
        · rw [List.mem_singleton.1 hz]; exact c)
      rw [if_pos c, wsucc (by omega)]
      simp only [goOn, insL, c, if_true]
      rw [List.length_append, List.length_singleton] at ih
      simp only [List.append_assoc, List.singleton_append] at ih
      exact ih
    · rw [if_neg c]
      by_cases c2 : y = x
      · rw [if_pos c2]
        simp only [goOn, insL, c2, Int.lt_irrefl, if_false, if_true]
      · rw [if_neg c2]
        have e1 : List.take p.length (List.drop 0 (p ++ y :: s)) = p := by simp
        have e2 : List.take ((p ++ y :: s).length - p.length) (List.drop p.length (p ++ y :: s)) = y :: s := by
          rw [List.drop_left]
          exact List.take_of_length_le (by simp)
        simp only [Nat.sub_zero, e1, e2]
        rw [if_pos (by simp; omega), if_pos (by omega), if_pos (by simp; omega), if_pos (by simp; omega), if_pos (by simp; omega)]
        simp only [goOn, insL, c, c2, if_false]
        simp
theorem put_s {x : Int} {l : List Int} (hl : l.length ≤ 3000000) : Ds_l1Put_c0 l x = some (insL x l) := by
  have := put_at (x := x) [] l (by simpa using hl) (by simp)
  unfold Ds_l1Put_c0
  simpa using this

theorem isIndex_i {x n : Int} (h : -1000000000 ≤ n ∧ n ≤ 1000000000) : Di_isIndex x n = some (kIn x 0 (n - 1)) := by
  unfold Di_isIndex
  rw [w64 (by omega), kin_i]
  rfl
theorem okPick {c : Gs_l1Cur} {k : Int} (h : Cu c k) (hk : k + 2 ≤ 1099511627776) (n : Int) : Ok (Ds_l1Cur_pick c n) fun r => (0 ≤ r.1 ∧ (1 ≤ n → r.1 < n) ∧ r.1 ≤ 65535) ∧ Cu r.2 (k + 2) := by
  obtain ⟨v, c', e, h1, h2⟩ := cuPick h hk n
  exact ⟨_, e, h1, h2⟩
theorem okOne {c : Gs_l1Cur} {k : Int} (h : Cu c k) (hk : k + 2 ≤ 1099511627776) (n : Int) : Ok (Ds_l1Cur_one c n) fun r => Cu r.2 (k + 2) := by
  obtain ⟨v, c', e, h2⟩ := cuOne h hk n
  exact ⟨_, e, h2⟩
theorem okAmong {c : Gs_l1Cur} {k : Int} (h : Cu c k) (hk : k + 2 ≤ 1099511627776) (l : List Int) (hl : 0 < l.length) : Ok (Ds_l1Cur_among c l) fun r => r.1 ∈ l ∧ Cu r.2 (k + 2) := by
  obtain ⟨v, c', e, h1, h2⟩ := cuAmong h hk l hl
  exact ⟨_, e, h1, h2⟩
theorem okOf {c : Gs_l1Cur} {k : Int} (h : Cu c k) (hk : k + 2 ≤ 1099511627776) (l : List ByteArray) (hl : 0 < l.length) : Ok (Ds_l1Cur_of c l) fun r => r.1 ∈ l ∧ Cu r.2 (k + 2) := by
  obtain ⟨v, c1, e1, hv, hc1⟩ := cuPick h hk l.length
  have := hv.2.1 (by omega)
  have hx : l[v.toNat]? = some l[v.toNat] := List.getElem?_eq_getElem (by omega)
  unfold Ds_l1Cur_of
  rw [e1, Option.bind_some, if_pos hv.1, hx, Option.bind_some]
  exact ⟨_, rfl, List.mem_of_getElem? hx, hc1⟩
/-- Rules, as drawn. -/
structure RlD (r : Gi_Rules) : Prop where
  t : 1 ≤ r.Terrains.length ∧ r.Terrains.length ≤ 20
  ts : ∀ x ∈ r.Terrains, x.Name.size ≤ 100 ∧ 1 ≤ x.Cost.length ∧ x.Cost.length ≤ 100
  k : 1 ≤ r.Kinds.length ∧ r.Kinds.length ≤ 20
  ks : ∀ x ∈ r.Kinds, x.Name.size ≤ 100
theorem RlD.len {r : Gi_Rules} (h : RlD r) : RlLen r where
  t := by have := h.t; omega
  ts := fun x hx => by have := h.ts x hx; exact ⟨by omega, by omega⟩
  k := by have := h.k; omega
  ks := fun x hx => by have := h.ks x hx; omega
def five : List ByteArray := [⟨#[112, 108, 97, 105, 110]⟩, ⟨#[119, 111, 111, 100]⟩, ⟨#[104, 105, 108, 108]⟩, ⟨#[115, 101, 97]⟩, ⟨#[116, 111, 119, 110]⟩]
theorem five_sz : ∀ x ∈ five, x.size ≤ 100 := by
  intro x hx
  simp only [five, List.mem_cons, List.not_mem_nil, or_false] at hx
  rcases hx with rfl | rfl | rfl | rfl | rfl <;> decide
def TrDs (l : List Gi_Terrain) : Prop := ∀ x ∈ l, x.Name.size ≤ 100 ∧ 1 ≤ x.Cost.length ∧ x.Cost.length ≤ 100
def KdDs (l : List Gi_Kind) : Prop := (1 ≤ l.length ∧ l.length ≤ 3) ∧ ∀ x ∈ l, x.Name.size ≤ 100
theorem TrDs.snoc {l : List Gi_Terrain} {x : Gi_Terrain} (h : TrDs l) (hx : x.Name.size ≤ 100 ∧ 1 ≤ x.Cost.length ∧ x.Cost.length ≤ 100) : TrDs (l ++ [x]) := fun y hy => by
  rcases List.mem_append.1 hy with hy | hy
  · exact h y hy
  · rw [List.mem_singleton.1 hy]; exact hx
def rlI (k : Int) : Ss_l1Cur_rules → Prop
  | .h1 t0 b1 _ _ _ _ _ _ _ _ _ _ l12 l13 => t0 = 0 ∧ Cu b1 k ∧ l12 = five ∧ KdDs l13
  | .h2 t0 t1 t2 b3 _ _ _ _ _ _ _ _ _ _ l14 b15 _ _ _ l19 => t0 = 0 ∧ t1 = (l19.length : Int) ∧ t2 = 0 ∧ Cu b3 (k + 12) ∧ l14 = five ∧ b15.size ≤ 100 ∧ KdDs l19
  | .h3 t0 t1 t2 b3 _ _ _ _ _ _ _ _ _ _ l14 b15 _ _ _ l19 l20 => t0 = 0 ∧ t1 = (l19.length : Int) ∧ 1 ≤ t2 ∧ t2 ≤ t1 ∧ Cu b3 (k + 12 + 2 * t2) ∧ l14 = five ∧ b15.size ≤ 100 ∧ KdDs l19 ∧ (l20.length : Int) = t2
  | .h4 t0 b1 _ _ _ _ _ _ _ _ _ _ l12 l13 l14 => 1 ≤ t0 ∧ t0 ≤ 5 ∧ Cu b1 (k + 30 * t0) ∧ l12 = five ∧ (l13.length : Int) = t0 ∧ TrDs l13 ∧ KdDs l14
  | .h5 t0 t1 t2 b3 _ _ _ _ _ _ _ _ _ _ l14 b15 _ _ _ l19 l20 => 1 ≤ t0 ∧ t0 ≤ 4 ∧ t1 = (l20.length : Int) ∧ t2 = 0 ∧ Cu b3 (k + 30 * t0 + 12) ∧ l14 = five ∧ b15.size ≤ 100 ∧ (l19.length : Int) = t0 ∧ TrDs l19 ∧ KdDs l20
  | .h6 t0 t1 t2 b3 _ _ _ _ _ _ _ _ _ _ l14 b15 _ _ _ l19 l20 l21 => 1 ≤ t0 ∧ t0 ≤ 4 ∧ t1 = (l20.length : Int) ∧ 1 ≤ t2 ∧ t2 ≤ t1 ∧ Cu b3 (k + 30 * t0 + 12 + 2 * t2) ∧ l14 = five ∧ b15.size ≤ 100 ∧ (l19.length : Int) = t0 ∧ TrDs l19 ∧ KdDs l20 ∧ (l21.length : Int) = t2
def rlM : Ss_l1Cur_rules → Nat
  | .h1 .. => 10000
  | .h2 .. => 9000
  | .h3 _ t1 t2 .. => 8000 + (t1 - t2).toNat
  | .h4 t0 .. => 100 * (10 - t0).toNat
  | .h5 t0 .. => 100 * (10 - t0).toNat - 1
  | .h6 t0 t1 t2 .. => 100 * (10 - t0).toNat - 50 + (t1 - t2).toNat
theorem okRulesLoop {k : Int} (hk : k + 200 ≤ 1099511627776) : ∀ {s}, rlI k s → Ok (loop Bs_l1Cur_rules s) fun r => RlD r.1 ∧ Cu r.2 (k + 200) := by
  refine Ok.loop (rlI k) rlM fun s hI => ?_
  match s, hI with
  | .h1 t0 b1 b2 b3 b4 b5 b6 b7 b8 b9 b10 b11 l12 l13, hI =>
    obtain ⟨rfl, hc, rfl, hkd⟩ := hI
    have hkl := hkd.1
    simp only [Bs_l1Cur_rules]
    refine Ok.bind (okPick hc (by omega) 4) fun r1 h1 => ?_
    obtain ⟨h1, hc1⟩ := h1
    rw [w64 (by omega)]
    refine Ok.chk (by omega) (Ok.els (by decide) (Ok.chk (by decide) (Ok.get (by decide) fun x hx hm => ?_)))
    refine Ok.bind (okPick hc1 (by omega) 3) fun r6 h6 => Ok.bind (okPick h6.2 (by omega) 2) fun r7 h7 => Ok.bind (okPick h7.2 (by omega) 3) fun r8 h8 => Ok.els (by decide) (Ok.ret ?_)
    exact ⟨⟨rfl, rfl, rfl, h8.2.mono (by omega) (by omega), rfl, five_sz _ hm, hkd⟩, by simp [rlM]⟩
  | .h2 t0 t1 t2 b3 b4 b5 b6 b7 b8 b9 b10 b11 b12 b13 l14 b15 b16 b17 b18 l19, hI =>
    obtain ⟨rfl, rfl, rfl, hc, rfl, hn, hkd⟩ := hI
    have hkl := hkd.1
    simp only [Bs_l1Cur_rules]
    refine Ok.chk (by omega) (Ok.els (by decide) (Ok.chk (by decide) (Ok.ret ?_)))
    exact ⟨⟨rfl, rfl, by decide, by rw [show IntKind.wrap .i64 (0 + 1) = 1 from by decide]; omega, hc.mono (by rw [show IntKind.wrap .i64 (0 + 1) = 1 from by decide]; omega) (by rw [show IntKind.wrap .i64 (0 + 1) = 1 from by decide]; omega), rfl, hn, hkd, rfl⟩, by simp only [rlM]; rw [show IntKind.wrap .i64 (0 + 1) = 1 from by decide]; omega⟩
  | .h3 t0 t1 t2 b3 b4 b5 b6 b7 b8 b9 b10 b11 b12 b13 l14 b15 b16 b17 b18 l19 l20, hI =>
    obtain ⟨rfl, rfl, ht1, ht2, hc, rfl, hn, hkd, hl⟩ := hI
    have hkl := hkd.1
    simp only [Bs_l1Cur_rules]
    refine Ok.ite (fun c => Ok.els (by decide) (Ok.chk (by simp; omega) (Ok.ret ?_))) fun c => Ok.chk (by simp) (Ok.ret ?_)
    · have e : IntKind.wrap .i64 (t2 + 1) = t2 + 1 := w64 (by omega)
      exact ⟨⟨rfl, rfl, by omega, by omega, hc.mono (by omega) (by omega), rfl, hn, hkd, by simp; omega⟩, by simp only [rlM]; omega⟩
    · refine ⟨⟨by decide, by decide, hc.mono (by rw [show IntKind.wrap .i64 (0 + 1) = 1 from by decide]; omega) (by rw [show IntKind.wrap .i64 (0 + 1) = 1 from by decide]; omega), rfl, rfl, fun x hx => ?_, hkd⟩, by simp only [rlM]; rw [show IntKind.wrap .i64 (0 + 1) = 1 from by decide]; omega⟩
      rw [List.mem_singleton.1 hx]
      exact ⟨hn, by simp only; omega, by simp only; omega⟩
  | .h4 t0 b1 b2 b3 b4 b5 b6 b7 b8 b9 b10 b11 l12 l13 l14, hI =>
    obtain ⟨ht1, ht2, hc, rfl, hl, htr, hkd⟩ := hI
    have hkl := hkd.1
    simp only [Bs_l1Cur_rules]
    refine Ok.bind (okPick hc (by omega) 4) fun r1 h1 => ?_
    obtain ⟨h1, hc1⟩ := h1
    rw [w64 (n := 2 + r1.1) (by omega)]
    have done : RlD ⟨l13, l14, b7, b8, b9, b10, b11⟩ ∧ Cu r1.2 (k + 200) := ⟨⟨by simp only; omega, htr, by simp only; omega, hkd.2⟩, hc1.mono (by omega) (by omega)⟩
    refine Ok.ite (fun c => Ok.ite (fun c2 => Ok.ret done) fun c2 => ?_) fun c => Ok.ret done
    have hf : (five.length : Int) = 5 := rfl
    rw [hf] at c2
    refine Ok.chk (by omega) (Ok.get (show t0.toNat < 5 by omega) fun x hx hm => ?_)
    refine Ok.bind (okPick hc1 (by omega) 3) fun r6 h6 => Ok.bind (okPick h6.2 (by omega) 2) fun r7 h7 => Ok.bind (okPick h7.2 (by omega) 3) fun r8 h8 => Ok.chk (by omega) (Ok.bind (okOne h8.2 (by omega) 3) fun r10 h10 => Ok.ret ?_)
    exact ⟨⟨ht1, by omega, rfl, rfl, h10.mono (by omega) (by omega), rfl, five_sz _ hm, hl, htr, hkd⟩, by simp only [rlM]; omega⟩
  | .h5 t0 t1 t2 b3 b4 b5 b6 b7 b8 b9 b10 b11 b12 b13 l14 b15 b16 b17 b18 l19 l20, hI =>
    obtain ⟨ht1, ht2, rfl, rfl, hc, rfl, hn, hl, htr, hkd⟩ := hI
    have hkl := hkd.1
    have e1 : IntKind.wrap .i64 (0 + 1) = 1 := by decide
    simp only [Bs_l1Cur_rules]
    refine Ok.chk (by omega) (Ok.chk (by omega) (Ok.bind (okPick hc (by omega) 4) fun r3 h3 => Ok.chk (by simp) (Ok.ret ?_)))
    exact ⟨⟨ht1, ht2, rfl, by omega, by omega, h3.2.mono (by omega) (by omega), rfl, hn, hl, htr, hkd, by rw [e1]; rfl⟩, by simp only [rlM]; omega⟩
  | .h6 t0 t1 t2 b3 b4 b5 b6 b7 b8 b9 b10 b11 b12 b13 l14 b15 b16 b17 b18 l19 l20 l21, hI =>
    obtain ⟨ht1, ht2, rfl, ht3, ht4, hc, rfl, hn, hl, htr, hkd, hl2⟩ := hI
    have hkl := hkd.1
    have e1 : IntKind.wrap .i64 (t2 + 1) = t2 + 1 := w64 (by omega)
    have e2 : IntKind.wrap .i64 (t0 + 1) = t0 + 1 := w64 (by omega)
    simp only [Bs_l1Cur_rules]
    refine Ok.ite (fun c => Ok.chk (by omega) (Ok.bind (okPick hc (by omega) 4) fun r3 h3 => Ok.chk (by simp; omega) (Ok.ret ?_))) fun c => Ok.chk (by simp; omega) (Ok.ret ?_)
    · exact ⟨⟨ht1, ht2, rfl, by omega, by omega, h3.2.mono (by omega) (by omega), rfl, hn, hl, htr, hkd, by simp; omega⟩, by simp only [rlM]; omega⟩
    · exact ⟨⟨by omega, by omega, hc.mono (by omega) (by omega), rfl, by simp; omega, htr.snoc ⟨hn, by simp only; omega, by simp only; omega⟩, hkd⟩, by simp only [rlM]; omega⟩
theorem okRules {c : Gs_l1Cur} {k : Int} (h : Cu c k) (hk : k + 300 ≤ 1099511627776) : Ok (Ds_l1Cur_rules c) fun r => RlD r.1 ∧ Cu r.2 (k + 300) := by
  unfold Ds_l1Cur_rules
  refine Ok.bind (okPick h (by omega) 3) fun r1 h1 => Ok.bind (okPick h1.2 (by omega) 4) fun r2 h2 => Ok.bind (okPick h2.2 (by omega) 3) fun r3 h3 => Ok.bind (okPick h3.2 (by omega) 2) fun r4 h4 => Ok.bind (okPick h4.2 (by omega) 4) fun r5 h5 => Ok.bind (okPick h5.2 (by omega) 6) fun r6 h6 => Ok.bind (okPick h6.2 (by omega) 2) fun r7 h7 => Ok.bind (okOne h7.2 (by omega) 2) fun r8 h8 => Ok.bind (okPick h8 (by omega) 6) fun r9 h9 => Ok.bind (okPick h9.2 (by omega) 3) fun r10 h10 => Ok.bind (okPick h10.2 (by omega) 3) fun r11 h11 => Ok.bind (okPick h11.2 (by omega) 3) fun r12 h12 => ?_
  rw [w64 (n := 1 + r12.1) (by omega)]
  refine Ok.chk (by omega) (Ok.chk (by simp; omega) ?_)
  refine Ok.bind (okPick h12.2 (by omega) 3) fun r15 h15 => Ok.bind (okPick h15.2 (by omega) 3) fun r16 h16 => Ok.bind (okPick h16.2 (by omega) 8) fun r17 h17 => Ok.bind (okPick h17.2 (by omega) 8) fun r18 h18 => ?_
  refine Ok.mono (okRulesLoop (k := k + 40) (by omega) ?_) fun r hr => ⟨hr.1, hr.2.mono (by omega) (by omega)⟩
  refine ⟨rfl, h18.2.mono (by omega) (by omega), rfl, ⟨?_, ?_⟩, fun x hx => ?_⟩
  · simp; omega
  · simp; omega
  · have := List.mem_of_mem_drop (List.mem_of_mem_take hx)
    simp only [List.mem_cons, List.not_mem_nil, or_false] at this
    rcases this with rfl | rfl | rfl <;> simp only <;> decide
/-- Rules, perhaps spoilt. -/
theorem okAnyRules {c : Gs_l1Cur} {k : Int} (h : Cu c k) (hk : k + 310 ≤ 1099511627776) : Ok (Ds_l1Cur_anyRules c) fun r => RlLen r.1 ∧ (1 ≤ r.1.Kinds.length ∧ r.1.Kinds.length ≤ 30) ∧ Cu r.2 (k + 310) := by
  unfold Ds_l1Cur_anyRules
  refine Ok.bind (okRules h (by omega)) fun r1 h1 => Ok.bind (okPick h1.2 (by omega) 30) fun r2 h2 => ?_
  obtain ⟨hd, _⟩ := h1
  have hc2 := h2.2
  have ht := hd.t
  have hkk := hd.k
  have hl := hd.len
  have fin : ∀ {c'}, Cu c' (k + 300 + 2 + 2) → Cu c' (k + 310) := fun hc => hc.mono (by omega) (by omega)
  have setT : ∀ y : Gi_Terrain, TrLen y → RlLen ⟨List.set r1.1.Terrains (Int.toNat 0) y, r1.1.Kinds, r1.1.Stack, r1.1.River, r1.1.Road, r1.1.Supply, r1.1.Turns⟩ := fun y hy => ⟨by simp only [List.length_set]; omega, fun x hx => by
    rcases List.mem_or_eq_of_mem_set hx with hx | rfl
    · exact hl.ts x hx
    · exact hy, hl.k, hl.ks⟩
  refine Ok.ite (fun _ => ?_) fun _ => Ok.ite (fun _ => ?_) fun _ => Ok.ite (fun _ => ?_) fun _ => Ok.ite (fun _ => ?_) fun _ => Ok.ite (fun _ => ?_) fun _ => Ok.ite (fun _ => ?_) fun _ => Ok.ite (fun _ => ?_) fun _ => ?_
  · refine Ok.get (show 0 < r1.1.Terrains.length by omega) fun x hx hm => ?_
    have := hd.ts x hm
    refine Ok.bind (okAmong hc2 (by omega) _ (by decide)) fun r5 h5 => Ok.get (show 0 < x.Cost.length by omega) fun y hy _ => Ok.ret ⟨setT _ ⟨by simp only; omega, by simp only [List.length_set]; omega⟩, by simp only; omega, fin h5.2⟩
  · refine Ok.bind (okOf hc2 (by omega) _ (by decide)) fun r5 h5 => Ok.get (show 0 < r1.1.Terrains.length by omega) fun x hx hm => ?_
    have := hd.ts x hm
    have hs : r5.1.size ≤ 100 := by
      have := h5.1
      simp only [List.mem_cons, List.not_mem_nil, or_false] at this
      rcases this with e | e | e | e | e <;> rw [e] <;> decide
    exact Ok.ret ⟨setT _ ⟨by simp only; omega, by simp only; omega⟩, by simp only; omega, fin h5.2⟩
  · refine Ok.bind (okAmong hc2 (by omega) _ (by decide)) fun r5 h5 => Ok.get (show 0 < r1.1.Kinds.length by omega) fun x hx hm => Ok.ret ⟨⟨hl.t, hl.ts, by simp only [List.length_set]; omega, fun y hy => ?_⟩, by simp only [List.length_set]; omega, fin h5.2⟩
    rcases List.mem_or_eq_of_mem_set hy with hy | rfl
    · exact hl.ks y hy
    · exact hl.ks x hm
  · refine Ok.get (show 0 < r1.1.Kinds.length by omega) fun x hx hm => Ok.chk (by simp; omega) (Ok.ret ⟨⟨hl.t, hl.ts, by simp; omega, fun y hy => ?_⟩, by simp; omega, hc2.mono (by omega) (by omega)⟩)
    rcases List.mem_append.1 hy with hy | hy
    · exact hl.ks y hy
    · rw [List.mem_singleton.1 hy]; exact hl.ks x hm
  · exact Ok.bind (okAmong hc2 (by omega) _ (by decide)) fun r5 h5 => Ok.ret ⟨⟨hl.t, hl.ts, hl.k, hl.ks⟩, by simp only; omega, fin h5.2⟩
  · exact Ok.bind (okAmong hc2 (by omega) _ (by decide)) fun r5 h5 => Ok.ret ⟨⟨hl.t, hl.ts, hl.k, hl.ks⟩, by simp only; omega, fin h5.2⟩
  · refine Ok.bind (okAmong hc2 (by omega) _ (by decide)) fun r5 h5 => Ok.get (show 0 < r1.1.Terrains.length by omega) fun x hx hm => ?_
    have := hd.ts x hm
    exact Ok.ret ⟨setT _ ⟨by simp only; omega, by simp only; omega⟩, by simp only; omega, fin h5.2⟩
  · exact Ok.ret ⟨hl, by simp only; omega, hc2.mono (by omega) (by omega)⟩
theorem okEdges {m : Gi_Map} (hd : MpDim m 10) {c : Gs_l1Cur} {k : Int} (h : Cu c k) (hk : k + 40 ≤ 1099511627776) : Ok (Ds_l1Cur_edges c m) fun r => r.1.length ≤ 100 ∧ Cu r.2 (k + 40) := by
  obtain ⟨l, c', e, h1, h2⟩ := cuEdges hd h hk
  exact ⟨_, e, h2, h1⟩
def mpI (k T W H : Int) : Ss_l1Cur_mapOf → Prop
  | .h1 t i b2 _ _ b5 b6 => t = T ∧ i = 0 ∧ Cu b2 k ∧ b5 = W ∧ b6 = H
  | .h2 t i b2 _ _ b5 b6 l7 => t = T ∧ 1 ≤ i ∧ i ≤ W * H ∧ Cu b2 (k + 4 * i) ∧ b5 = W ∧ b6 = H ∧ (l7.length : Int) = i
def mpM (W H : Int) : Ss_l1Cur_mapOf → Nat
  | .h1 .. => 1000
  | .h2 _ i .. => (W * H - i).toNat
theorem okMapLoop {k T W H : Int} (hd : MpDim ⟨W, H, [], [], []⟩ 10) (hk : k + 1000 ≤ 1099511627776) : ∀ {s}, mpI k T W H s → Ok (loop Bs_l1Cur_mapOf s) fun r => MpDrawn r.1 ∧ Cu r.2 (k + 600) := by
  have hs := mpSize hd
  simp only at hs
  have hS : ∀ l : List Int, Ds_mSize ⟨W, H, l, [], []⟩ = some (W * H) := fun l => mSize_s (m := ⟨W, H, l, [], []⟩) (b := 10) hd (by decide)
  intro s0 h0
  refine Ok.loop (mpI k T W H) (mpM W H) (fun s hI => ?_) h0
  match s, hI with
  | .h1 t i b2 b3 b4 b5 b6, hI =>
    obtain ⟨rfl, rfl, hc, rfl, rfl⟩ := hI
    simp only [Bs_l1Cur_mapOf]
    refine Ok.eq (hS []) (Ok.chk (by omega) (Ok.bind (okOne hc (by omega) 3) fun r3 h3 => Ok.ite (fun _ => Ok.bind (okPick h3 (by omega) _) fun r5 h5 => Ok.chk (by simp) (Ok.ret ?_)) fun _ => Ok.chk (by simp) (Ok.ret ?_)))
    · exact ⟨⟨rfl, by decide, by rw [show IntKind.wrap .i64 (0 + 1) = 1 from by decide]; omega, h5.2.mono (by rw [show IntKind.wrap .i64 (0 + 1) = 1 from by decide]; omega) (by rw [show IntKind.wrap .i64 (0 + 1) = 1 from by decide]; omega), rfl, rfl, rfl⟩, by simp only [mpM]; rw [show IntKind.wrap .i64 (0 + 1) = 1 from by decide]; omega⟩
    · exact ⟨⟨rfl, by decide, by rw [show IntKind.wrap .i64 (0 + 1) = 1 from by decide]; omega, h3.mono (by rw [show IntKind.wrap .i64 (0 + 1) = 1 from by decide]; omega) (by rw [show IntKind.wrap .i64 (0 + 1) = 1 from by decide]; omega), rfl, rfl, rfl⟩, by simp only [mpM]; rw [show IntKind.wrap .i64 (0 + 1) = 1 from by decide]; omega⟩
  | .h2 t i b2 b3 b4 b5 b6 l7, hI =>
    obtain ⟨rfl, hi1, hi2, hc, rfl, rfl, hl⟩ := hI
    simp only [Bs_l1Cur_mapOf]
    refine Ok.eq (hS l7) (Ok.ite (fun cc => ?_) fun cc => ?_)
    · have e : IntKind.wrap .i64 (i + 1) = i + 1 := w64 (by omega)
      refine Ok.bind (okOne hc (by omega) 3) fun r3 h3 => Ok.ite (fun _ => Ok.bind (okPick h3 (by omega) _) fun r5 h5 => Ok.chk (by simp; omega) (Ok.ret ?_)) fun _ => Ok.chk (by simp; omega) (Ok.ret ?_)
      · exact ⟨⟨rfl, by omega, by omega, h5.2.mono (by omega) (by omega), rfl, rfl, by simp; omega⟩, by simp only [mpM]; omega⟩
      · exact ⟨⟨rfl, by omega, by omega, h3.mono (by omega) (by omega), rfl, rfl, by simp; omega⟩, by simp only [mpM]; omega⟩
    · have hd1 : MpDim ⟨b5, b6, l7, [], []⟩ 10 := hd
      refine Ok.bind (okEdges hd1 hc (by omega)) fun r3 h3 => ?_
      have hd2 : MpDim ⟨b5, b6, l7, r3.1, []⟩ 10 := hd
      exact Ok.bind (okEdges hd2 h3.2 (by omega)) fun r4 h4 => Ok.ret ⟨⟨hd, by simp only; omega, by simp only; omega, h3.1, h4.1⟩, h4.2.mono (by omega) (by omega)⟩
theorem okMapOf {c : Gs_l1Cur} {k : Int} (h : Cu c k) (hk : k + 1100 ≤ 1099511627776) (T : Int) : Ok (Ds_l1Cur_mapOf c T) fun r => MpDrawn r.1 ∧ Cu r.2 (k + 700) := by
  unfold Ds_l1Cur_mapOf
  refine Ok.bind (okPick h (by omega) 6) fun r1 h1 => Ok.bind (okPick h1.2 (by omega) 6) fun r2 h2 => ?_
  have v1 := h1.1.2.1 (by omega)
  have v2 := h2.1.2.1 (by omega)
  rw [w64 (n := 1 + r1.1) (by omega), w64 (n := 1 + r2.1) (by omega)]
  refine Ok.mono (okMapLoop (k := k + 4) (T := T) (W := 1 + r1.1) (H := 1 + r2.1) ?_ (by omega) ?_) fun r hr => ⟨hr.1, hr.2.mono (by omega) (by omega)⟩
  · unfold MpDim; simp only; omega
  · exact ⟨rfl, rfl, h2.2.mono (by omega) (by omega), rfl, rfl⟩
theorem MpDrawn.len {m : Gi_Map} (h : MpDrawn m) : MpLen m := by
  have := h.t2
  have := h.r
  have := h.o
  exact ⟨by omega, by omega, by omega⟩
theorem okAnyMap {c : Gs_l1Cur} {k : Int} (h : Cu c k) (hk : k + 1100 ≤ 1099511627776) : Ok (Ds_l1Cur_anyMap c) fun r => MpLen r.1 ∧ Cu r.2 (k + 1100) := by
  obtain ⟨m, c', e, h1, h2⟩ := cuAnyMap h hk
  exact ⟨_, e, h2, h1⟩
/-- A board, as drawn. -/
structure BdD (b : Gi_Board) : Prop where
  len : BdLen b
  k : 1 ≤ b.Rules.Kinds.length ∧ b.Rules.Kinds.length ≤ 30
theorem okBoard {c : Gs_l1Cur} {k : Int} (h : Cu c k) (hk : k + 1500 ≤ 1099511627776) : Ok (Ds_l1Cur_board c) fun r => BdD r.1 ∧ Cu r.2 (k + 1000) := by
  unfold Ds_l1Cur_board
  refine Ok.bind (okRules h (by omega)) fun r1 h1 => Ok.bind (okMapOf h1.2 (by omega) _) fun r2 h2 => Ok.ret ⟨⟨⟨h1.1.len, h2.1.len⟩, ?_⟩, h2.2.mono (by omega) (by omega)⟩
  have := h1.1.k
  simp only
  omega
theorem okAnyBoard {c : Gs_l1Cur} {k : Int} (h : Cu c k) (hk : k + 2500 ≤ 1099511627776) : Ok (Ds_l1Cur_anyBoard c) fun r => BdD r.1 ∧ Cu r.2 (k + 2500) := by
  unfold Ds_l1Cur_anyBoard
  refine Ok.bind (okBoard h (by omega)) fun r1 h1 => Ok.bind (okPick h1.2 (by omega) 24) fun r2 h2 => Ok.ite (fun _ => ?_) fun _ => Ok.ite (fun _ => ?_) fun _ => ?_
  · exact Ok.bind (okAnyRules h2.2 (by omega)) fun r4 h4 => Ok.ret ⟨⟨⟨h4.1, h1.1.len.m⟩, h4.2.1⟩, h4.2.2.mono (by omega) (by omega)⟩
  · exact Ok.bind (okAnyMap h2.2 (by omega)) fun r4 h4 => Ok.ret ⟨⟨⟨h1.1.len.r, h4.1⟩, h1.1.k⟩, h4.2.mono (by omega) (by omega)⟩
  · exact Ok.ret ⟨h1.1, h2.2.mono (by omega) (by omega)⟩
theorem okPlace {c : Gs_l1Cur} {k : Int} (h : Cu c k) (hk : k + 4 ≤ 1099511627776) (m : Gi_Map) : Ok (Ds_l1Cur_place c m) fun r => Cu r.2 (k + 4) := by
  obtain ⟨v, c', e, h1⟩ := cuPlace h hk m
  exact ⟨_, e, h1⟩
def unOk (b : Gi_Board) (u : Gi_Unit) : Bool := kIn u.Side 0 1 && kIn u.Kind 0 (b.Rules.Kinds.length - 1) && match b.Rules.Kinds[u.Kind.toNat]? with
  | some x => kIn u.Steps 0 x.Steps && (decide (u.At = -1) || (decide (u.Steps > 0) && kIn u.At 0 (b.Map.Terrain.length - 1) && decide (bdC b u.Kind u.At ≠ 0)))
  | none => false
theorem unOk_i {b : Gi_Board} (h : BdOk b) (u : Gi_Unit) : Di_goodUnit b u = some (unOk b u) := by
  have hk := h.r.k
  have hn := h.n2
  unfold Di_goodUnit unOk Di_isSide
  simp only [kin_i, Option.bind_some, isIndex_i (x := u.Kind) (n := (b.Rules.Kinds.length : Int)) (by omega)]
  cases c1 : kIn u.Side 0 1 with
  | false => simp
  | true =>
    cases c2 : kIn u.Kind 0 (b.Rules.Kinds.length - 1) with
    | false => simp
    | true =>
      have hkd := kIn_iff.1 c2
      have hx : b.Rules.Kinds[u.Kind.toNat]? = some b.Rules.Kinds[u.Kind.toNat] := List.getElem?_eq_getElem (by omega)
      simp only [if_true, hkd.1, hx, Option.bind_some, Bool.true_and]
      cases c3 : kIn u.Steps 0 b.Rules.Kinds[u.Kind.toNat].Steps with
      | false => simp
      | true =>
        simp only [if_true, Di_sizeOf, Option.bind_some, Bool.true_and, isIndex_i (x := u.At) (n := (b.Map.Terrain.length : Int)) (by omega)]
        by_cases c4 : u.At = -1
        · simp [c4]
        · by_cases c5 : u.Steps > 0
          · cases c6 : kIn u.At 0 (b.Map.Terrain.length - 1) with
            | false => simp [c4]
            | true =>
              have ha := kIn_iff.1 c6
              rw [(bdC_b h (k := u.Kind) (i := u.At) (by omega) (by omega)).1]
              by_cases c7 : bdC b u.Kind u.At = 0 <;> simp [c4, c5, c7]
          · simp [c4, c5]
theorem unOk_s {b : Gi_Board} (h : BdOk b) (u : Gi_Unit) : Ds_sUnit b u = some (unOk b u) := by
  have hk := h.r.k
  have hn := h.n2
  unfold Ds_sUnit unOk
  simp only [kin_s, Option.bind_some, w64 (n := (b.Rules.Kinds.length : Int) - 1) (by omega)]
  cases c1 : kIn u.Side 0 1 with
  | false => simp
  | true =>
    cases c2 : kIn u.Kind 0 (b.Rules.Kinds.length - 1) with
    | false => simp
    | true =>
      have hkd := kIn_iff.1 c2
      have hx : b.Rules.Kinds[u.Kind.toNat]? = some b.Rules.Kinds[u.Kind.toNat] := List.getElem?_eq_getElem (by omega)
      simp only [if_true, hkd.1, hx, Option.bind_some, Bool.true_and]
      cases c3 : kIn u.Steps 0 b.Rules.Kinds[u.Kind.toNat].Steps with
      | false => simp
      | true =>
        rw [mSize_s h.d (by decide), ← h.n]
        simp only [if_true, Option.bind_some, Bool.true_and, w64 (n := (b.Map.Terrain.length : Int) - 1) (by omega)]
        by_cases c4 : u.At = -1
        · simp [c4]
        · by_cases c5 : u.Steps > 0
          · cases c6 : kIn u.At 0 (b.Map.Terrain.length - 1) with
            | false => simp [c4]
            | true =>
              have ha := kIn_iff.1 c6
              obtain ⟨_, e, h0, _⟩ := bdC_b h (k := u.Kind) (i := u.At) (by omega) (by omega)
              rw [e]
              have : decide (bdC b u.Kind u.At > 0) = decide (bdC b u.Kind u.At ≠ 0) := by
                rw [decide_eq_decide]; omega
              simp only [if_pos c5, if_neg c4, if_true, Option.bind_some, this]
              simp [c4, c5]
          · simp [c4, c5]
/-- What a valid unit is. -/
structure UnOk (b : Gi_Board) (u : Gi_Unit) : Prop where
  s : u.Side = 0 ∨ u.Side = 1
  k : 0 ≤ u.Kind ∧ u.Kind < b.Rules.Kinds.length
  st : 0 ≤ u.Steps ∧ u.Steps ≤ 4
  a : u.At = -1 ∨ 0 < u.Steps ∧ 0 ≤ u.At ∧ u.At < b.Map.Terrain.length ∧ bdC b u.Kind u.At ≠ 0
theorem unOk_ok {b : Gi_Board} (h : BdOk b) {u : Gi_Unit} (hu : unOk b u = true) : UnOk b u := by
  simp only [unOk, Bool.and_eq_true, kIn_iff] at hu
  obtain ⟨⟨h1, h2⟩, h3⟩ := hu
  have hx : b.Rules.Kinds[u.Kind.toNat]? = some b.Rules.Kinds[u.Kind.toNat] := List.getElem?_eq_getElem (by omega)
  have hk := h.r.ks _ (List.mem_of_getElem? hx)
  rw [hx] at h3
  simp only [Bool.and_eq_true, kIn_iff, Bool.or_eq_true, decide_eq_true_eq] at h3
  refine ⟨by omega, by omega, by omega, ?_⟩
  rcases h3.2 with e | e
  · exact .inl e
  · exact .inr ⟨by omega, by omega, by omega, e.2⟩

def atB (a s : Int) (u : Gi_Unit) : Bool := decide (u.At = a) && decide (u.Side = s)
def cnt (us : List Gi_Unit) (a s : Int) : Int := ((us.filter (atB a s)).length : Int)
theorem cnt_snoc (us : List Gi_Unit) (u : Gi_Unit) (a s : Int) : cnt (us ++ [u]) a s = cnt us a s + if u.At = a ∧ u.Side = s then 1 else 0 := by
  unfold cnt
  rw [List.filter_append, List.length_append]
  by_cases c : u.At = a ∧ u.Side = s
  · rw [if_pos c]
    have : atB a s u = true := by simp [atB, c.1, c.2]
    simp [List.filter, this]
  · rw [if_neg c]
    have : atB a s u = false := by
      simp only [atB, Bool.and_eq_false_iff, decide_eq_false_iff_not]
      by_cases d : u.At = a
      · exact .inr fun e => c ⟨d, e⟩
      · exact .inl d
    simp [List.filter, this]
theorem cnt_nn (us : List Gi_Unit) (a s : Int) : 0 ≤ cnt us a s ∧ cnt us a s ≤ us.length := by
  have := List.length_filter_le (atB a s) us
  unfold cnt
  omega
theorem cnt_pos {us : List Gi_Unit} {u : Gi_Unit} (h : u ∈ us) : 1 ≤ cnt us u.At u.Side := by
  have : u ∈ us.filter (atB u.At u.Side) := List.mem_filter.2 ⟨h, by simp [atB]⟩
  have := List.length_pos_of_mem this
  unfold cnt
  omega
def stP (St : Int) (us : List Gi_Unit) (u : Gi_Unit) : Bool := decide (u.At < 0) || (decide (cnt us u.At (1 - u.Side) = 0) && decide (cnt us u.At u.Side ≤ St))
theorem stP_iff {St : Int} {us : List Gi_Unit} {u : Gi_Unit} : stP St us u = true ↔ (0 ≤ u.At → cnt us u.At (1 - u.Side) = 0 ∧ cnt us u.At u.Side ≤ St) := by
  simp only [stP, Bool.or_eq_true, Bool.and_eq_true, decide_eq_true_eq]
  constructor
  · intro h h0
    rcases h with h | h
    · omega
    · exact h
  · intro h
    by_cases c : u.At < 0
    · exact .inl c
    · exact .inr (h (by omega))
theorem rev_ind {α : Type} {P : List α → Prop} (h0 : P []) (hs : ∀ l x, P l → P (l ++ [x])) : ∀ l, P l := by
  intro l
  have : ∀ r : List α, P r.reverse := fun r => by
    induction r with
    | nil => exact h0
    | cons x r ih => rw [List.reverse_cons]; exact hs _ _ ih
  simpa using this l.reverse
/-- Counted one after the other, or all at once. -/
theorem stP_all {St : Int} : ∀ us : List Gi_Unit, (∀ i u, us[i]? = some u → stP St (us.take (i + 1)) u = true) ↔ ∀ u ∈ us, stP St us u = true := by
  refine rev_ind (by simp) fun us v ih => ?_
  have tk : ∀ i, i < us.length → (us ++ [v]).take (i + 1) = us.take (i + 1) := fun i hi => List.take_append_of_le_length (by omega)
  have tn : (us ++ [v]).take (us.length + 1) = us ++ [v] := List.take_of_length_le (by simp)
  constructor
  · intro h
    have h1 := ih.1 fun i u hu => by
      have hi : i < us.length := (List.getElem?_eq_some_iff.1 hu).1
      have := h i u (by rw [List.getElem?_append_left hi]; exact hu)
      rwa [tk i hi] at this
    have h2 := h us.length v (by simp)
    rw [tn] at h2
    have h2' := stP_iff.1 h2
    intro u hu
    rcases List.mem_append.1 hu with hu | hu
    · refine stP_iff.2 fun h0 => ?_
      obtain ⟨e1, e2⟩ := stP_iff.1 (h1 u hu) h0
      rw [cnt_snoc, cnt_snoc]
      constructor
      · by_cases c : v.At = u.At ∧ v.Side = 1 - u.Side
        · have h3 := (h2' (by omega)).1
          rw [cnt_snoc] at h3
          have h4 := cnt_pos hu
          rw [c.1, show 1 - v.Side = u.Side by omega] at h3
          split at h3 <;> omega
        · rw [if_neg c]; omega
      · by_cases c : v.At = u.At ∧ v.Side = u.Side
        · have h3 := (h2' (by omega)).2
          rw [cnt_snoc, c.1, c.2] at h3
          rw [if_pos c]
          simpa using h3
        · rw [if_neg c]; omega
    · rw [List.mem_singleton.1 hu]; exact h2
  · intro h
    have h1 : ∀ u ∈ us, stP St us u = true := fun u hu => stP_iff.2 fun h0 => by
      obtain ⟨e1, e2⟩ := stP_iff.1 (h u (List.mem_append_left _ hu)) h0
      have a1 := cnt_nn us u.At (1 - u.Side)
      rw [cnt_snoc] at e1 e2
      split at e1 <;> split at e2 <;> omega
    intro i u hu
    by_cases hi : i < us.length
    · rw [tk i hi]
      rw [List.getElem?_append_left hi] at hu
      exact ih.2 h1 i u hu
    · have : i = us.length := by
        have := (List.getElem?_eq_some_iff.1 hu).1
        simp at this
        omega
      subst this
      rw [tn]
      simp only [List.getElem?_append_right (Nat.le_refl _), Nat.sub_self, List.getElem?_cons_zero, Option.some.injEq] at hu
      subst hu
      exact h _ (List.mem_append_right _ (List.mem_singleton.2 rfl))
def stG (b : Gi_Board) (s : Gi_State) : Bool := kIn s.Turn 0 b.Rules.Turns && kIn s.Weather 0 2 && decide (s.Units.length ≤ 12) && s.Units.all (unOk b) && s.Units.all (stP b.Rules.Stack s.Units)
def cntL (us : List Gi_Unit) (n : Nat) : List GA2I := (List.range n).map fun (a : Nat) => ⟨cnt us a 0, cnt us a 1⟩
theorem cntL_get {us : List Gi_Unit} {n : Nat} {a : Int} (h : 0 ≤ a ∧ a < n) : (cntL us n)[a.toNat]? = some ⟨cnt us a 0, cnt us a 1⟩ := by
  unfold cntL
  rw [List.getElem?_map, List.getElem?_range (by omega)]
  simp only [Option.map_some]
  rw [show ((a.toNat : Nat) : Int) = a by omega]
theorem cntL_off {us : List Gi_Unit} {n : Nat} {u : Gi_Unit} (h : u.At < 0) : cntL (us ++ [u]) n = cntL us n := by
  unfold cntL
  refine List.map_congr_left fun a _ => ?_
  rw [cnt_snoc, cnt_snoc, if_neg (by omega), if_neg (by omega), Int.add_zero, Int.add_zero]
theorem cntL_set {us : List Gi_Unit} {n : Nat} {u : Gi_Unit} (h : 0 ≤ u.At ∧ u.At < n) : List.set (cntL us n) u.At.toNat ⟨cnt (us ++ [u]) u.At 0, cnt (us ++ [u]) u.At 1⟩ = cntL (us ++ [u]) n := by
  refine List.ext_getElem? fun i => ?_
  have hl : (cntL us n).length = n := by simp [cntL]
  rw [List.getElem?_set]
  by_cases e : u.At.toNat = i
  · subst e
    rw [if_pos rfl, if_pos (by omega), cntL_get h]
  · rw [if_neg e]
    by_cases hi : i < n
    · have h1 := cntL_get (us := us) (n := n) (a := (i : Int)) (by omega)
      have h2 := cntL_get (us := us ++ [u]) (n := n) (a := (i : Int)) (by omega)
      rw [Int.toNat_natCast] at h1 h2
      rw [h1, h2, cnt_snoc, cnt_snoc, if_neg (by omega), if_neg (by omega), Int.add_zero, Int.add_zero]
    · rw [List.getElem?_eq_none (by omega), List.getElem?_eq_none (by simp [cntL]; omega)]
theorem state_i {b : Gi_Board} (h : BdOk b) (s : Gi_State) : Di_goodState b s = some (stG b s) := by
  have hn := h.n2
  have hst := h.r.e.1
  unfold Di_goodState stG
  simp only [kin_i, Option.bind_some]
  cases c1 : kIn s.Turn 0 b.Rules.Turns with
  | false => simp
  | true =>
    cases c2 : kIn s.Weather 0 2 with
    | false => simp
    | true =>
      by_cases c3 : s.Units.length ≤ 12
      · simp only [if_true, Di_sizeOf, Option.bind_some, Bool.true_and, c3, decide_true, Int.toNat_natCast]
        rw [if_neg (by omega), if_pos (by omega), if_pos (by omega)]
        have key := all_goL (L := loop Bi_goodState) (S := fun i => .h1 s.Units (s.Units.length : Int) (i : Int) b (cntL (s.Units.take i) b.Map.Terrain.length)) (l := s.Units) (q := fun i u => unOk b u && stP b.Rules.Stack (s.Units.take (i + 1)) u) (f := false) (r := some true) (fun i u hu hi _ => by
            rw [loop_eq]
            have ht : s.Units.take (i + 1) = s.Units.take i ++ [u] := by rw [List.take_add_one, hu]; rfl
            simp only [Bi_goodState, ltc hi, nnc, if_true, Int.toNat_natCast, hu, Option.bind_some, unOk_i h, wsucc (show i < 9223372036854775807 by omega)]
            cases c4 : unOk b u with
            | false => simp [goOn]
            | true =>
              have hok := unOk_ok h c4
              simp only [if_true, Bool.true_and]
              by_cases c5 : u.At < 0
              · have : stP b.Rules.Stack (s.Units.take (i + 1)) u = true := stP_iff.2 fun h0 => by omega
                rw [if_pos c5, this, ht, cntL_off c5]
                simp [goOn]
              · have ha : 0 ≤ u.At ∧ u.At < b.Map.Terrain.length := by have := hok.a; omega
                have g1 := cntL_get (us := s.Units.take i) ha
                have sn := cntL_set (us := s.Units.take i) ha
                have g2 := cntL_get (us := s.Units.take i ++ [u]) ha
                have nn0 := cnt_nn (s.Units.take i) u.At 0
                have nn1 := cnt_nn (s.Units.take i) u.At 1
                have tl : (s.Units.take i).length ≤ 12 := by simp; omega
                have hP : stP b.Rules.Stack (s.Units.take (i + 1)) u = (decide (cnt (s.Units.take i ++ [u]) u.At (1 - u.Side) = 0) && decide (cnt (s.Units.take i ++ [u]) u.At u.Side ≤ b.Rules.Stack)) := by
                  rw [ht]; simp [stP, c5]
                have s0 := cnt_snoc (s.Units.take i) u u.At 0
                have s1 := cnt_snoc (s.Units.take i) u u.At 1
                have nnn0 := cnt_nn (s.Units.take i ++ [u]) u.At 0
                have nnn1 := cnt_nn (s.Units.take i ++ [u]) u.At 1
                rw [if_neg c5, hP, ht]
                simp only [ha.1, if_true, g1, Option.bind_some]
                rcases hok.s with e | e
                · have e1 : u.At = u.At ∧ u.Side = 0 := ⟨rfl, e⟩
                  have e2 : ¬ (u.At = u.At ∧ u.Side = 1) := by omega
                  rw [if_pos e1] at s0
                  rw [if_neg e2, Int.add_zero] at s1
                  rw [e, if_pos rfl, w64 (n := cnt (s.Units.take i) u.At 0 + 1) (by omega), ← s0, ← s1, sn]
                  simp only [show IntKind.wrap .i64 (1 - 0) = 1 from by decide, show IntKind.wrap .i64 1 = 1 from by decide, g2, Option.bind_some, show ((1 : Int) = 0) = False by simp, if_false, if_true, show (1 : Int) - 0 = 1 from rfl]
                  by_cases c6 : cnt (s.Units.take i ++ [u]) u.At 1 > 0
                  · rw [if_pos c6, decide_eq_false (by omega)]; simp [goOn]
                  · rw [if_neg c6, decide_eq_true (by omega)]
                    by_cases c7 : cnt (s.Units.take i ++ [u]) u.At 0 > b.Rules.Stack
                    · rw [if_pos c7, decide_eq_false (by omega)]; simp [goOn]
                    · rw [if_neg c7, decide_eq_true (by omega)]; simp [goOn]
                · have e1 : u.At = u.At ∧ u.Side = 1 := ⟨rfl, e⟩
                  have e2 : ¬ (u.At = u.At ∧ u.Side = 0) := by omega
                  rw [if_pos e1] at s1
                  rw [if_neg e2, Int.add_zero] at s0
                  rw [e, if_neg (by decide), if_pos rfl, w64 (n := cnt (s.Units.take i) u.At 1 + 1) (by omega), ← s0, ← s1, sn]
                  simp only [show IntKind.wrap .i64 (1 - 1) = 0 from by decide, show IntKind.wrap .i64 0 = 0 from by decide, g2, Option.bind_some, if_true, show (1 : Int) - 1 = 0 from rfl]
                  by_cases c6 : cnt (s.Units.take i ++ [u]) u.At 0 > 0
                  · rw [if_pos c6, decide_eq_false (by omega)]; simp [goOn]
                  · rw [if_neg c6, decide_eq_true (by omega)]
                    by_cases c7 : cnt (s.Units.take i ++ [u]) u.At 1 > b.Rules.Stack
                    · rw [if_pos c7, decide_eq_false (by omega)]; simp [goOn]
                    · rw [if_neg c7, decide_eq_true (by omega)]; simp [goOn]) fun _ => by
            rw [loop_eq]
            simp only [Bi_goodState, nltc, if_false, goOn]
        have e0 : List.replicate b.Map.Terrain.length (GA2I.mk 0 0) = cntL (s.Units.take 0) b.Map.Terrain.length := by
          refine List.ext_getElem (by simp [cntL]) fun i h1 h2 => ?_
          simp [cntL, cnt]
        rw [e0]
        refine key.trans ?_
        rw [ifB, Option.some.injEq, Bool.eq_iff_iff, alli_iff, Bool.and_eq_true, List.all_eq_true, List.all_eq_true]
        constructor
        · intro k
          refine ⟨fun u hu => ?_, (stP_all _).1 fun i u hu => ?_⟩
          · obtain ⟨i, hi⟩ := List.getElem?_of_mem hu
            have := k i u hi
            simp only [Bool.and_eq_true] at this
            exact this.1
          · have := k i u hu
            simp only [Bool.and_eq_true] at this
            exact this.2
        · rintro ⟨k1, k2⟩ i u hu
          rw [Bool.and_eq_true]
          exact ⟨k1 u (List.mem_of_getElem? hu), (stP_all _).2 k2 i u hu⟩
      · rw [if_pos rfl, if_pos rfl, if_pos (by omega)]
        simp [c3]

def satL (us : List Gi_Unit) (a s : Int) : List Int := (List.range us.length).filterMap fun (i : Nat) => match us[i]? with
  | some u => if u.At = a ∧ u.Side = s then some (i : Int) else none
  | none => none
theorem sat_s {s : Gi_State} (h : s.Units.length ≤ 1000) (a side : Int) : Ds_sAt s a side = some (satL s.Units a side) := by
  unfold Ds_sAt satL
  refine fm_goL (L := loop Bs_sAt) (S := fun i acc => .h1 a side s.Units (s.Units.length : Int) (i : Int) acc) (r := some) (fun i acc hi ha => ?_) fun acc ha => ?_
  · have hx : s.Units[i]? = some s.Units[i] := List.getElem?_eq_getElem hi
    rw [loop_eq]
    simp only [Bs_sAt, ltc hi, nnc, if_true, Int.toNat_natCast, hx, Option.bind_some, if8 (show acc.length ≤ 3000000 by omega), wsucc (show i < 9223372036854775807 by omega)]
    by_cases c1 : s.Units[i].At = a
    · by_cases c2 : s.Units[i].Side = side
      · simp [c1, c2, goOn]
      · simp [c1, c2, goOn]
    · simp [c1, goOn]
  · rw [loop_eq]
    simp only [Bs_sAt, nltc, if_false, goOn]
theorem fm_congr {α β : Type} {f g : α → Option β} : ∀ {l : List α}, (∀ x ∈ l, f x = g x) → l.filterMap f = l.filterMap g
  | [], _ => rfl
  | x :: l, h => by
    rw [List.filterMap_cons, List.filterMap_cons, h x (List.mem_cons_self ..), fm_congr fun y hy => h y (List.mem_cons_of_mem _ hy)]
theorem satL_len (us : List Gi_Unit) (a s : Int) : ((satL us a s).length : Int) = cnt us a s := by
  refine rev_ind (P := fun us => ((satL us a s).length : Int) = cnt us a s) rfl (fun us u ih => ?_) us
  rw [cnt_snoc, ← ih]
  unfold satL
  rw [List.length_append, List.length_singleton, List.range_succ, List.filterMap_append]
  have e : (List.range us.length).filterMap (fun (i : Nat) => match (us ++ [u])[i]? with | some u => if u.At = a ∧ u.Side = s then some (i : Int) else none | none => none) = (List.range us.length).filterMap (fun (i : Nat) => match us[i]? with | some u => if u.At = a ∧ u.Side = s then some (i : Int) else none | none => none) := by
    refine fm_congr fun i hi => ?_
    rw [List.mem_range] at hi
    rw [List.getElem?_append_left hi]
  rw [e, List.length_append]
  have e2 : (us ++ [u])[us.length]? = some u := by simp
  by_cases c : u.At = a ∧ u.Side = s
  · simp [List.filterMap, e2, c]
  · rw [if_neg c]
    simp only [List.filterMap, e2, if_neg c]
    simp
theorem stateLoop_s {b : Gi_Board} (h : BdOk b) {s : Gi_State} (hl : s.Units.length ≤ 12) (hu : ∀ u ∈ s.Units, unOk b u = true) : loop Bs_sGood (.h2 s.Units (s.Units.length : Int) 0 b s) = some (s.Units.all (stP b.Rules.Stack s.Units)) := by
  have key := all_goL (L := loop Bs_sGood) (S := fun i => .h2 s.Units (s.Units.length : Int) (i : Int) b s) (l := s.Units) (q := fun _ u => stP b.Rules.Stack s.Units u) (f := false) (r := some true) (fun i u hx hi _ => by
      have ho := unOk_ok h (hu u (List.mem_of_getElem? hx))
      have e1 := satL_len s.Units u.At (1 - u.Side)
      have e2 := satL_len s.Units u.At u.Side
      have n1 := cnt_nn s.Units u.At (1 - u.Side)
      rw [loop_eq]
      simp only [Bs_sGood, ltc hi, nnc, if_true, Int.toNat_natCast, hx, Option.bind_some, wsucc (show i < 9223372036854775807 by omega), sat_s (show s.Units.length ≤ 1000 by omega), w64 (show -9223372036854775808 ≤ 1 - u.Side ∧ 1 - u.Side ≤ 9223372036854775807 by have := ho.s; omega), e1, e2]
      by_cases c : u.At ≥ 0
      · rw [if_pos c]
        by_cases c1 : cnt s.Units u.At (1 - u.Side) > 0
        · rw [if_pos c1, if_neg (by rw [stP_iff]; intro k; have := (k c).1; omega)]; rfl
        · rw [if_neg c1]
          by_cases c2 : cnt s.Units u.At u.Side > b.Rules.Stack
          · rw [if_pos c2, if_neg (by rw [stP_iff]; intro k; have := (k c).2; omega)]; rfl
          · rw [if_neg c2, if_pos (stP_iff.2 fun _ => ⟨by omega, by omega⟩)]; rfl
      · rw [if_neg c, if_pos (stP_iff.2 fun k => absurd k c)]; rfl) fun _ => by
      rw [loop_eq]
      simp only [Bs_sGood, nltc, if_false, goOn]
  refine key.trans ?_
  rw [ifB, Option.some.injEq, Bool.eq_iff_iff, alli_iff, List.all_eq_true]
  constructor
  · intro k u hu
    obtain ⟨i, hi⟩ := List.getElem?_of_mem hu
    exact k i u hi
  · intro k i u hi
    exact k u (List.mem_of_getElem? hi)
theorem state_s {b : Gi_Board} (h : BdLen b) (s : Gi_State) : Ds_sGood b s = some (bdG b && stG b s) := by
  unfold Ds_sGood stG
  rw [isBoard_s h]
  cases c0 : bdG b with
  | false => simp
  | true =>
    have ho := bdG_ok c0
    simp only [kin_s, Option.bind_some, if_true, Bool.true_and]
    cases c1 : kIn s.Turn 0 b.Rules.Turns with
    | false => simp
    | true =>
      cases c2 : kIn s.Weather 0 2 with
      | false => simp
      | true =>
        by_cases c3 : s.Units.length ≤ 12
        · simp only [if_true, Bool.true_and, c3, decide_true]
          rw [if_neg (by omega)]
          have key := all_goL (L := loop Bs_sGood) (S := fun i => .h1 s.Units (s.Units.length : Int) (i : Int) b s) (l := s.Units) (q := fun _ u => unOk b u) (f := false) (r := some (s.Units.all (stP b.Rules.Stack s.Units))) (fun i u hx hi _ => by
              rw [loop_eq]
              simp only [Bs_sGood, ltc hi, nnc, if_true, Int.toNat_natCast, hx, Option.bind_some, unOk_s ho, wsucc (show i < 9223372036854775807 by omega)]
              cases unOk b u <;> simp [goOn]) fun hall => by
              rw [loop_eq]
              simp only [Bs_sGood, nltc, if_false, goOn]
              exact stateLoop_s ho c3 fun u hu => by
                obtain ⟨i, hi⟩ := List.getElem?_of_mem hu
                exact hall i u hi
          refine key.trans ?_
          have e : alli (fun _ u => unOk b u) s.Units = s.Units.all (unOk b) := by
            rw [Bool.eq_iff_iff, alli_iff, List.all_eq_true]
            constructor
            · intro k u hu
              obtain ⟨i, hi⟩ := List.getElem?_of_mem hu
              exact k i u hi
            · intro k i u hi
              exact k u (List.mem_of_getElem? hi)
          rw [e]
          cases s.Units.all (unOk b) <;> simp
        · simp only [if_true, Bool.true_and, c3, decide_false, Bool.false_and]
          rw [if_pos (by omega)]
theorem rsB_iff {l : List Int} : ∀ (n i : Nat), 1 ≤ i → (rsB l n i = true ↔ ∀ j x y, i ≤ j → j < i + n → l[j - 1]? = some x → l[j]? = some y → x < y)
  | 0, i, _ => by
    simp only [rsB, true_iff]
    intro j x y h1 h2
    omega
  | n + 1, i, h => by
    rw [rsB, Bool.and_eq_true, rsB_iff n (i + 1) (by omega)]
    constructor
    · rintro ⟨h1, h2⟩ j x y hj1 hj2 hx hy
      by_cases e : j = i
      · subst e
        rw [hx, hy] at h1
        simpa using h1
      · exact h2 j x y (by omega) (by omega) hx hy
    · intro k
      refine ⟨?_, fun j x y hj1 hj2 => k j x y (by omega) (by omega)⟩
      cases hx : l[i - 1]? with
      | none => rfl
      | some x =>
        cases hy : l[i]? with
        | none => rfl
        | some y => simpa using k i x y (Nat.le_refl _) (by omega) hx hy
theorem rising_iff {l : List Int} : rising l = true ↔ ∀ j x y, 1 ≤ j → l[j - 1]? = some x → l[j]? = some y → x < y := by
  unfold rising
  rw [rsB_iff _ _ (Nat.le_refl _)]
  constructor
  · intro k j x y h1 hx hy
    have := (List.getElem?_eq_some_iff.1 hy).1
    exact k j x y h1 (by omega) hx hy
  · intro k j x y h1 _ hx hy
    exact k j x y h1 hx hy
theorem rise_g {l : List Int} (hl : l.length ≤ 2000000) (lo hi : Int) : Ds_l1Rising l lo hi = some (rising l && alli (fun _ x => kIn x lo hi) l) := by
  have key := all_goL (L := loop Bs_l1Rising) (S := fun i => .h1 l lo hi l (l.length : Int) (i : Int)) (l := l) (q := fun i x => kIn x lo hi && (decide (i = 0) || match l[i - 1]? with | some p => decide (p < x) | none => false)) (f := false) (r := some true) (fun i x hx hi' _ => by
      rw [loop_eq]
      simp only [Bs_l1Rising, ltc hi', nnc, if_true, Int.toNat_natCast, hx, Option.bind_some, kin_s, wsucc (show i < 9223372036854775807 by omega)]
      have b1 := Bool.eq_false_or_eq_true (kIn x lo hi)
      rcases b1 with b1 | b1
      · rcases Nat.eq_zero_or_pos i with z | z
        · subst z
          simp [b1, goOn]
        · have hp : l[i - 1]? = some l[i - 1] := List.getElem?_eq_getElem (by omega)
          rw [wpred (by omega) z, Int.toNat_natCast, hp, if_pos (show (i : Int) > 0 by omega), if_pos (show (0 : Int) ≤ ((i - 1 : Nat) : Int) by omega)]
          by_cases c : l[i - 1] ≥ x
          · have : ¬ l[i - 1] < x := by omega
            simp [b1, c, this, goOn, show i ≠ 0 by omega]
          · have : l[i - 1] < x := by omega
            simp [b1, c, this, goOn]
      · simp [b1, goOn]) fun _ => by
      rw [loop_eq]
      simp only [Bs_l1Rising, nltc, if_false, goOn]
  unfold Ds_l1Rising
  refine key.trans ?_
  rw [ifB, Option.some.injEq, Bool.eq_iff_iff, alli_iff, Bool.and_eq_true, rising_iff, alli_iff]
  constructor
  · intro k
    refine ⟨fun j x y h1 hx hy => ?_, fun i x hx => ?_⟩
    · have := k j y hy
      simp only [Bool.and_eq_true, Bool.or_eq_true, decide_eq_true_eq, hx] at this
      rcases this.2 with e | e
      · omega
      · exact e
    · have := k i x hx
      simp only [Bool.and_eq_true] at this
      exact this.1
  · rintro ⟨k1, k2⟩ i x hx
    rw [Bool.and_eq_true]
    refine ⟨k2 i x hx, ?_⟩
    rcases Nat.eq_zero_or_pos i with z | z
    · simp [z]
    · have hlt := (List.getElem?_eq_some_iff.1 hx).1
      have hp : l[i - 1]? = some l[i - 1] := List.getElem?_eq_getElem (by omega)
      rw [hp]
      simp [k1 i _ x z hp hx]
theorem Ok.isTrue {o : Option Bool} (h : Ok o fun r => r = true) : o = some true := by
  obtain ⟨a, e, rfl⟩ := h
  exact e
theorem Ok.is {α : Type} {o : Option α} {a : α} (h : Ok o fun r => r = a) : o = some a := by
  obtain ⟨a, e, rfl⟩ := h
  exact e
structure StOk (b : Gi_Board) (s : Gi_State) : Prop where
  t : 0 ≤ s.Turn ∧ s.Turn ≤ b.Rules.Turns
  w : 0 ≤ s.Weather ∧ s.Weather ≤ 2
  n : s.Units.length ≤ 12
  u : ∀ u ∈ s.Units, UnOk b u
  p : ∀ u ∈ s.Units, 0 ≤ u.At → cnt s.Units u.At (1 - u.Side) = 0 ∧ cnt s.Units u.At u.Side ≤ b.Rules.Stack
theorem stG_ok {b : Gi_Board} (h : BdOk b) {s : Gi_State} (hs : stG b s = true) : StOk b s := by
  simp only [stG, Bool.and_eq_true, kIn_iff, decide_eq_true_eq, List.all_eq_true] at hs
  obtain ⟨⟨⟨⟨h1, h2⟩, h3⟩, h4⟩, h5⟩ := hs
  exact ⟨h1, h2, h3, fun u hu => unOk_ok h (h4 u hu), fun u hu => stP_iff.1 (h5 u hu)⟩
def fo (b : Gi_Board) (u : Gi_Unit) : Int := match b.Rules.Kinds[u.Kind.toNat]? with
  | some x => x.Strength * u.Steps
  | none => 0
theorem fo_b {b : Gi_Board} (h : BdOk b) {u : Gi_Unit} (hu : UnOk b u) : ∃ x, b.Rules.Kinds[u.Kind.toNat]? = some x ∧ x.Strength * u.Steps = fo b u ∧ 0 ≤ fo b u ∧ fo b u ≤ 36 := by
  have hk := hu.k
  have hx : b.Rules.Kinds[u.Kind.toNat]? = some b.Rules.Kinds[u.Kind.toNat] := List.getElem?_eq_getElem (by omega)
  have h1 := h.r.ks _ (List.mem_of_getElem? hx)
  have h2 := hu.st
  have h3 := mulB (x := b.Rules.Kinds[u.Kind.toNat].Strength) (y := u.Steps) (M := 9) (N := 4) (by omega) (by omega)
  have e : b.Rules.Kinds[u.Kind.toNat].Strength * u.Steps = fo b u := by unfold fo; rw [hx]
  exact ⟨_, hx, e, by omega, by omega⟩
theorem force_i {b : Gi_Board} (h : BdOk b) {u : Gi_Unit} (hu : UnOk b u) : Di_forceOf b u = some (fo b u) := by
  obtain ⟨x, hx, e, h1, h2⟩ := fo_b h hu
  unfold Di_forceOf
  rw [if_pos hu.k.1, hx, Option.bind_some, e, w64 (by omega)]
theorem force_s {b : Gi_Board} (h : BdOk b) {s : Gi_State} (hs : StOk b s) {k : Nat} {u : Gi_Unit} (hk : s.Units[k]? = some u) : Ds_aForce b s (k : Int) = some (fo b u) := by
  have hu := hs.u u (List.mem_of_getElem? hk)
  obtain ⟨x, hx, e, h1, h2⟩ := fo_b h hu
  unfold Ds_aForce
  simp only [nnc, if_true, Int.toNat_natCast, hk, Option.bind_some, hu.k.1, hx, e]
  rw [w64 (by omega)]
theorem bdG_mp {b : Gi_Board} (h : bdG b = true) : mpGood b.Map = true := by
  simp only [bdG, Bool.and_eq_true] at h
  exact h.1.2
/-- A valid board of a size that a machine holds. -/
structure BdV (b : Gi_Board) : Prop where
  l : BdLen b
  g : bdG b = true
theorem BdV.ok {b : Gi_Board} (h : BdV b) : BdOk b := bdG_ok h.g
theorem BdV.on {b : Gi_Board} (h : BdV b) {i : Int} (hi : 0 ≤ i ∧ i < b.Map.Terrain.length) : mpOn b.Map i = true := mpOn_iff.2 ⟨bdG_mp h.g, hi.1, by have := h.ok.n; omega⟩
theorem BdV.next {b : Gi_Board} (h : BdV b) {i d : Int} (hi : 0 ≤ i ∧ i < b.Map.Terrain.length) (hd : 0 ≤ d ∧ d < 6) : Di_nextTo b.Map i d = some (mpNext b.Map i d) ∧ Ds_mNext b.Map i d = some (mpNext b.Map i d) := next_b h.ok.d100 ⟨hi.1, by have := h.ok.n2; omega⟩ hd
theorem BdV.nlt {b : Gi_Board} (h : BdV b) {i d : Int} (hk : 0 ≤ mpNext b.Map i d) : mpNext b.Map i d < b.Map.Terrain.length := by
  have := (mpNext_lt hk).1
  have := h.ok.n
  omega
theorem edge_BdV {b : Gi_Board} (h : BdV b) {i d : Int} (hi : 0 ≤ i ∧ i < b.Map.Terrain.length) (hd : 0 ≤ d ∧ d < 6) (hk : 0 ≤ mpNext b.Map i d) : Di_edgeOf b.Map i d = some (mpEdge b.Map i d) ∧ Ds_mEdge b.Map i d = some (mpEdge b.Map i d) := edge_b (mpPair_iff.2 ⟨h.on hi, hd, hk⟩)
def frB (m : Gi_Map) (e : Int) : Bool := !(hasB m.Rivers e) || hasB m.Roads e
theorem cross_i {m : Gi_Map} (h : MpLen m) (e : Int) : Di_crossesFreely m e = some (frB m e) := by
  unfold Di_crossesFreely frB
  rw [contains_i h.2.1, Option.bind_some, contains_i h.2.2]
  cases hasB m.Rivers e <;> simp
theorem UnOk.kind {b : Gi_Board} {u : Gi_Unit} (h : UnOk b u) : b.Rules.Kinds[u.Kind.toNat]? = some (b.Rules.Kinds[u.Kind.toNat]'(by have := h.k; omega)) := List.getElem?_eq_getElem _
theorem UnOk.on {b : Gi_Board} {u : Gi_Unit} (h : UnOk b u) (h0 : ¬ u.At < 0) : 0 ≤ u.At ∧ u.At < b.Map.Terrain.length := by
  have := h.a
  omega
def owN (us : List Gi_Unit) (i : Int) : Int := match us.find? (fun u => decide (u.At = i)) with
  | some u => u.Side
  | none => -1
theorem own_go {L : Nat → Option Int} {us : List Gi_Unit} {i : Int} (hs : ∀ k u, us[k]? = some u → k < us.length → L k = if u.At = i then some u.Side else L (k + 1)) (he : L us.length = some (-1)) : L 0 = some (owN us i) := by
  have key : ∀ (n k : Nat), k + n = us.length → L k = some (owN (us.drop k) i) := by
    intro n
    induction n with
    | zero =>
      intro k hk
      have : k = us.length := by omega
      subst this
      rw [he, List.drop_length]
      rfl
    | succ n ih =>
      intro k hk
      have hx : us[k]? = some us[k] := List.getElem?_eq_getElem (by omega)
      rw [hs k us[k] hx (by omega), List.drop_eq_getElem_cons (by omega)]
      unfold owN
      rw [List.find?_cons]
      by_cases c : us[k].At = i
      · simp [c]
      · rw [if_neg c, ih (k + 1) (by omega)]
        simp only [c, decide_false]
        rfl
  simpa using key us.length 0 (by omega)
theorem owner_i {s : Gi_State} (hs : s.Units.length ≤ 2000000) (i : Int) : Di_ownerOf s i = some (owN s.Units i) :=
  own_go (L := fun k => loop Bi_ownerOf (.h1 i s.Units (s.Units.length : Int) (k : Int))) (fun k u hx hk => by
    rw [loop_eq]
    simp only [Bi_ownerOf, ltc hk, nnc, if_true, Int.toNat_natCast, hx, Option.bind_some, wsucc (show k < 9223372036854775807 by omega)]
    split <;> rfl) (by
    rw [loop_eq]
    simp only [Bi_ownerOf, nltc, if_false, goOn])
theorem owner_s {s : Gi_State} (hs : s.Units.length ≤ 2000000) (i : Int) : Ds_sOwner s i = some (owN s.Units i) :=
  own_go (L := fun k => loop Bs_sOwner (.h1 i s.Units (s.Units.length : Int) (k : Int))) (fun k u hx hk => by
    rw [loop_eq]
    simp only [Bs_sOwner, ltc hk, nnc, if_true, Int.toNat_natCast, hx, Option.bind_some, wsucc (show k < 9223372036854775807 by omega)]
    split <;> rfl) (by
    rw [loop_eq]
    simp only [Bs_sOwner, nltc, if_false, goOn])
theorem owN_b {b : Gi_Board} {s : Gi_State} (hs : StOk b s) (i : Int) : owN s.Units i = -1 ∨ owN s.Units i = 0 ∨ owN s.Units i = 1 := by
  unfold owN
  split
  · rename_i u hu
    have := (hs.u u (List.mem_of_find?_eq_some hu)).s
    omega
  · exact .inl rfl
/-- A drawn game: a board, and a state that may be spoilt. -/
structure GmD (b : Gi_Board) (s : Gi_State) : Prop where
  b : BdD b
  n : 1 ≤ s.Units.length ∧ s.Units.length ≤ 20
def gsI (k : Int) (b : Gi_Board) : Ss_l1Cur_state → Prop
  | .h1 t c b2 _ _ _ _ => 1 ≤ t ∧ t ≤ 8 ∧ Cu c (k + 14 * (8 - t)) ∧ b2 = b
  | .h2 t c b2 _ _ _ _ l => 0 ≤ t ∧ t ≤ 8 ∧ Cu c (k + 14 * (8 - t)) ∧ b2 = b ∧ 1 ≤ l.length ∧ (l.length : Int) + t ≤ 8
def gsM : Ss_l1Cur_state → Nat
  | .h1 t .. => t.toNat
  | .h2 t .. => t.toNat
theorem okStateLoop {k : Int} {b : Gi_Board} (hb : BdD b) (hk : k + 200 ≤ 1099511627776) : ∀ {s}, gsI k b s → Ok (loop Bs_l1Cur_state s) fun r => (1 ≤ r.1.Units.length ∧ r.1.Units.length ≤ 8) ∧ Cu r.2 (k + 200) := by
  have hbk := hb.k
  intro s0 h0
  refine Ok.loop (gsI k b) gsM (fun s hI => ?_) h0
  match s, hI with
  | .h1 t c b2 b3 b4 b5 b6, hI =>
    obtain ⟨h1, h2, hc, rfl⟩ := hI
    have e : IntKind.wrap .i64 (t - 1) = t - 1 := w64 (by omega)
    have el : ∀ u : Gi_Unit, IntKind.wrap .i64 ((([u].length : Nat) : Int) - 1) = 0 := fun u => by
      show IntKind.wrap .i64 (((1 : Nat) : Int) - 1) = 0
      decide
    simp only [Bs_l1Cur_state, el]
    refine Ok.chk (by omega) (Ok.bind (okPick hc (by omega) 2) fun r2 h2 => Ok.bind (okPick h2.2 (by omega) _) fun r3 h3 => ?_)
    have v3 := h3.1.2.1 (by omega)
    refine Ok.chk (by omega) (Ok.get (by omega) fun x5 _ _ => Ok.bind (okPick h3.2 (by omega) _) fun r6 h6 => Ok.bind (okOne h6.2 (by omega) 8) fun r7 h7 => Ok.ite (fun _ => ?_) fun _ => ?_)
    · refine Ok.chk (by simp) (Ok.eq (state_s hb.len _) (Ok.ite (fun _ => Ok.ret ?_) fun _ => Ok.chk (by decide) (Ok.get (by simp) fun x13 _ _ => Ok.ret ?_)))
      · exact ⟨⟨by omega, by omega, h7.mono (by omega) (by omega), rfl, by simp, by rw [e]; simp; omega⟩, by simp only [gsM]; omega⟩
      · exact ⟨⟨by omega, by omega, h7.mono (by omega) (by omega), rfl, by simp, by rw [e]; simp; omega⟩, by simp only [gsM]; omega⟩
    · refine Ok.bind (okPlace h7 (by omega) _) fun r9 h9 => Ok.chk (by simp) (Ok.eq (state_s hb.len _) (Ok.ite (fun _ => Ok.ret ?_) fun _ => Ok.chk (by decide) (Ok.get (by simp) fun x13 _ _ => Ok.ret ?_)))
      · exact ⟨⟨by omega, by omega, h9.mono (by omega) (by omega), rfl, by simp, by rw [e]; simp; omega⟩, by simp only [gsM]; omega⟩
      · exact ⟨⟨by omega, by omega, h9.mono (by omega) (by omega), rfl, by simp, by rw [e]; simp; omega⟩, by simp only [gsM]; omega⟩
  | .h2 t c b2 b3 b4 b5 b6 l, hI =>
    obtain ⟨h1, h2, hc, rfl, hl1, hl2⟩ := hI
    have e : t > 0 → IntKind.wrap .i64 (t - 1) = t - 1 := fun h => w64 (by omega)
    have el : ∀ u : Gi_Unit, IntKind.wrap .i64 (((l ++ [u]).length : Int) - 1) = (l.length : Int) := fun u => by rw [w64 (by simp; omega)]; simp
    simp only [Bs_l1Cur_state, el]
    refine Ok.ite (fun ct => Ok.bind (okPick hc (by omega) 2) fun r2 h2 => Ok.bind (okPick h2.2 (by omega) _) fun r3 h3 => ?_) fun ct => Ok.ret ⟨by simp only; omega, hc.mono (by omega) (by omega)⟩
    have v3 := h3.1.2.1 (by omega)
    have e := e ct
    refine Ok.chk (by omega) (Ok.get (by omega) fun x5 _ _ => Ok.bind (okPick h3.2 (by omega) _) fun r6 h6 => Ok.bind (okOne h6.2 (by omega) 8) fun r7 h7 => Ok.ite (fun _ => ?_) fun _ => ?_)
    · refine Ok.chk (by simp; omega) (Ok.eq (state_s hb.len _) (Ok.ite (fun _ => Ok.ret ?_) fun _ => Ok.chk (by omega) (Ok.get (by simp) fun x13 _ _ => Ok.ret ?_)))
      · exact ⟨⟨by omega, by omega, h7.mono (by omega) (by omega), rfl, by simp, by rw [e]; simp; omega⟩, by simp only [gsM]; omega⟩
      · exact ⟨⟨by omega, by omega, h7.mono (by omega) (by omega), rfl, by simp, by rw [e]; simp; omega⟩, by simp only [gsM]; omega⟩
    · refine Ok.bind (okPlace h7 (by omega) _) fun r9 h9 => Ok.chk (by simp; omega) (Ok.eq (state_s hb.len _) (Ok.ite (fun _ => Ok.ret ?_) fun _ => Ok.chk (by omega) (Ok.get (by simp) fun x13 _ _ => Ok.ret ?_)))
      · exact ⟨⟨by omega, by omega, h9.mono (by omega) (by omega), rfl, by simp, by rw [e]; simp; omega⟩, by simp only [gsM]; omega⟩
      · exact ⟨⟨by omega, by omega, h9.mono (by omega) (by omega), rfl, by simp, by rw [e]; simp; omega⟩, by simp only [gsM]; omega⟩
theorem okState {c : Gs_l1Cur} {k : Int} (h : Cu c k) (hk : k + 300 ≤ 1099511627776) {b : Gi_Board} (hb : BdD b) : Ok (Ds_l1Cur_state c b) fun r => (1 ≤ r.1.Units.length ∧ r.1.Units.length ≤ 8) ∧ Cu r.2 (k + 300) := by
  unfold Ds_l1Cur_state
  refine Ok.bind (okPick h (by omega) _) fun r1 h1 => Ok.bind (okPick h1.2 (by omega) 5) fun r2 h2 => Ok.bind (okPick h2.2 (by omega) 6) fun r3 h3 => ?_
  have v3 := h3.1.2.1 (by omega)
  rw [w64 (n := 2 + r3.1) (by omega)]
  refine Ok.mono (okStateLoop (k := k + 6) hb (by omega) ?_) fun r hr => ⟨hr.1, hr.2.mono (by omega) (by omega)⟩
  exact ⟨by omega, by omega, h3.2.mono (by omega) (by omega), rfl⟩
def asI (k : Int) : Ss_l1Cur_anyState → Prop
  | .h1 c _ _ _ _ l => 1 ≤ l.length ∧ l.length ≤ 14 ∧ Cu c (k + 2 * l.length)
def asM : Ss_l1Cur_anyState → Nat
  | .h1 _ _ _ _ _ l => 20 - l.length
theorem okAnyStateLoop {k : Int} (hk : k + 200 ≤ 1099511627776) : ∀ {s}, asI k s → Ok (loop Bs_l1Cur_anyState s) fun r => (1 ≤ r.1.Units.length ∧ r.1.Units.length ≤ 20) ∧ Cu r.2 (k + 100) := by
  intro s0 h0
  refine Ok.loop (asI k) asM (fun s hI => ?_) h0
  match s, hI with
  | .h1 c b1 b2 b3 b4 l, hI =>
    obtain ⟨h1, h2, hc⟩ := hI
    simp only [Bs_l1Cur_anyState]
    refine Ok.bind (okPick hc (by omega) 2) fun r1 hr => ?_
    have v := hr.1.2.1 (by omega)
    rw [w64 (n := 12 + r1.1) (by omega)]
    refine Ok.ite (fun _ => Ok.chk (by simp; omega) (Ok.ret ⟨⟨by simp, by simp; omega, hr.2.mono (by simp; omega) (by simp; omega)⟩, by simp [asM]; omega⟩)) fun _ => Ok.ret ⟨by simp only; omega, hr.2.mono (by omega) (by omega)⟩
theorem okAnyState {c : Gs_l1Cur} {k : Int} (h : Cu c k) (hk : k + 600 ≤ 1099511627776) {b : Gi_Board} (hb : BdD b) : Ok (Ds_l1Cur_anyState c b) fun r => GmD b r.1 ∧ Cu r.2 (k + 600) := by
  unfold Ds_l1Cur_anyState
  refine Ok.eq (isBoard_s hb.len) (Ok.ite (fun _ => ?_) fun _ => Ok.ret ⟨⟨hb, by simp⟩, h.mono (by omega) (by omega)⟩)
  refine Ok.bind (okState h (by omega) hb) fun r3 h3 => Ok.bind (okPick h3.2 (by omega) _) fun r4 h4 => Ok.bind (okPick h4.2 (by omega) 24) fun r5 h5 => ?_
  have n3 := h3.1
  have v4 := h4.1.2.1 (by omega)
  have v40 := h4.1.1
  refine Ok.ite (fun _ => ?_) fun _ => Ok.ite (fun _ => ?_) fun _ => Ok.ite (fun _ => ?_) fun _ => Ok.ite (fun _ => ?_) fun _ => Ok.ite (fun _ => ?_) fun _ => Ok.ite (fun _ => ?_) fun _ => ?_
  · exact Ok.bind (okAmong h5.2 (by omega) _ (by simp)) fun r7 h7 => Ok.ret ⟨⟨hb, by simp only; omega⟩, h7.2.mono (by omega) (by omega)⟩
  · exact Ok.bind (okAmong h5.2 (by omega) _ (by simp)) fun r7 h7 => Ok.ret ⟨⟨hb, by simp only; omega⟩, h7.2.mono (by omega) (by omega)⟩
  · unfold Ds_mSize
    exact Ok.eq rfl (Ok.bind (okAmong h5.2 (by omega) _ (by simp)) fun r7 h7 => Ok.chk v40 (Ok.get (by omega) fun x _ _ => Ok.ret ⟨⟨hb, by simp only [List.length_set]; omega⟩, h7.2.mono (by omega) (by omega)⟩))
  · exact Ok.bind (okAmong h5.2 (by omega) _ (by simp)) fun r7 h7 => Ok.chk v40 (Ok.get (by omega) fun x _ _ => Ok.ret ⟨⟨hb, by simp only [List.length_set]; omega⟩, h7.2.mono (by omega) (by omega)⟩)
  · exact Ok.bind (okAmong h5.2 (by omega) _ (by simp)) fun r7 h7 => Ok.chk v40 (Ok.get (by omega) fun x _ _ => Ok.ret ⟨⟨hb, by simp only [List.length_set]; omega⟩, h7.2.mono (by omega) (by omega)⟩)
  · exact Ok.mono (okAnyStateLoop (k := k + 400) (by omega) ⟨by omega, by omega, h5.2.mono (by omega) (by omega)⟩) fun r hr => ⟨⟨hb, hr.1⟩, hr.2.mono (by omega) (by omega)⟩
  · exact Ok.ret ⟨⟨hb, n3.1, by have := n3.2; show r3.1.Units.length ≤ 20; omega⟩, h5.2.mono (by omega) (by omega)⟩
def fiG (b : Gi_Board) (s : Gi_State) : Bool := bdG b && stG b s
theorem fiG_ok {b : Gi_Board} {s : Gi_State} (hb : BdLen b) (h : fiG b s = true) : BdV b ∧ StOk b s := by
  simp only [fiG, Bool.and_eq_true] at h
  exact ⟨⟨hb, h.1⟩, stG_ok (bdG_ok h.1) h.2⟩
theorem fits_i {b : Gi_Board} (h : BdLen b) (s : Gi_State) : Di_fits b s = some (fiG b s) := by
  unfold Di_fits fiG
  rw [isBoard_i h, Option.bind_some]
  by_cases c : bdG b = true
  · rw [if_pos c, state_i (bdG_ok c), c]; rfl
  · rw [if_neg c]
    simp only [Bool.not_eq_true] at c
    rw [c]; rfl
def hxG (b : Gi_Board) (s : Gi_State) (i : Int) : Bool := fiG b s && kIn i 0 (b.Map.Terrain.length - 1)
theorem sHex_s {b : Gi_Board} (h : BdLen b) (s : Gi_State) (i : Int) : Ds_sHex b s i = some (hxG b s i) := by
  unfold Ds_sHex hxG
  rw [state_s h, Option.bind_some]
  by_cases c : fiG b s = true
  · have hv := (fiG_ok h c).1
    have := hv.ok.n2
    have hn := hv.ok.n
    unfold fiG at *
    rw [if_pos c, c, mSize_s hv.ok.d (by decide), Option.bind_some, ← hn, w64 (by omega), kin_s]; rfl
  · unfold fiG at *
    rw [if_neg c]
    simp only [Bool.not_eq_true] at c
    rw [c]; rfl

theorem eQInts {l : List Int} (hl : l.length ≤ 2000000) : Dw_qInts l l = some true := by
  unfold Dw_qInts
  rw [if_pos rfl]
  refine true_loop (S := fun i => Sw_qInts.h1 l l (l.length : Int) (i : Int)) (n := l.length) (fun i hi => ?_) ?_
  · simp [Bw_qInts, hi, wsucc (show i < 9223372036854775807 by omega)]
  · simp [Bw_qInts]
def uatL (us : List Gi_Unit) (a : Int) : List Int := (List.range us.length).filterMap fun (i : Nat) => match us[i]? with
  | some u => if u.At = a then some (i : Int) else none
  | none => none
theorem unitsAt_i {s : Gi_State} (h : s.Units.length ≤ 1000) (a : Int) : Di_unitsAt s a = some (uatL s.Units a) := by
  unfold Di_unitsAt uatL
  refine fm_goL (L := loop Bi_unitsAt) (S := fun i acc => .h1 a s.Units (s.Units.length : Int) (i : Int) acc) (r := some) (fun i acc hi ha => ?_) fun acc ha => ?_
  · have hx : s.Units[i]? = some s.Units[i] := List.getElem?_eq_getElem hi
    rw [loop_eq]
    simp only [Bi_unitsAt, ltc hi, nnc, if_true, Int.toNat_natCast, hx, Option.bind_some, if8 (show acc.length ≤ 3000000 by omega), wsucc (show i < 9223372036854775807 by omega)]
    by_cases c1 : s.Units[i].At = a
    · simp [c1, goOn]
    · simp [c1, goOn]
  · rw [loop_eq]
    simp only [Bi_unitsAt, nltc, if_false, goOn]
theorem uatL_mem {us : List Gi_Unit} {a x : Int} (h : x ∈ uatL us a) : ∃ (k : Nat) (u : Gi_Unit), x = k ∧ us[k]? = some u ∧ u.At = a := by
  unfold uatL at h
  rw [List.mem_filterMap] at h
  obtain ⟨k, _, h⟩ := h
  cases hu : us[k]? with
  | none => rw [hu] at h; cases h
  | some u =>
    rw [hu] at h
    dsimp only at h
    split at h
    · rename_i c
      cases h
      exact ⟨k, u, rfl, hu, c⟩
    · cases h
theorem uatL_has {us : List Gi_Unit} {a : Int} {k : Nat} {u : Gi_Unit} (hu : us[k]? = some u) (ha : u.At = a) : (k : Int) ∈ uatL us a := by
  unfold uatL
  rw [List.mem_filterMap]
  exact ⟨k, List.mem_range.2 (List.getElem?_eq_some_iff.1 hu).1, by rw [hu]; simp [ha]⟩
theorem uatL_len (us : List Gi_Unit) (a : Int) : (uatL us a).length ≤ us.length := fm_len _ _
def sideP (us : List Gi_Unit) (side x : Int) : Bool := match us[x.toNat]? with
  | some u => decide (u.Side = side)
  | none => false
theorem satL_fil (us : List Gi_Unit) (a side : Int) : satL us a side = (uatL us a).filter (sideP us side) := by
  unfold satL uatL
  rw [List.filter_filterMap]
  refine fm_congr fun k hk => ?_
  cases hu : us[k]? with
  | none => rfl
  | some u =>
    dsimp only
    by_cases c1 : u.At = a
    · by_cases c2 : u.Side = side
      · simp [c1, c2, sideP, hu, Option.filter]
      · simp [c1, c2, sideP, hu, Option.filter]
    · simp [c1, Option.filter]
theorem own_all {b : Gi_Board} {s : Gi_State} (hs : StOk b s) {i : Int} (h0 : 0 ≤ i) {side : Int} (hd : side = 0 ∨ side = 1) (c : ¬ owN s.Units i = 1 - side) : ∀ u ∈ s.Units, u.At = i → u.Side = side := by
  intro u hu ha
  have hus := (hs.u u hu).s
  cases hf : s.Units.find? (fun u => decide (u.At = i)) with
  | none =>
    have := List.find?_eq_none.1 hf u hu
    simp [ha] at this
  | some u0 =>
    unfold owN at c
    rw [hf] at c
    dsimp only at c
    have hm := List.mem_of_find?_eq_some hf
    have h1 : u0.At = i := by simpa using List.find?_some hf
    have h2 := (hs.u u0 hm).s
    have h3 := (hs.p u0 hm (by omega)).1
    rw [h1] at h3
    have h4 := cnt_pos hu
    rw [ha] at h4
    rcases hd with rfl | rfl <;> rcases h2 with e | e <;> rcases hus with e2 | e2 <;> rw [e] at h3 c <;> rw [e2] at h4 <;> first | exact e2 | (exfalso; simp at h3 c; done) | (exfalso; simp at h3 c; omega)
theorem sat_uat {b : Gi_Board} {s : Gi_State} (hs : StOk b s) {i : Int} (h0 : 0 ≤ i) {side : Int} (hd : side = 0 ∨ side = 1) (c : ¬ owN s.Units i = 1 - side) : satL s.Units i side = uatL s.Units i := by
  rw [satL_fil, List.filter_eq_self]
  intro x hx
  obtain ⟨k, u, rfl, hu, ha⟩ := uatL_mem hx
  unfold sideP
  rw [Int.toNat_natCast, hu]
  exact decide_eq_true (own_all hs h0 hd c u (List.mem_of_getElem? hu) ha)
theorem own_st {s : Gi_State} (h : s.Units.length ≤ 1000) : Ds_sOwn s = some s := by
  unfold Ds_sOwn
  rw [if_pos (by omega)]
def r6 (d : Int) : Int := Int.tmod (d + 3) 6
theorem BdV.d100' {b : Gi_Board} (h : BdV b) : MpDim b.Map 100 := by
  have := h.ok.d
  unfold MpDim at this ⊢
  omega
theorem Ok.and' {α : Type} {o : Option α} {P Q : α → Prop} (h : Ok o P) (g : Ok o Q) : Ok o fun a => P a ∧ Q a := by
  obtain ⟨a, e, p⟩ := h
  obtain ⟨a', e', q⟩ := g
  rw [e] at e'
  cases e'
  exact ⟨a, e, p, q⟩
def diG (m : Gi_Map) (i k : Int) : Nat → Nat → Int
  | 0, _ => -1
  | n + 1, d => if mpNext m i d = k then (d : Int) else diG m i k n (d + 1)
def diT (m : Gi_Map) (i k : Int) : Int := diG m i k 6 0
theorem diG_b {m : Gi_Map} {i k : Int} : ∀ (n d : Nat), d + n = 6 → diG m i k n d = -1 ∨ (0 ≤ diG m i k n d ∧ diG m i k n d < 6 ∧ mpNext m i (diG m i k n d) = k)
  | 0, d, h => .inl rfl
  | n + 1, d, h => by
    unfold diG
    by_cases c : mpNext m i d = k
    · rw [if_pos c]; exact .inr ⟨by omega, by omega, c⟩
    · rw [if_neg c]; exact diG_b n (d + 1) (by omega)
theorem diT_b {m : Gi_Map} {i k : Int} : diT m i k = -1 ∨ (0 ≤ diT m i k ∧ diT m i k < 6 ∧ mpNext m i (diT m i k) = k) := diG_b 6 0 rfl
theorem dirOn_i {b : Gi_Board} (h : BdV b) {i : Int} (hi : 0 ≤ i ∧ i < b.Map.Terrain.length) (k : Int) : Di_directionOn b.Map i k = some (diT b.Map i k) := by
  have key : ∀ (n d : Nat), d + n = 6 → loop Bi_directionOn (.h1 i k (d : Int) b.Map) = some (diG b.Map i k n d) := by
    intro n
    induction n with
    | zero =>
      intro d hd
      rw [loop_eq]
      simp only [Bi_directionOn]
      rw [if_neg (by omega)]; rfl
    | succ n ih =>
      intro d hd
      have ih := ih (d + 1) (by omega)
      rw [loop_eq]
      simp only [Bi_directionOn, diG]
      rw [if_pos (by omega), (h.next hi (d := (d : Int)) (by omega)).1, Option.bind_some, wsucc (by omega)]
      by_cases c : mpNext b.Map i d = k
      · rw [if_pos c, if_pos c]; rfl
      · rw [if_neg c, if_neg c]; exact ih
  exact key 6 0 rfl
def nrU (b : Gi_Board) (u : Gi_Unit) (i : Int) : Bool := !decide (u.At < 0) && decide (diT b.Map i u.At ≥ 0)
theorem isNear_i {b : Gi_Board} (h : BdV b) (u : Gi_Unit) {i : Int} (hi : 0 ≤ i ∧ i < b.Map.Terrain.length) : Di_isNear b u i = some (nrU b u i) := by
  unfold Di_isNear nrU
  by_cases c : u.At ≥ 0
  · rw [if_pos c, dirOn_i h hi, Option.bind_some, decide_eq_false (show ¬ u.At < 0 by omega)]; rfl
  · rw [if_neg c, decide_eq_true (show u.At < 0 by omega)]; rfl
/-- The direction to a unit, for the reference. -/
def sdU (b : Gi_Board) (u : Gi_Unit) (i : Int) : Int := if u.At < 0 then -1 else diT b.Map i u.At
theorem sdU_near (b : Gi_Board) (u : Gi_Unit) (i : Int) : decide (sdU b u i ≥ 0) = nrU b u i := by
  unfold sdU nrU
  by_cases c : u.At < 0 <;> simp [c]
theorem aSide_s {b : Gi_Board} (h : BdV b) {s : Gi_State} {k : Nat} {u : Gi_Unit} (hu : s.Units[k]? = some u) {i : Int} (hi : 0 ≤ i ∧ i < b.Map.Terrain.length) : Ds_aSide b s i (k : Int) = some (sdU b u i) := by
  have key : ∀ (n d : Nat), d + n = 6 → loop Bs_aSide (.h1 i (k : Int) (d : Int) b s) = some (if u.At < 0 then -1 else diG b.Map i u.At n d) := by
    intro n
    induction n with
    | zero =>
      intro d hd
      rw [loop_eq]
      simp only [Bs_aSide]
      rw [if_neg (by omega)]
      simp only [diG]
      split <;> rfl
    | succ n ih =>
      intro d hd
      have ih := ih (d + 1) (by omega)
      rw [loop_eq]
      simp only [Bs_aSide, diG, nnc, if_true, Int.toNat_natCast, hu, Option.bind_some]
      rw [if_pos (by omega), (h.next hi (d := (d : Int)) (by omega)).2, Option.bind_some, wsucc (by omega)]
      by_cases c : mpNext b.Map i d ≥ 0
      · rw [if_pos c]
        by_cases c2 : mpNext b.Map i d = u.At
        · rw [if_pos c2, if_pos c2, if_neg (by omega)]; rfl
        · rw [if_neg c2, if_neg c2]; exact ih
      · rw [if_neg c]
        by_cases c3 : u.At < 0
        · rw [if_pos c3] at ih ⊢; exact ih
        · rw [if_neg c3] at ih
          rw [if_neg c3, if_neg (by omega)]; exact ih
  exact key 6 0 rfl
def akA (l : List Gi_Attack) (k i : Int) : Bool := l.any fun a => decide (a.Unit = k) && decide (a.At = i)
theorem contains_a {l : List Gi_Attack} (hl : l.length ≤ 2000000) (k i : Int) : Dslices_Contains_i_Attack l (Gi_Attack.mk k i) = some (akA l k i) := by
  have key : ∀ (n j : Nat), j + n = l.length → ∃ r, loop Bslices_Index_i_Attack (.h1 l (l.length : Int) (j : Int) (Gi_Attack.mk k i)) = some r ∧ decide (r ≥ 0) = akA (l.drop j) k i := by
    intro n
    induction n with
    | zero =>
      intro j h
      rw [loop_eq, List.drop_of_length_le (by omega)]
      simp only [Bslices_Index_i_Attack]
      rw [if_neg (by omega)]
      exact ⟨-1, rfl, rfl⟩
    | succ n ih =>
      intro j h
      have hx : l[j]? = some l[j] := List.getElem?_eq_getElem (by omega)
      obtain ⟨r, e1, e2⟩ := ih (j + 1) (by omega)
      rw [loop_eq, List.drop_eq_getElem_cons (by omega)]
      simp only [Bslices_Index_i_Attack, akA, List.any_cons]
      rw [if_pos (by omega), if_pos (by omega), Int.toNat_natCast, hx, Option.bind_some, wsucc (by omega)]
      by_cases c : l[j].Unit = k ∧ l[j].At = i
      · rw [if_pos (by simp [c.1, c.2]), decide_eq_true c.1, decide_eq_true c.2]
        exact ⟨_, rfl, by simp⟩
      · have c' : (decide (l[j].Unit = k) && decide (l[j].At = i)) = false := by
          rw [Bool.eq_false_iff]
          intro hh
          simp only [Bool.and_eq_true, decide_eq_true_eq] at hh
          exact c hh
        rw [if_neg (by
          intro hh
          simp only [Bool.and_eq_true, beq_iff_eq] at hh
          exact c ⟨hh.1.symm, hh.2.symm⟩), c', Bool.false_or]
        exact ⟨r, e1, e2⟩
  obtain ⟨r, e1, e2⟩ := key l.length 0 (by omega)
  unfold Dslices_Contains_i_Attack
  rw [show Dslices_Index_i_Attack l (Gi_Attack.mk k i) = some r from e1, Option.bind_some, e2, List.drop_zero]
def akU (b : Gi_Board) (us : List Gi_Unit) (l : List Gi_Attack) (i : Int) (k : Nat) (u : Gi_Unit) : Bool := decide (owN us i = 1 - u.Side) && (nrU b u i && akA l (k : Int) i)
def atL (b : Gi_Board) (us : List Gi_Unit) (l : List Gi_Attack) (i : Int) : List Int := (List.range us.length).filterMap fun (k : Nat) => match us[k]? with
  | some u => if akU b us l i k u = true then some (k : Int) else none
  | none => none
theorem atL_len (b : Gi_Board) (us : List Gi_Unit) (l : List Gi_Attack) (i : Int) : (atL b us l i).length ≤ us.length := fm_len _ _
theorem atL_mem {b : Gi_Board} {us : List Gi_Unit} {l : List Gi_Attack} {i x : Int} (h : x ∈ atL b us l i) : ∃ (k : Nat) (u : Gi_Unit), x = k ∧ us[k]? = some u ∧ akU b us l i k u = true := by
  unfold atL at h
  rw [List.mem_filterMap] at h
  obtain ⟨k, _, h⟩ := h
  cases hu : us[k]? with
  | none => rw [hu] at h; cases h
  | some u =>
    rw [hu] at h
    dsimp only at h
    split at h
    · rename_i c
      cases h
      exact ⟨k, u, rfl, hu, c⟩
    · cases h
theorem uat_own {us : List Gi_Unit} {i : Int} (h : uatL us i = []) : owN us i = -1 := by
  unfold owN
  cases e : us.find? (fun u => decide (u.At = i)) with
  | none => rfl
  | some u =>
    have h1 : u.At = i := by simpa using List.find?_some e
    obtain ⟨k, hk⟩ := List.getElem?_of_mem (List.mem_of_find?_eq_some e)
    have := uatL_has hk h1
    rw [h] at this
    cases this
theorem own_uat {us : List Gi_Unit} {i : Int} (h : uatL us i ≠ []) : ∃ u ∈ us, u.At = i ∧ owN us i = u.Side := by
  unfold owN
  cases e : us.find? (fun u => decide (u.At = i)) with
  | none =>
    refine absurd ?_ h
    rw [List.eq_nil_iff_forall_not_mem]
    intro x hx
    obtain ⟨k, u, _, hu, ha⟩ := uatL_mem hx
    have := List.find?_eq_none.1 e u (List.mem_of_getElem? hu)
    simp [ha] at this
  | some u => exact ⟨u, List.mem_of_find?_eq_some e, by simpa using List.find?_some e, rfl⟩
theorem own_nn {b : Gi_Board} {s : Gi_State} (hs : StOk b s) {i : Int} : owN s.Units i < 0 ↔ uatL s.Units i = [] := by
  constructor
  · intro h
    refine Classical.byContradiction fun hne => ?_
    obtain ⟨u, hu, _, e⟩ := own_uat hne
    have := (hs.u u hu).s
    omega
  · intro h
    rw [uat_own h]; omega
/-- The battle in a hex, if there is one. -/
def btO (b : Gi_Board) (us : List Gi_Unit) (l : List Gi_Attack) (i : Nat) : Option Gi_Battle := if atL b us l (i : Int) = [] then none else some ⟨(i : Int), atL b us l (i : Int), uatL us (i : Int)⟩
def btL (b : Gi_Board) (us : List Gi_Unit) (l : List Gi_Attack) : List Gi_Battle := (List.range b.Map.Terrain.length).filterMap (btO b us l)
theorem btL_len (b : Gi_Board) (us : List Gi_Unit) (l : List Gi_Attack) : (btL b us l).length ≤ b.Map.Terrain.length := fm_len _ _
theorem btL_mem {b : Gi_Board} {us : List Gi_Unit} {l : List Gi_Attack} {z : Gi_Battle} (h : z ∈ btL b us l) : ∃ i : Nat, i < b.Map.Terrain.length ∧ z = ⟨(i : Int), atL b us l (i : Int), uatL us (i : Int)⟩ ∧ atL b us l (i : Int) ≠ [] := by
  unfold btL at h
  rw [List.mem_filterMap] at h
  obtain ⟨i, hi, h⟩ := h
  unfold btO at h
  split at h
  · cases h
  · rename_i c
    cases h
    exact ⟨i, List.mem_range.1 hi, rfl, c⟩
theorem ap56 {l : List Gi_Battle} {x : Gi_Battle} (h : l.length ≤ 3000000) : (l ++ [x]).length * 56 ≤ 70368744177664 := by
  rw [List.length_append, List.length_singleton]; omega
theorem battles_i {b : Gi_Board} (h : BdV b) {s : Gi_State} (hs : StOk b s) {l : List Gi_Attack} (hl : l.length ≤ 2000000) : Di_battlesOf b s l = some (btL b s.Units l) := by
  have hn := h.ok.n2
  have hsn := hs.n
  unfold Di_battlesOf btL
  refine fm_goL (L := loop Bi_battlesOf) (S := fun i acc => .h1 l (b.Map.Terrain.length : Int) (i : Int) b s acc) (r := some) (fun i acc hi ha => ?_) fun acc ha => ?_
  · have hib : (0 : Int) ≤ (i : Int) ∧ (i : Int) < b.Map.Terrain.length := by omega
    have hul := uatL_len s.Units (i : Int)
    rw [loop_eq]
    simp only [Bi_battlesOf, ltc hi, if_true, unitsAt_i (show s.Units.length ≤ 1000 by omega), Option.bind_some, wsucc (show i < 9223372036854775807 by omega)]
    by_cases c : uatL s.Units (i : Int) = []
    · have e : btO b s.Units l i = none := by
        unfold btO
        rw [if_pos]
        unfold atL
        rw [List.filterMap_eq_nil_iff]
        intro k _
        cases hu : s.Units[k]? with
        | none => rfl
        | some u =>
          have hsd := (hs.u u (List.mem_of_getElem? hu)).s
          dsimp only
          unfold akU
          rw [uat_own c, decide_eq_false (by omega)]; rfl
      rw [e, c]; rfl
    · have hc : ¬ (((uatL s.Units (i : Int)).length : Nat) : Int) = 0 := fun e => c (List.length_eq_zero_iff.1 (by omega))
      rw [if_neg hc]
      simp only [goOn]
      have e23 : loop Bi_battlesOf (.h2 l (i : Int) (b.Map.Terrain.length : Int) (i : Int) s.Units (s.Units.length : Int) 0 b s acc (i : Int) [] (uatL s.Units (i : Int))) = loop Bi_battlesOf (.h3 l (i : Int) (b.Map.Terrain.length : Int) (i : Int) s.Units (s.Units.length : Int) 0 b s acc (i : Int) [] (uatL s.Units (i : Int))) := by
        rw [loop_eq]
        conv => rhs; rw [loop_eq]
        rfl
      refine e23.trans ?_
      have ow := own_uat c
      have inner := fm_goL (L := loop Bi_battlesOf) (S := fun k A => .h3 l (i : Int) (b.Map.Terrain.length : Int) (i : Int) s.Units (s.Units.length : Int) (k : Int) b s acc (i : Int) A (uatL s.Units (i : Int))) (n := s.Units.length) (f := fun (k : Nat) => match s.Units[k]? with
        | some u => if akU b s.Units l (i : Int) k u = true then some (k : Int) else none
        | none => none) (r := fun A => loop Bi_battlesOf (.h1 l (b.Map.Terrain.length : Int) ((i + 1 : Nat) : Int) b s (if A = [] then acc else acc ++ [⟨(i : Int), A, uatL s.Units (i : Int)⟩]))) (fun k A hk hA => by
        have hx : s.Units[k]? = some s.Units[k] := List.getElem?_eq_getElem hk
        generalize s.Units[k] = u at hx
        have hsd := (hs.u u (List.mem_of_getElem? hx)).s
        obtain ⟨u0, hu0, _, e0⟩ := ow
        have hs0 := (hs.u u0 hu0).s
        rw [loop_eq]
        simp only [Bi_battlesOf, ltc hk, nnc, if_true, Int.toNat_natCast, hx, Option.bind_some, owner_i (show s.Units.length ≤ 2000000 by omega), isNear_i h u hib, contains_a hl, if8 (show A.length ≤ 3000000 by omega), wsucc (show k < 9223372036854775807 by omega)]
        by_cases c1 : u.Side = owN s.Units (i : Int)
        · have ek : akU b s.Units l (i : Int) k u = false := by unfold akU; rw [decide_eq_false (by omega)]; rfl
          rw [if_pos c1, ek]; rfl
        · have ek : akU b s.Units l (i : Int) k u = (nrU b u (i : Int) && akA l (k : Int) (i : Int)) := by unfold akU; rw [decide_eq_true (by omega), Bool.true_and]
          rw [if_neg c1, ek]
          cases nrU b u (i : Int) <;> cases akA l (k : Int) (i : Int) <;> rfl) (fun A hA => by
        rw [loop_eq]
        simp only [Bi_battlesOf, nltc, if_false, wsucc (show i < 9223372036854775807 by omega), if_pos (ap56 (show acc.length ≤ 3000000 by omega))]
        by_cases cA : A = []
        · rw [cA]; rfl
        · have hA0 : ((A.length : Nat) : Int) > 0 := by have := List.length_pos_iff.2 cA; omega
          rw [if_pos hA0, if_neg cA]; rfl)
      refine inner.trans ?_
      unfold btO
      show loop Bi_battlesOf (.h1 l (b.Map.Terrain.length : Int) ((i + 1 : Nat) : Int) b s (if atL b s.Units l (i : Int) = [] then acc else acc ++ [⟨(i : Int), atL b s.Units l (i : Int), uatL s.Units (i : Int)⟩])) = _
      by_cases cA : atL b s.Units l (i : Int) = []
      · rw [if_pos cA, if_pos cA]
      · rw [if_neg cA, if_neg cA]
  · rw [loop_eq]
    simp only [Bi_battlesOf, nltc, if_false, goOn]
theorem insL_top {x : Int} : ∀ {l : List Int}, (∀ y ∈ l, y < x) → insL x l = l ++ [x] ∧ insL x (l ++ [x]) = l ++ [x]
  | [], _ => ⟨rfl, by simp [insL]⟩
  | y :: l, h => by
    have hy := h y (List.mem_cons_self ..)
    obtain ⟨h1, h2⟩ := insL_top (l := l) fun z hz => h z (List.mem_cons_of_mem _ hz)
    simp only [insL, List.cons_append, if_pos hy, h1, h2, and_self]
theorem battles_s {b : Gi_Board} (h : BdV b) {s : Gi_State} (hs : StOk b s) {l : List Gi_Attack} (hl : l.length ≤ 2000000) : Ds_aBattles b s l = some (btL b s.Units l) := by
  have hn := h.ok.n2
  have hnn := h.ok.n
  have hsn := hs.n
  unfold Ds_aBattles btL
  refine fm_goL (L := loop Bs_aBattles) (S := fun i acc => .h1 l (i : Int) b s acc) (r := some) (fun i acc hi ha => ?_) fun acc ha => ?_
  · have hib : (0 : Int) ≤ (i : Int) ∧ (i : Int) < b.Map.Terrain.length := by omega
    rw [loop_eq]
    simp only [Bs_aBattles, mSize_s h.ok.d (by decide), ← hnn, ltc hi, if_true, Option.bind_some]
    simp only [goOn]
    have e24 : loop Bs_aBattles (.h2 l (i : Int) (s.Units.length : Int) 0 b s acc (i : Int) [] []) = loop Bs_aBattles (.h4 l (i : Int) (s.Units.length : Int) 0 b s acc (i : Int) [] []) := by
      rw [loop_eq]
      conv => rhs; rw [loop_eq]
      rfl
    refine e24.trans ?_
    have hAb : ∀ (k : Nat) (A : List Int), (∀ y ∈ A, y < (k : Int)) → ∀ u, s.Units[k]? = some u → A.length ≤ k → k < s.Units.length → ∀ (m j : Nat), j + m = l.length → ∀ q : Bool, loop Bs_aBattles (.h3 l (i : Int) (k : Int) (s.Units.length : Int) (k : Int) l (l.length : Int) (j : Int) b s acc (i : Int) (if q = true then A ++ [(k : Int)] else A) []) =
        loop Bs_aBattles (.h4 l (i : Int) (s.Units.length : Int) ((k + 1 : Nat) : Int) b s acc (i : Int) (if (q || (decide (owN s.Units (i : Int) = 1 - u.Side) && (nrU b u (i : Int) && akA (l.drop j) (k : Int) (i : Int)))) = true then A ++ [(k : Int)] else A) []) := by
      intro k A hA u hu hAk hkn m
      have hsd := (hs.u u (List.mem_of_getElem? hu)).s
      obtain ⟨t1, t2⟩ := insL_top hA
      induction m with
      | zero =>
        intro j hj q
        have : j = l.length := by omega
        subst this
        rw [loop_eq]
        simp only [Bs_aBattles, nltc, if_false, wsucc (show k < 9223372036854775807 by omega), List.drop_length]
        have e : akA [] (k : Int) (i : Int) = false := rfl
        rw [e, Bool.and_false, Bool.and_false, Bool.or_false]; rfl
      | succ m ih =>
        intro j hj q
        have hjl : j < l.length := by omega
        have hx : l[j]? = some l[j] := List.getElem?_eq_getElem hjl
        have i1 := ih (j + 1) (by omega) q
        have i2 := ih (j + 1) (by omega) true
        rw [List.drop_eq_getElem_cons hjl]
        have ea : akA (l[j] :: l.drop (j + 1)) (k : Int) (i : Int) = ((decide (l[j].Unit = (k : Int)) && decide (l[j].At = (i : Int))) || akA (l.drop (j + 1)) (k : Int) (i : Int)) := rfl
        rw [ea]
        have put : Ds_l1Put_c0 (if q = true then A ++ [(k : Int)] else A) (k : Int) = some (if true = true then A ++ [(k : Int)] else A) := by
          cases q with
          | true => rw [if_pos rfl, put_s (by rw [List.length_append, List.length_singleton]; omega), t2]
          | false => rw [if_neg (by decide), if_pos rfl, put_s (by omega), t1]
        rw [loop_eq]
        simp only [Bs_aBattles, ltc hjl, nnc, if_true, Int.toNat_natCast, hx, hu, Option.bind_some, owner_s (show s.Units.length ≤ 2000000 by omega), aSide_s h hu hib, wsucc (show j < 9223372036854775807 by omega)]
        rw [w64 (n := 1 - u.Side) (by omega)]
        by_cases c1 : l[j].Unit = (k : Int)
        · rw [if_pos c1, decide_eq_true c1, Bool.true_and]
          by_cases c2 : l[j].At = (i : Int)
          · rw [if_pos c2, decide_eq_true c2, Bool.true_or]
            by_cases c3 : owN s.Units (i : Int) = 1 - u.Side
            · rw [if_pos c3, decide_eq_true c3, Bool.true_and]
              rw [decide_eq_true c3] at i1 i2
              by_cases c4 : sdU b u (i : Int) ≥ 0
              · have e4 : nrU b u (i : Int) = true := by rw [← sdU_near]; exact decide_eq_true c4
                rw [if_pos c4, put, Option.bind_some, e4]
                refine i2.trans ?_
                simp
              · have e4 : nrU b u (i : Int) = false := by rw [← sdU_near]; exact decide_eq_false c4
                rw [e4] at i1
                rw [if_neg c4, e4]
                simpa [goOn] using i1
            · rw [decide_eq_false c3] at i1
              rw [if_neg c3, decide_eq_false c3]
              simpa [goOn] using i1
          · rw [if_neg c2, decide_eq_false c2, Bool.false_or]
            exact i1
        · rw [if_neg c1, decide_eq_false c1, Bool.false_and, Bool.false_or]
          exact i1
    have step : ∀ (m k : Nat) (A : List Int), k + m = s.Units.length → A.length ≤ k → (∀ y ∈ A, y < (k : Int)) → loop Bs_aBattles (.h4 l (i : Int) (s.Units.length : Int) (k : Int) b s acc (i : Int) A []) = loop Bs_aBattles (.h4 l (i : Int) (s.Units.length : Int) (s.Units.length : Int) b s acc (i : Int) (A ++ (List.range' k m).filterMap fun (k : Nat) => match s.Units[k]? with
      | some u => if akU b s.Units l (i : Int) k u = true then some (k : Int) else none
      | none => none) []) := by
      intro m
      induction m with
      | zero =>
        intro k A hk hA hy
        have : k = s.Units.length := by omega
        subst this
        simp
      | succ m ih =>
        intro k A hk hA hy
        have hkn : k < s.Units.length := by omega
        have hu : s.Units[k]? = some s.Units[k] := List.getElem?_eq_getElem hkn
        have e1 : loop Bs_aBattles (.h4 l (i : Int) (s.Units.length : Int) (k : Int) b s acc (i : Int) A []) = loop Bs_aBattles (.h3 l (i : Int) (k : Int) (s.Units.length : Int) (k : Int) l (l.length : Int) 0 b s acc (i : Int) A []) := by
          rw [loop_eq]
          simp only [Bs_aBattles, ltc hkn, if_true, goOn]
        have e2 := hAb k A hy _ hu hA hkn l.length 0 (by omega) false
        rw [if_neg (by decide), Bool.false_or, List.drop_zero] at e2
        rw [e1]
        refine e2.trans ?_
        have ea : (decide (owN s.Units (i : Int) = 1 - s.Units[k].Side) && (nrU b s.Units[k] (i : Int) && akA l (k : Int) (i : Int))) = akU b s.Units l (i : Int) k s.Units[k] := rfl
        rw [ea, List.range'_succ, List.filterMap_cons, hu]
        dsimp only
        by_cases c : akU b s.Units l (i : Int) k s.Units[k] = true
        · rw [if_pos c, if_pos c, ih (k + 1) (A ++ [(k : Int)]) (by omega) (by rw [List.length_append, List.length_singleton]; omega) (fun y hy' => by
            rcases List.mem_append.1 hy' with g | g
            · have := hy y g; omega
            · rw [List.mem_singleton] at g; omega)]
          simp
        · rw [if_neg c, if_neg c, ih (k + 1) A (by omega) (by omega) (fun y hy' => by have := hy y hy'; omega)]
    have all := step s.Units.length 0 [] (by omega) (Nat.le_refl _) (fun y hy => by cases hy)
    rw [← List.range_eq_range', List.nil_append] at all
    refine all.trans ?_
    show loop Bs_aBattles (.h4 l (i : Int) (s.Units.length : Int) (s.Units.length : Int) b s acc (i : Int) (atL b s.Units l (i : Int)) []) = _
    rw [loop_eq]
    simp only [Bs_aBattles, nltc, if_false, owner_s (show s.Units.length ≤ 2000000 by omega), sat_s (show s.Units.length ≤ 1000 by omega), Option.bind_some, wsucc (show i < 9223372036854775807 by omega), if_pos (ap56 (show acc.length ≤ 3000000 by omega))]
    unfold btO
    by_cases cA : atL b s.Units l (i : Int) = []
    · rw [cA, if_pos rfl]; rfl
    · have hA0 : (((atL b s.Units l (i : Int)).length : Nat) : Int) > 0 := by have := List.length_pos_iff.2 cA; omega
      obtain ⟨x, hx⟩ := List.exists_mem_of_ne_nil _ cA
      obtain ⟨k, u, _, hu, hk⟩ := atL_mem hx
      have hsd := (hs.u u (List.mem_of_getElem? hu)).s
      unfold akU at hk
      simp only [Bool.and_eq_true, decide_eq_true_eq] at hk
      have hsat : satL s.Units (i : Int) (owN s.Units (i : Int)) = uatL s.Units (i : Int) := sat_uat hs (by omega) (by omega) (by omega)
      rw [if_pos hA0, if_neg cA, hsat]; rfl
  · rw [loop_eq]
    simp only [Bs_aBattles, mSize_s h.ok.d (by decide), ← hnn, nltc, if_false, goOn, Option.bind_some]

theorem equal_i {l m : List Int} (hl : l.length ≤ 2000000) : Dslices_Equal_int l m = some (decide (l = m)) := by
  unfold Dslices_Equal_int
  by_cases c : l.length = m.length
  · rw [if_pos (by omega)]
    have key : ∀ (n j : Nat), j + n = l.length → l.take j = m.take j → loop Bslices_Equal_int (.h1 l m (l.length : Int) (j : Int)) = some (decide (l = m)) := by
      intro n
      induction n with
      | zero =>
        intro j h e
        have hj : j = l.length := by omega
        subst hj
        rw [loop_eq]
        simp only [Bslices_Equal_int, nltc, if_false, goOn]
        rw [List.take_length, c, List.take_length] at e
        rw [decide_eq_true e]
      | succ n ih =>
        intro j h e
        have hj : j < l.length := by omega
        have hx : l[j]? = some l[j] := List.getElem?_eq_getElem hj
        have hy : m[j]? = some (m[j]'(by omega)) := List.getElem?_eq_getElem _
        rw [loop_eq]
        simp only [Bslices_Equal_int, ltc hj, nnc, if_true, Int.toNat_natCast, hx, hy, Option.bind_some, wsucc (show j < 9223372036854775807 by omega)]
        by_cases c2 : l[j] = m[j]'(by omega)
        · rw [if_pos c2]
          refine ih (j + 1) (by omega) ?_
          rw [List.take_add_one, List.take_add_one, e, hx, hy, c2]
        · rw [if_neg c2, decide_eq_false fun hh => c2 (by subst hh; rfl)]; rfl
    exact key l.length 0 (by omega) rfl
  · rw [if_neg (by omega), decide_eq_false fun hh => c (by rw [hh])]
theorem same_s {l m : List Int} (hl : l.length ≤ 2000000) : Ds_l1Same l m = some (decide (l = m)) := by
  unfold Ds_l1Same
  by_cases c : l.length = m.length
  · rw [if_pos (by omega)]
    have key : ∀ (n j : Nat), j + n = l.length → l.take j = m.take j → loop Bs_l1Same (.h1 l m (l.length : Int) (j : Int)) = some (decide (l = m)) := by
      intro n
      induction n with
      | zero =>
        intro j h e
        have hj : j = l.length := by omega
        subst hj
        rw [loop_eq]
        simp only [Bs_l1Same, nltc, if_false, goOn]
        rw [List.take_length, c, List.take_length] at e
        rw [decide_eq_true e]
      | succ n ih =>
        intro j h e
        have hj : j < l.length := by omega
        have hx : l[j]? = some l[j] := List.getElem?_eq_getElem hj
        have hy : m[j]? = some (m[j]'(by omega)) := List.getElem?_eq_getElem _
        rw [loop_eq]
        simp only [Bs_l1Same, ltc hj, nnc, if_true, Int.toNat_natCast, hx, hy, Option.bind_some, wsucc (show j < 9223372036854775807 by omega)]
        by_cases c2 : l[j] = m[j]'(by omega)
        · rw [if_pos c2]
          refine ih (j + 1) (by omega) ?_
          rw [List.take_add_one, List.take_add_one, e, hx, hy, c2]
        · rw [if_neg c2, decide_eq_false fun hh => c2 (by subst hh; rfl)]; rfl
    exact key l.length 0 (by omega) rfl
  · rw [if_neg (by omega), decide_eq_false fun hh => c (by rw [hh])]
def gbA (b : Gi_Board) (us : List Gi_Unit) (i k : Int) : Bool := kIn k 0 (us.length - 1) && match us[k.toNat]? with
  | some u => !decide (u.Side = owN us i) && nrU b u i
  | none => false
def gbB (b : Gi_Board) (us : List Gi_Unit) (x : Gi_Battle) : Bool := kIn x.At 0 (b.Map.Terrain.length - 1) && (!decide (x.Defenders = []) && (decide (x.Defenders = uatL us x.At) && (!decide (x.Attackers = []) && (rising x.Attackers && alli (fun _ k => gbA b us x.At k) x.Attackers))))
theorem len0 {l : List Int} : ((((l.length : Nat) : Int) : Int) = 0) ↔ l = [] := by
  constructor
  · intro h; exact List.length_eq_zero_iff.1 (by omega)
  · intro h; rw [h]; rfl
theorem goodBattle_i {b : Gi_Board} (h : BdV b) {s : Gi_State} (hs : StOk b s) {x : Gi_Battle} (hd : x.Defenders.length ≤ 2000000) (ha : x.Attackers.length ≤ 2000000) : Di_goodBattle b s x = some (gbB b s.Units x) := by
  have hn := h.ok.n2
  have hsn := hs.n
  unfold Di_goodBattle gbB Di_sizeOf
  rw [Option.bind_some, isIndex_i (by omega), Option.bind_some]
  by_cases c1 : kIn x.At 0 (b.Map.Terrain.length - 1) = true
  · have hi := kIn_iff.1 c1
    rw [if_pos c1, c1, Bool.true_and]
    by_cases c2 : x.Defenders = []
    · rw [if_pos (len0.2 c2), decide_eq_true c2]; rfl
    · rw [if_neg (fun e => c2 (len0.1 e)), decide_eq_false c2, unitsAt_i (by omega), Option.bind_some, equal_i hd, Option.bind_some, Bool.not_false, Bool.true_and]
      by_cases c3 : x.Defenders = uatL s.Units x.At
      · rw [if_pos (decide_eq_true c3), decide_eq_true c3, Bool.true_and]
        by_cases c4 : x.Attackers = []
        · rw [if_pos (len0.2 c4), decide_eq_true c4]; rfl
        · rw [if_neg (fun e => c4 (len0.1 e)), decide_eq_false c4, increasing_i ha, Option.bind_some, Bool.not_false, Bool.true_and]
          cases rising x.Attackers with
          | false => rfl
          | true =>
            rw [if_pos rfl, Bool.true_and]
            have := all_goL (L := loop Bi_goodBattle) (S := fun j => .h1 x.Attackers (x.Attackers.length : Int) (j : Int) b s x) (l := x.Attackers) (q := fun _ k => gbA b s.Units x.At k) (f := false) (r := some true) (fun j k hk hj _ => by
              rw [loop_eq]
              simp only [Bi_goodBattle, ltc hj, nnc, if_true, Int.toNat_natCast, hk, Option.bind_some, isIndex_i (x := k) (n := (s.Units.length : Int)) (by omega), wsucc (show j < 9223372036854775807 by omega)]
              cases ck : kIn k 0 ((s.Units.length : Int) - 1) with
              | false => simp only [gbA, ck]; rfl
              | true =>
                have hkb := kIn_iff.1 ck
                have hu : s.Units[k.toNat]? = some (s.Units[k.toNat]'(by omega)) := List.getElem?_eq_getElem _
                generalize s.Units[k.toNat]'(by omega) = u at hu
                rw [if_pos rfl]
                simp only [gbA, ck, hu, Option.bind_some, if_pos hkb.1, owner_i (show s.Units.length ≤ 2000000 by omega), isNear_i h u (show 0 ≤ x.At ∧ x.At < b.Map.Terrain.length by omega), Bool.true_and]
                by_cases c5 : u.Side = owN s.Units x.At
                · rw [if_pos c5, decide_eq_true c5]; rfl
                · rw [if_neg c5, decide_eq_false c5]
                  cases nrU b u x.At <;> rfl) (fun _ => by
              rw [loop_eq]
              simp only [Bi_goodBattle, nltc, if_false, goOn])
            refine Eq.trans this ?_
            cases alli (fun _ k => gbA b s.Units x.At k) x.Attackers <;> rfl
      · rw [if_neg (by simpa using c3), decide_eq_false c3]; rfl
  · rw [if_neg c1]
    simp only [Bool.not_eq_true] at c1
    rw [c1]; rfl
theorem aGood_s {b : Gi_Board} (hb : BdLen b) {s : Gi_State} {x : Gi_Battle} (hd : x.Defenders.length ≤ 2000000) (ha : x.Attackers.length ≤ 2000000) : Ds_aGood b s x = some (fiG b s && gbB b s.Units x) := by
  unfold Ds_aGood
  rw [sHex_s hb, Option.bind_some]
  by_cases c0 : fiG b s = true
  · obtain ⟨h, hs⟩ := fiG_ok hb c0
    have hn := h.ok.n2
    have hsn := hs.n
    unfold hxG gbB
    rw [c0, Bool.true_and, Bool.true_and]
    by_cases c1 : kIn x.At 0 (b.Map.Terrain.length - 1) = true
    · have hi := kIn_iff.1 c1
      rw [if_pos c1, c1, Bool.true_and, owner_s (by omega), Option.bind_some]
      by_cases co : owN s.Units x.At < 0
      · have cu := own_nn hs |>.1 co
        rw [if_pos co, cu]
        by_cases c2 : x.Defenders = []
        · rw [decide_eq_true c2]; rfl
        · rw [decide_eq_false c2]; rfl
      · have ho := owN_b hs x.At
        have hsat : satL s.Units x.At (owN s.Units x.At) = uatL s.Units x.At := sat_uat hs (by omega) (by omega) (by omega)
        have hne : uatL s.Units x.At ≠ [] := fun e => co (own_nn hs |>.2 e)
        rw [if_neg co]
        have hdd : (!decide (x.Defenders = []) && (decide (x.Defenders = uatL s.Units x.At) && (!decide (x.Attackers = []) && (rising x.Attackers && alli (fun _ k => gbA b s.Units x.At k) x.Attackers)))) = (!decide (x.Attackers = []) && (rising x.Attackers && alli (fun _ k => gbA b s.Units x.At k) x.Attackers && decide (x.Defenders = uatL s.Units x.At))) := by
          by_cases c3 : x.Defenders = uatL s.Units x.At
          · rw [decide_eq_true c3, decide_eq_false (by rw [c3]; exact hne)]
            simp
          · rw [decide_eq_false c3]
            simp
        rw [hdd]
        by_cases c4 : x.Attackers = []
        · rw [if_pos (len0.2 c4), decide_eq_true c4]; rfl
        · rw [if_neg (fun e => c4 (len0.1 e)), decide_eq_false c4, w64 (by omega), rise_g ha, Option.bind_some, Bool.not_false, Bool.true_and]
          cases rising x.Attackers with
          | false => rfl
          | true =>
            rw [Bool.true_and, Bool.true_and]
            by_cases c5 : alli (fun _ k => kIn k 0 ((s.Units.length : Int) - 1)) x.Attackers = true
            · rw [if_pos c5, Option.bind_some]
              have := all_goL (L := loop Bs_aGood) (S := fun j => .h1 (owN s.Units x.At) x.Attackers (x.Attackers.length : Int) (j : Int) b s x) (l := x.Attackers) (q := fun _ k => gbA b s.Units x.At k) (f := false) (r := some (decide (x.Defenders = uatL s.Units x.At))) (fun j k hk hj _ => by
                have ck := alli_iff.1 c5 j k hk
                have hkb := kIn_iff.1 ck
                have hu : s.Units[k.toNat]? = some (s.Units[k.toNat]'(by omega)) := List.getElem?_eq_getElem _
                generalize s.Units[k.toNat]'(by omega) = u at hu
                have hsd := aSide_s h (s := s) (k := k.toNat) hu (i := x.At) (by omega)
                rw [show ((k.toNat : Nat) : Int) = k by omega] at hsd
                rw [loop_eq]
                simp only [Bs_aGood, ltc hj, nnc, if_true, Int.toNat_natCast, hk, Option.bind_some, if_pos hkb.1, hu, hsd, gbA, ck, Bool.true_and, wsucc (show j < 9223372036854775807 by omega)]
                by_cases c6 : u.Side = owN s.Units x.At
                · rw [if_pos c6, decide_eq_true c6]; rfl
                · rw [if_neg c6, decide_eq_false c6, ← sdU_near]
                  by_cases c7 : sdU b u x.At < 0
                  · rw [if_pos c7, decide_eq_false (by omega)]; rfl
                  · rw [if_neg c7, decide_eq_true (by omega)]; rfl) (fun _ => by
                rw [loop_eq]
                simp only [Bs_aGood, nltc, if_false, sat_s (show s.Units.length ≤ 1000 by omega), Option.bind_some, hsat, same_s hd, goOn])
              refine Eq.trans this ?_
              cases alli (fun _ k => gbA b s.Units x.At k) x.Attackers <;> rfl
            · have e : alli (fun _ k => gbA b s.Units x.At k) x.Attackers = false := by
                rw [Bool.eq_false_iff]
                intro hh
                refine c5 (alli_iff.2 fun j k hk => ?_)
                have := alli_iff.1 hh j k hk
                unfold gbA at this
                simp only [Bool.and_eq_true] at this
                exact this.1
              rw [if_neg c5, e]; rfl
    · rw [if_neg c1]
      simp only [Bool.not_eq_true] at c1
      rw [c1]; rfl
  · unfold hxG
    simp only [Bool.not_eq_true] at c0
    rw [c0]; rfl
def asU (b : Gi_Board) (u : Gi_Unit) (i : Int) : Int := if frB b.Map (mpEdge b.Map i (diT b.Map i u.At)) = true then fo b u else fo b u / 2
def asF (b : Gi_Board) (us : List Gi_Unit) (i a k : Int) : Int := match us[k.toNat]? with
  | some u => a + asU b u i
  | none => a
theorem gbA_u {b : Gi_Board} {us : List Gi_Unit} {i k : Int} (h : gbA b us i k = true) : ∃ u, us[k.toNat]? = some u ∧ 0 ≤ k ∧ k < us.length ∧ u.Side ≠ owN us i ∧ nrU b u i = true := by
  unfold gbA at h
  simp only [Bool.and_eq_true, kIn_iff] at h
  have hu : us[k.toNat]? = some (us[k.toNat]'(by omega)) := List.getElem?_eq_getElem _
  rw [hu] at h
  simp only [Bool.and_eq_true, Bool.not_eq_true', decide_eq_false_iff_not] at h
  exact ⟨_, hu, by omega, by omega, h.2.1, h.2.2⟩
theorem nr_dir {b : Gi_Board} (h : BdV b) {u : Gi_Unit} {i : Int} (hn : nrU b u i = true) : 0 ≤ u.At ∧ (0 ≤ diT b.Map i u.At ∧ diT b.Map i u.At < 6) ∧ 0 ≤ mpNext b.Map i (diT b.Map i u.At) := by
  unfold nrU at hn
  simp only [Bool.and_eq_true, Bool.not_eq_true', decide_eq_false_iff_not, decide_eq_true_eq] at hn
  rcases diT_b (m := b.Map) (i := i) (k := u.At) with e | ⟨e1, e2, e3⟩
  · omega
  · exact ⟨by omega, ⟨e1, e2⟩, by rw [e3]; omega⟩
theorem asU_b {b : Gi_Board} (h : BdOk b) {u : Gi_Unit} (hu : UnOk b u) (i : Int) : 0 ≤ asU b u i ∧ asU b u i ≤ fo b u ∧ fo b u ≤ 36 := by
  obtain ⟨_, _, _, f1, f2⟩ := fo_b h hu
  unfold asU
  split <;> omega
theorem attack_i {b : Gi_Board} (h : BdV b) {s : Gi_State} (hs : StOk b s) {x : Gi_Battle} (hg : gbB b s.Units x = true) (ha : x.Attackers.length ≤ 2000000) : Di_attackStrength b s x = some (x.Attackers.foldl (asF b s.Units x.At) 0) ∧ Ds_aAttack b s x = some (x.Attackers.foldl (asF b s.Units x.At) 0) := by
  have hsn := hs.n
  unfold gbB at hg
  simp only [Bool.and_eq_true] at hg
  obtain ⟨g1, g2, g3, g4, g5, g6⟩ := hg
  have hi := kIn_iff.1 g1
  have hib : 0 ≤ x.At ∧ x.At < b.Map.Terrain.length := by omega
  have step : ∀ (j : Nat) (a k : Int), x.Attackers[j]? = some k → (0 ≤ a ∧ a ≤ 36 * j) → ∃ u, s.Units[k.toNat]? = some u ∧ 0 ≤ k ∧ UnOk b u ∧ (0 ≤ u.At ∧ (0 ≤ diT b.Map x.At u.At ∧ diT b.Map x.At u.At < 6) ∧ 0 ≤ mpNext b.Map x.At (diT b.Map x.At u.At)) ∧ asF b s.Units x.At a k = a + asU b u x.At ∧ (0 ≤ a + asU b u x.At ∧ a + asU b u x.At ≤ 36 * ((j + 1 : Nat) : Int)) := by
    intro j a k hk hab
    obtain ⟨u, u1, u2, u3, u4, u5⟩ := gbA_u (alli_iff.1 g6 j k hk)
    have huo := hs.u u (List.mem_of_getElem? u1)
    have hb := asU_b h.ok huo x.At
    exact ⟨u, u1, u2, huo, nr_dir h u5, by unfold asF; rw [u1], by omega, by omega⟩
  refine ⟨?_, ?_⟩
  · unfold Di_attackStrength
    refine (fold_goI (L := loop Bi_attackStrength) (S := fun a j => .h1 a x.Attackers (x.Attackers.length : Int) (j : Int) b s x) (l := x.Attackers) (g := asF b s.Units x.At) (I := fun j a => 0 ≤ a ∧ a ≤ 36 * (j : Int)) (r := some) (a := 0) (fun a j k hk hj hab => ?_) (fun a _ => ?_) ⟨by omega, by omega⟩).1
    · obtain ⟨u, u1, u2, u3, ⟨d0, d1, d2⟩, u5, u6⟩ := step j a k hk hab
      have hbb := asU_b h.ok u3 x.At
      rw [u5]
      refine ⟨?_, u6⟩
      rw [loop_eq]
      simp only [Bi_attackStrength, ltc hj, nnc, if_true, Int.toNat_natCast, hk, Option.bind_some, if_pos u2, u1, force_i h.ok u3, dirOn_i h hib, (edge_BdV h hib d1 d2).1, cross_i h.l.m, wsucc (show j < 9223372036854775807 by omega)]
      unfold asU at u6 hbb ⊢
      have hf := (asU_b h.ok u3 x.At).2.2
      have hf0 : 0 ≤ fo b u := by omega
      rcases Bool.eq_false_or_eq_true (frB b.Map (mpEdge b.Map x.At (diT b.Map x.At u.At))) with e | e
      · rw [e] at u6 ⊢
        simp only [if_true] at u6 ⊢
        rw [w64 (n := a + fo b u) (by omega)]; rfl
      · rw [e] at u6 ⊢
        simp only [Bool.false_eq_true, if_false] at u6 ⊢
        rw [Int.tdiv_eq_ediv_of_nonneg hf0, w64 (n := fo b u / 2) (by omega), w64 (n := a + fo b u / 2) (by omega)]; rfl
    · rw [loop_eq]
      simp only [Bi_attackStrength, nltc, if_false, goOn]
  · unfold Ds_aAttack
    refine (fold_goI (L := loop Bs_aAttack) (S := fun a j => .h1 a x.Attackers (x.Attackers.length : Int) (j : Int) b s x) (l := x.Attackers) (g := asF b s.Units x.At) (I := fun j a => 0 ≤ a ∧ a ≤ 36 * (j : Int)) (r := some) (a := 0) (fun a j k hk hj hab => ?_) (fun a _ => ?_) ⟨by omega, by omega⟩).1
    · obtain ⟨u, u1, u2, u3, ⟨d0, d1, d2⟩, u5, u6⟩ := step j a k hk hab
      have hbb := asU_b h.ok u3 x.At
      have hsd := aSide_s h (s := s) (k := k.toNat) u1 hib
      have hfs := force_s h.ok hs (k := k.toNat) u1
      rw [show ((k.toNat : Nat) : Int) = k by omega] at hsd hfs
      have esd : sdU b u x.At = diT b.Map x.At u.At := by unfold sdU; rw [if_neg (by omega)]
      rw [esd] at hsd
      rw [u5]
      refine ⟨?_, u6⟩
      rw [loop_eq]
      simp only [Bs_aAttack, ltc hj, nnc, if_true, Int.toNat_natCast, hk, Option.bind_some, hfs, hsd, Ds_mRiver, Ds_mRoad, (edge_BdV h hib d1 d2).2, has_s h.l.m.2.1, has_s h.l.m.2.2, wsucc (show j < 9223372036854775807 by omega)]
      unfold asU frB at u6 hbb ⊢
      have hf := (asU_b h.ok u3 x.At).2.2
      have hf0 : 0 ≤ fo b u := by have := asU_b h.ok u3 x.At; omega
      rcases Bool.eq_false_or_eq_true (hasB b.Map.Rivers (mpEdge b.Map x.At (diT b.Map x.At u.At))) with e | e
      · rcases Bool.eq_false_or_eq_true (hasB b.Map.Roads (mpEdge b.Map x.At (diT b.Map x.At u.At))) with e' | e'
        · rw [e, e'] at u6 ⊢
          simp only [Bool.not_true, Bool.or_true, if_true] at u6 ⊢
          rw [w64 (n := a + fo b u) (by omega)]; rfl
        · rw [e, e'] at u6 ⊢
          simp only [Bool.not_true, Bool.or_false, Bool.false_eq_true, if_false, if_true] at u6 ⊢
          rw [Int.tdiv_eq_ediv_of_nonneg hf0, w64 (n := fo b u / 2) (by omega), w64 (n := a + fo b u / 2) (by omega)]; rfl
      · rw [e] at u6 ⊢
        simp only [Bool.not_false, Bool.true_or, Bool.false_eq_true, if_false, if_true] at u6 ⊢
        rw [w64 (n := a + fo b u) (by omega)]; rfl
    · rw [loop_eq]
      simp only [Bs_aAttack, nltc, if_false, goOn]

theorem fmi_lt {n : Nat} {f : Nat → Option Int} (hf : ∀ i x, f i = some x → x = (i : Int)) : ∀ (j : Nat) (x y : Int), ((List.range n).filterMap f)[j]? = some x → ((List.range n).filterMap f)[j + 1]? = some y → x < y := by
  have key : ((List.range n).filterMap f).Pairwise (· < ·) := by
    rw [List.pairwise_filterMap]
    refine List.Pairwise.imp ?_ (List.pairwise_lt_range (n := n))
    intro a b hab x hx y hy
    have h1 := hf a x hx
    have h2 := hf b y hy
    omega
  intro j x y hx hy
  obtain ⟨h1, rfl⟩ := List.getElem?_eq_some_iff.1 hx
  obtain ⟨h2, rfl⟩ := List.getElem?_eq_some_iff.1 hy
  exact (List.pairwise_iff_getElem.1 key) j (j + 1) h1 h2 (Nat.lt_succ_self _)
theorem atL_rise (b : Gi_Board) (us : List Gi_Unit) (l : List Gi_Attack) (i : Int) : rising (atL b us l i) = true := by
  rw [rising_iff]
  intro j x y hj hx hy
  obtain ⟨j, rfl⟩ : ∃ j', j = j' + 1 := ⟨j - 1, by omega⟩
  rw [Nat.add_sub_cancel] at hx
  refine fmi_lt (n := us.length) (f := fun (k : Nat) => match us[k]? with
    | some u => if akU b us l i k u = true then some (k : Int) else none
    | none => none) (fun k x h => ?_) j x y hx hy
  cases hu : us[k]? with
  | none => rw [hu] at h; cases h
  | some u =>
    rw [hu] at h
    dsimp only at h
    split at h
    · cases h; rfl
    · cases h
theorem btL_lt {b : Gi_Board} {us : List Gi_Unit} {l : List Gi_Attack} {j : Nat} {x y : Gi_Battle} (hx : (btL b us l)[j]? = some x) (hy : (btL b us l)[j + 1]? = some y) : x.At < y.At := by
  have key : (btL b us l).Pairwise (fun x y => x.At < y.At) := by
    unfold btL
    rw [List.pairwise_filterMap]
    refine List.Pairwise.imp ?_ (List.pairwise_lt_range (n := b.Map.Terrain.length))
    intro a c hac x hx y hy
    unfold btO at hx hy
    split at hx
    · cases hx
    · split at hy
      · cases hy
      · cases hx
        cases hy
        simp only
        omega
  obtain ⟨h1, rfl⟩ := List.getElem?_eq_some_iff.1 hx
  obtain ⟨h2, rfl⟩ := List.getElem?_eq_some_iff.1 hy
  exact (List.pairwise_iff_getElem.1 key) j (j + 1) h1 h2 (Nat.lt_succ_self _)
theorem btL_good {b : Gi_Board} (h : BdV b) {s : Gi_State} (hs : StOk b s) {l : List Gi_Attack} {z : Gi_Battle} (hz : z ∈ btL b s.Units l) : gbB b s.Units z = true := by
  obtain ⟨i, hi, rfl, hne⟩ := btL_mem hz
  have hsn := hs.n
  obtain ⟨x, hx⟩ := List.exists_mem_of_ne_nil _ hne
  have att : ∀ y ∈ atL b s.Units l (i : Int), gbA b s.Units (i : Int) y = true ∧ 0 ≤ owN s.Units (i : Int) := by
    intro y hy
    obtain ⟨k, u, rfl, hu, hk⟩ := atL_mem hy
    have hsd := (hs.u u (List.mem_of_getElem? hu)).s
    have hkl := (List.getElem?_eq_some_iff.1 hu).1
    unfold akU at hk
    simp only [Bool.and_eq_true, decide_eq_true_eq] at hk
    refine ⟨?_, by omega⟩
    unfold gbA
    rw [Int.toNat_natCast, hu, kIn_iff.2 (by omega)]
    simp only [Bool.true_and, Bool.and_eq_true, Bool.not_eq_true', decide_eq_false_iff_not]
    exact ⟨by omega, hk.2.1⟩
  have ho := (att x hx).2
  have hun : uatL s.Units (i : Int) ≠ [] := fun e => by
    have := (own_nn hs (i := (i : Int))).2 e
    omega
  unfold gbB
  simp only
  rw [kIn_iff.2 (by omega), decide_eq_false hun, decide_true, decide_eq_false hne, atL_rise]
  simp only [Bool.not_false, Bool.true_and]
  exact alli_iff.2 fun j k hk => (att k (List.mem_of_getElem? hk)).1
def foI (b : Gi_Board) (k : Int) : Ss_l1Cur_fought → Prop
  | .h1 t c z2 z3 z4 z5 z6 z7 z8 z9 z10 rS rR rO rU rT mW mH sT sW lt lk mt mr mo us => 0 ≤ t ∧ t ≤ 4 ∧ Cu c (k + 10 * (4 - t)) ∧ Gi_Board.mk (Gi_Rules.mk lt lk rS rR rO rU rT) (Gi_Map.mk mW mH mt mr mo) = b ∧ StOk b (Gi_State.mk sT sW us) ∧ 1 ≤ us.length
  | .h2 n i c z2 z3 z4 z5 z6 z7 z8 z9 z10 rS rR rO rU rT mW mH sT sW l lt lk mt mr mo us => n = us.length ∧ 0 ≤ i ∧ i ≤ n ∧ Cu c (k + 100 + 40 * i) ∧ Gi_Board.mk (Gi_Rules.mk lt lk rS rR rO rU rT) (Gi_Map.mk mW mH mt mr mo) = b ∧ StOk b (Gi_State.mk sT sW us) ∧ 1 ≤ us.length ∧ (l.length : Int) ≤ 12 * i
  | .h3 u n i m j c z2 z3 z4 z5 z6 z7 z8 z9 z10 rS rR rO rU rT mW mH sT sW l lt lk mt mr mo us => u = i ∧ n = us.length ∧ m = us.length ∧ 0 ≤ i ∧ i < n ∧ 0 ≤ j ∧ j ≤ m ∧ Cu c (k + 100 + 40 * i + 2 * j) ∧ Gi_Board.mk (Gi_Rules.mk lt lk rS rR rO rU rT) (Gi_Map.mk mW mH mt mr mo) = b ∧ StOk b (Gi_State.mk sT sW us) ∧ 1 ≤ us.length ∧ (l.length : Int) ≤ 12 * i + j
def foM : Ss_l1Cur_fought → Nat
  | .h1 t .. => 100000 + t.toNat
  | .h2 n i .. => 100 * (n - i).toNat + 50
  | .h3 _ n i m j .. => 100 * (n - i).toNat + (m - j).toNat
/-- A drawn fight. -/
structure FtD (b : Gi_Board) (s : Gi_State) (l : List Gi_Attack) : Prop where
  g : GmD b s
  l : l.length ≤ 1000
theorem okFoughtLoop {b : Gi_Board} (hb : BdD b) (hg : bdG b = true) {k : Int} (hk0 : 0 ≤ k) (hk : k + 4000 ≤ 1099511627776) : ∀ {st}, foI b k st → Ok (loop Bs_l1Cur_fought st) fun r => (r.1 = b ∧ StOk b r.2.1 ∧ 1 ≤ r.2.1.Units.length ∧ r.2.2.1.length ≤ 1000) ∧ Cu r.2.2.2 (k + 2000) := by
  have hv : BdV b := ⟨hb.len, hg⟩
  intro st0 h0
  refine Ok.loop (foI b k) foM (fun st hI => ?_) h0
  match st, hI with
  | .h1 t c z2 z3 z4 z5 z6 z7 z8 z9 z10 rS rR rO rU rT mW mH sT sW lt lk mt mr mo us, hI =>
    obtain ⟨h1, h2, hc, rfl, hs, hn1⟩ := hI
    have hn := hs.n
    simp only at hn
    simp only [Bs_l1Cur_fought]
    refine Ok.ite (fun ct => ?_) fun ct => Ok.ret ⟨⟨rfl, by omega, by omega, hc.mono (by omega) (by omega), rfl, hs, hn1, by simp⟩, by simp only [foM]; omega⟩
    refine Ok.bind (okPick hc (by omega) _) fun r2 h2 => Ok.bind (okPick h2.2 (by omega) _) fun r3 h3 => ?_
    have v2 := h2.1.2.1 (by omega)
    have v3 := h3.1.2.1 (by omega)
    have w1 : IntKind.wrap .i64 (t - 1) = t - 1 := w64 (by omega)
    refine Ok.chk h3.1.1 (Ok.get (by omega) fun x5 hx5 m5 => Ok.ite (fun _ => Ok.ret ?_) fun c5 => Ok.chk h2.1.1 (Ok.get (by omega) fun x8 hx8 m8 => Ok.ite (fun _ => Ok.ret ?_) fun _ => Ok.chk h3.1.1 (Ok.get (by omega) fun x11 hx11 m11 => ?_)))
    · rw [w1]; exact ⟨⟨by omega, by omega, h3.2.mono (by omega) (by omega), rfl, hs, hn1⟩, by simp only [foM]; omega⟩
    · rw [w1]; exact ⟨⟨by omega, by omega, h3.2.mono (by omega) (by omega), rfl, hs, hn1⟩, by simp only [foM]; omega⟩
    · rw [hx5] at hx11
      cases hx11
      have hat := (hs.u x5 m5).on c5
      refine Ok.bind (okPick h3.2 (by omega) 6) fun r12 h12 => ?_
      have v12 := h12.1.2.1 (by omega)
      refine Ok.eq (hv.next hat ⟨h12.1.1, v12⟩).2 (Ok.ite (fun _ => Ok.eq (own_st (by simp only; omega)) (Ok.chk h2.1.1 (Ok.get (by simp only; omega) fun x17 hx17 m17 => Ok.eq (state_s hb.len _) (Ok.ite (fun cs => Ok.ret ?_) fun _ => Ok.ret ?_)))) fun _ => Ok.ret ?_)
      · simp only [Bool.and_eq_true] at cs
        rw [w1]
        exact ⟨⟨by omega, by omega, h12.2.mono (by omega) (by omega), rfl, stG_ok hv.ok cs.2, by simpa using hn1⟩, by simp only [foM]; omega⟩
      · rw [w1]; exact ⟨⟨by omega, by omega, h12.2.mono (by omega) (by omega), rfl, hs, hn1⟩, by simp only [foM]; omega⟩
      · rw [w1]; exact ⟨⟨by omega, by omega, h12.2.mono (by omega) (by omega), rfl, hs, hn1⟩, by simp only [foM]; omega⟩
  | .h2 n i c z2 z3 z4 z5 z6 z7 z8 z9 z10 rS rR rO rU rT mW mH sT sW l lt lk mt mr mo us, hI =>
    obtain ⟨rfl, h2, h3, hc, rfl, hs, hn1, hl⟩ := hI
    have hn := hs.n
    simp only at hn
    simp only [Bs_l1Cur_fought]
    refine Ok.ite (fun ci => Ok.ret ⟨⟨rfl, rfl, rfl, h2, ci, Int.le_refl _, by omega, hc.mono (by omega) (by omega), rfl, hs, hn1, by omega⟩, by simp only [foM]; omega⟩) fun ci => ?_
    have htl : (List.take (Int.toNat 24 - 0) (List.drop 0 l)).length ≤ 24 := by rw [List.length_take]; omega
    refine Ok.ite (fun c24 => Ok.chk (by omega) (Ok.bind (okPick hc (by omega) 16) fun r4 h4 => Ok.ite (fun _ => Ok.bind (okAmong h4.2 (by omega) _ (by decide)) fun r6 h6 => Ok.bind (okAmong h6.2 (by omega) _ (by decide)) fun r7 h7 => Ok.chk (by rw [List.length_append, List.length_singleton]; omega) (Ok.ret ?_)) fun _ => Ok.ite (fun _ => Ok.chk (by rw [List.length_append]; omega) (Ok.ret ?_)) fun _ => Ok.ret ?_)) fun c24 => Ok.bind (okPick hc (by omega) 16) fun r3 h3 => Ok.ite (fun _ => Ok.bind (okAmong h3.2 (by omega) _ (by decide)) fun r5 h5 => Ok.bind (okAmong h5.2 (by omega) _ (by decide)) fun r6 h6 => Ok.chk (by rw [List.length_append, List.length_singleton]; omega) (Ok.ret ?_)) fun _ => Ok.ite (fun _ => Ok.chk (by rw [List.length_append]; omega) (Ok.ret ?_)) fun _ => Ok.ret ?_
    · exact ⟨⟨rfl, hs, hn1, by simp only [List.length_append, List.length_singleton]; omega⟩, h7.2.mono (by omega) (by omega)⟩
    · exact ⟨⟨rfl, hs, hn1, by simp only [List.length_append]; omega⟩, h4.2.mono (by omega) (by omega)⟩
    · exact ⟨⟨rfl, hs, hn1, by simp only; omega⟩, h4.2.mono (by omega) (by omega)⟩
    · exact ⟨⟨rfl, hs, hn1, by simp only [List.length_append, List.length_singleton]; omega⟩, h6.2.mono (by omega) (by omega)⟩
    · exact ⟨⟨rfl, hs, hn1, by simp only [List.length_append]; omega⟩, h3.2.mono (by omega) (by omega)⟩
    · exact ⟨⟨rfl, hs, hn1, by simp only; omega⟩, h3.2.mono (by omega) (by omega)⟩
  | .h3 u n i m j c z2 z3 z4 z5 z6 z7 z8 z9 z10 rS rR rO rU rT mW mH sT sW l lt lk mt mr mo us, hI =>
    obtain ⟨rfl, rfl, rfl, h2, h3, h4, h5, hc, rfl, hs, hn1, hl⟩ := hI
    have hn := hs.n
    simp only at hn
    have w1 : j < us.length → IntKind.wrap .i64 (j + 1) = j + 1 := fun h => w64 (by omega)
    simp only [Bs_l1Cur_fought]
    refine Ok.ite (fun cj => ?_) fun cj => Ok.ret ?_
    · have go : ∀ (c' : Gs_l1Cur) (l' : List Gi_Attack), Cu c' (k + 100 + 40 * u + 2 * (j + 1)) → (l'.length : Int) ≤ 12 * u + (j + 1) → (foI (Gi_Board.mk (Gi_Rules.mk lt lk rS rR rO rU rT) (Gi_Map.mk mW mH mt mr mo)) k (.h3 u us.length u us.length (IntKind.wrap .i64 (j + 1)) c' z2 z3 z4 z5 z6 z7 z8 z9 z10 rS rR rO rU rT mW mH sT sW l' lt lk mt mr mo us) ∧ foM (.h3 u us.length u us.length (IntKind.wrap .i64 (j + 1)) c' z2 z3 z4 z5 z6 z7 z8 z9 z10 rS rR rO rU rT mW mH sT sW l' lt lk mt mr mo us) < foM (.h3 u us.length u us.length j c z2 z3 z4 z5 z6 z7 z8 z9 z10 rS rR rO rU rT mW mH sT sW l lt lk mt mr mo us)) := fun c' l' hc' hl' => by
        rw [w1 cj]
        exact ⟨⟨rfl, rfl, rfl, h2, h3, by omega, by omega, hc', rfl, hs, hn1, hl'⟩, by simp only [foM]; omega⟩
      refine Ok.chk h2 (Ok.get (by omega) fun x3 hx3 m3 => Ok.chk h4 (Ok.get (by omega) fun x5 hx5 m5 => Ok.ite (fun _ => Ok.ret (go c l (hc.mono (by omega) (by omega)) (by omega))) fun _ => Ok.chk h4 (Ok.get (by omega) fun x8 hx8 m8 => Ok.ite (fun c8 => Ok.chk h4 (Ok.get (by omega) fun x11 hx11 m11 => ?_)) fun _ => Ok.ret (go c l (hc.mono (by omega) (by omega)) (by omega)))))
      rw [hx8] at hx11
      cases hx11
      have hat := (hs.u x8 m8).on (by omega)
      have hsd := aSide_s hv (s := Gi_State.mk sT sW us) (k := u.toNat) hx3 hat
      rw [show ((u.toNat : Nat) : Int) = u by omega] at hsd
      refine Ok.eq hsd (Ok.ite (fun _ => Ok.bind (okOne hc (by omega) 4) fun r14 h14 => Ok.ite (fun _ => Ok.ret (go _ l (h14.mono (by omega) (by omega)) (by omega))) fun _ => Ok.chk h4 (Ok.get (by omega) fun x17 hx17 m17 => Ok.chk (by rw [List.length_append, List.length_singleton]; omega) (Ok.ret (go _ _ (h14.mono (by omega) (by omega)) (by rw [List.length_append, List.length_singleton]; omega))))) fun _ => Ok.ret (go c l (hc.mono (by omega) (by omega)) (by omega)))
    · rw [w64 (n := u + 1) (by omega)]
      exact ⟨⟨rfl, by omega, by omega, hc.mono (by omega) (by omega), rfl, hs, hn1, by omega⟩, by simp only [foM]; omega⟩
theorem okFought {c : Gs_l1Cur} {k : Int} (h : Cu c k) (hk0 : 0 ≤ k) (hk : k + 9000 ≤ 1099511627776) : Ok (Ds_l1Cur_fought c) fun r => FtD r.1 r.2.1 r.2.2.1 ∧ Cu r.2.2.2 (k + 6000) := by
  unfold Ds_l1Cur_fought
  refine Ok.bind (okAnyBoard h (by omega)) fun r1 h1 => Ok.bind (okAnyState h1.2 (by omega) h1.1) fun r2 h2 => Ok.eq (state_s h1.1.len _) (Ok.ite (fun c0 => Ok.bind (okPick h2.2 (by omega) 5) fun r5 h5 => ?_) fun _ => Ok.ret ⟨⟨h2.1, by simp⟩, h2.2.mono (by omega) (by omega)⟩)
  simp only [Bool.and_eq_true] at c0
  have v5 := h5.1.2.1 (by omega)
  have hs := stG_ok (bdG_ok c0.1) c0.2
  have hn := h2.1.n
  refine Ok.mono (okFoughtLoop h1.1 c0.1 (k := k + 3110) (by omega) (by omega) ?_) fun r hr => ⟨⟨?_, hr.1.2.2.2⟩, hr.2.mono (by omega) (by omega)⟩
  · exact ⟨h5.1.1, by omega, h5.2.mono (by omega) (by omega), rfl, hs, hn.1⟩
  · have := hr.1.2.1.n
    exact ⟨hr.1.1 ▸ h1.1, hr.1.2.2.1, by omega⟩
/-- A drawn battle. -/
structure BtD (b : Gi_Board) (s : Gi_State) (x : Gi_Battle) : Prop where
  g : GmD b s
  a : x.Attackers.length ≤ 1000
  d : x.Defenders.length ≤ 1000
theorem okBattle {c : Gs_l1Cur} {k : Int} (h : Cu c k) (hk0 : 0 ≤ k) (hk : k + 9000 ≤ 1099511627776) : Ok (Ds_l1Cur_battle c) fun r => BtD r.1 r.2.1 r.2.2.1 ∧ Cu r.2.2.2 (k + 6100) := by
  unfold Ds_l1Cur_battle
  refine Ok.bind (okFought h hk0 hk) fun r1 h1 => Ok.eq (state_s h1.1.g.b.len _) (Ok.ite (fun c0 => ?_) fun _ => Ok.ret ⟨⟨h1.1.g, by simp, by simp⟩, h1.2.mono (by omega) (by omega)⟩)
  simp only [Bool.and_eq_true] at c0
  have hv : BdV r1.1 := ⟨h1.1.g.b.len, c0.1⟩
  have hs := stG_ok hv.ok c0.2
  have hl := h1.1.l
  have hn := hv.ok.n2
  have hsn := hs.n
  have hbl := btL_len r1.1 r1.2.1.Units r1.2.2.1
  refine Ok.eq (battles_s hv hs (by omega)) (Ok.ite (fun _ => Ok.bind (okPick h1.2 (by omega) 9) fun r6 h6 => Ok.ret ⟨⟨h1.1.g, by simp, by simp⟩, h6.2.mono (by omega) (by omega)⟩) fun cl => Ok.bind (okPick h1.2 (by omega) _) fun r6 h6 => ?_)
  have v6 := h6.1.2.1 (by omega)
  refine Ok.chk h6.1.1 (Ok.get (by omega) fun x8 hx8 m8 => ?_)
  obtain ⟨i, _, rfl, _⟩ := btL_mem m8
  have ha := atL_len r1.1 r1.2.1.Units r1.2.2.1 (i : Int)
  have hu := uatL_len r1.2.1.Units (i : Int)
  refine Ok.bind (okPick h6.2 (by omega) 24) fun r9 h9 => Ok.ite (fun _ => Ok.chk (by simp only [List.length_append, List.length_singleton]; omega) (Ok.ret ?_)) fun _ => Ok.ite (fun _ => Ok.bind (okAmong h9.2 (by omega) _ (by decide)) fun r12 h12 => Ok.chk (by simp only [List.length_append, List.length_singleton]; omega) (Ok.ret ?_)) fun _ => Ok.ite (fun _ => Ok.bind (okAmong h9.2 (by omega) _ (by decide)) fun r13 h13 => Ok.ret ?_) fun _ => Ok.ret ?_
  · exact ⟨⟨h1.1.g, by simp only; omega, by simp only [List.length_append, List.length_singleton]; omega⟩, h9.2.mono (by omega) (by omega)⟩
  · exact ⟨⟨h1.1.g, by simp only [List.length_append, List.length_singleton]; omega, by simp only; omega⟩, h12.2.mono (by omega) (by omega)⟩
  · exact ⟨⟨h1.1.g, by simp only; omega, by simp only; omega⟩, h13.2.mono (by omega) (by omega)⟩
  · exact ⟨⟨h1.1.g, by simp only; omega, by simp only; omega⟩, h9.2.mono (by omega) (by omega)⟩
def btR (b : Gi_Board) (s : Gi_State) (l : List Gi_Attack) : List Gi_Battle × Bool := if (fiG b s && decide (l.length ≤ 24)) = true then (btL b s.Units l, true) else ([], false)
theorem battlesOf_i {b : Gi_Board} (hb : BdLen b) (s : Gi_State) (l : List Gi_Attack) : Di_BattlesOf b s l = some (btR b s l) := by
  unfold Di_BattlesOf btR
  rw [fits_i hb, Option.bind_some]
  by_cases c : fiG b s = true
  · obtain ⟨h, hs⟩ := fiG_ok hb c
    rw [if_pos c, c, Bool.true_and]
    by_cases c2 : l.length ≤ 24
    · rw [if_neg (by omega), if_pos (decide_eq_true c2), battles_i h hs (by omega)]; rfl
    · rw [if_pos (by omega), if_neg (by simpa using c2)]
  · rw [if_neg c]
    simp only [Bool.not_eq_true] at c
    rw [c]; rfl
theorem battlesOf_s {b : Gi_Board} (hb : BdLen b) (s : Gi_State) (l : List Gi_Attack) : Ds_BattlesOf b s l = some (btR b s l) := by
  unfold Ds_BattlesOf btR
  rw [state_s hb, Option.bind_some]
  by_cases c : fiG b s = true
  · obtain ⟨h, hs⟩ := fiG_ok hb c
    have c' := c
    unfold fiG at c'
    rw [if_pos c', c, Bool.true_and]
    by_cases c2 : l.length ≤ 24
    · rw [if_neg (by omega), if_pos (decide_eq_true c2), battles_s h hs (by omega)]; rfl
    · rw [if_pos (by omega), if_neg (by simpa using c2)]
  · have c' := c
    unfold fiG at c'
    rw [if_neg c']
    simp only [Bool.not_eq_true] at c
    rw [c]; rfl
def asR (b : Gi_Board) (s : Gi_State) (x : Gi_Battle) : Int × Bool := if (fiG b s && gbB b s.Units x) = true then (x.Attackers.foldl (asF b s.Units x.At) 0, true) else (0, false)
theorem attackS_i {b : Gi_Board} (hb : BdLen b) {s : Gi_State} {x : Gi_Battle} (ha : x.Attackers.length ≤ 1000) (hd : x.Defenders.length ≤ 1000) : Di_AttackStrength b s x = some (asR b s x) := by
  unfold Di_AttackStrength Di_hasBattle asR
  rw [fits_i hb, Option.bind_some]
  by_cases c : fiG b s = true
  · obtain ⟨h, hs⟩ := fiG_ok hb c
    rw [if_pos c, c, Bool.true_and, goodBattle_i h hs (by omega) (by omega), Option.bind_some, Option.bind_some]
    by_cases c2 : gbB b s.Units x = true
    · rw [if_pos c2, if_pos c2, (attack_i h hs c2 (by omega)).1]; rfl
    · rw [if_neg c2, if_neg c2]
  · rw [if_neg c]
    simp only [Bool.not_eq_true] at c
    rw [c]; rfl
theorem attackS_s {b : Gi_Board} (hb : BdLen b) {s : Gi_State} {x : Gi_Battle} (ha : x.Attackers.length ≤ 1000) (hd : x.Defenders.length ≤ 1000) : Ds_AttackStrength b s x = some (asR b s x) := by
  unfold Ds_AttackStrength asR
  rw [aGood_s hb (by omega) (by omega), Option.bind_some]
  by_cases c : (fiG b s && gbB b s.Units x) = true
  · have c' := c
    simp only [Bool.and_eq_true] at c'
    obtain ⟨h, hs⟩ := fiG_ok hb c'.1
    rw [if_pos c, if_pos c, (attack_i h hs c'.2 (by omega)).2]; rfl
  · rw [if_neg c, if_neg c]
theorem bat_5t {u t2 t3 t5 t6 : Int} {L : List Int} {b : Gi_Board} {y1 y2 : Int} {l : List Gi_Attack} {X Y : List Gi_Battle} {z : Gi_Battle} {us : List Gi_Unit} (hl : l.length ≤ 1000) : ∀ (n j : Nat), j + n = l.length → loop Bw_FnBattles (.h5 u true t2 t3 L t5 t6 (l.length : Int) (j : Int) b y1 y2 l X Y z us) = loop Bw_FnBattles (.h4 t2 t3 L t5 (IntKind.wrap .i64 (t6 + 1)) b y1 y2 l X Y z us)
  | 0, j, h => by
    conv => lhs; rw [loop_eq]
    have : j = l.length := by omega
    subst this
    simp only [Bw_FnBattles, nltc, if_false, goOn]
  | n + 1, j, h => by
    have hk : j < l.length := by omega
    have hx : l[j]? = some l[j] := List.getElem?_eq_getElem hk
    conv => lhs; rw [loop_eq]
    simp only [Bw_FnBattles, ltc hk, nnc, if_true, Int.toNat_natCast, hx, Option.bind_some, wsucc (show j < 9223372036854775807 by omega), goOn]
    exact bat_5t hl n (j + 1) (by omega)
end Go.Proofs.YtakcjcjfcignjaaGreatDoor.Ab
