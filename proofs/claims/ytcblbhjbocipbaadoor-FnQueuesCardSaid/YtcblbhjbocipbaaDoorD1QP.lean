/- Part of the proof of FnQueuesCard: no condition of its own. -/
import Derived.Test.YtcblbhjbocipbaaDoorD1QD
import Derived.Test.YtcblbhjbocipbaaDoorPuA
set_option linter.unusedVariables false
set_option linter.unusedSimpArgs false
open Go
namespace Go.Proofs.YtcblbhjbocipbaaDoor.Ab
structure Cu (c : Gs_l1Cur) (k : Int) : Prop where
  at0 : 0 ≤ c.at_
  atk : c.at_ ≤ k
  kk : k ≤ 1099511627776
  code : ∀ x ∈ c.code, 0 ≤ x ∧ x < 256
  len : c.code.length < 9223372036854775808

theorem Cu.mono {c : Gs_l1Cur} {k k' : Int} (h : Cu c k) (hk : k ≤ k') (hb : k' ≤ 1099511627776) : Cu c k' := ⟨h.at0, by have := h.atk; omega, hb, h.code, h.len⟩

theorem and255 (x : Int) : 0 ≤ IntKind.wrap .i64 (IntKind.wrap .u64 ((BitVec.toNat (BitVec.ofInt (IntKind.bits .u64) x &&& BitVec.ofInt (IntKind.bits .u64) 255) : Nat) : Int)) ∧ IntKind.wrap .i64 (IntKind.wrap .u64 ((BitVec.toNat (BitVec.ofInt (IntKind.bits .u64) x &&& BitVec.ofInt (IntKind.bits .u64) 255) : Nat) : Int)) < 256 := by
  have h : (BitVec.ofInt (IntKind.bits .u64) x &&& BitVec.ofInt (IntKind.bits .u64) 255).toNat ≤ 255 := by
    rw [BitVec.toNat_and]
    have e : (BitVec.ofInt (IntKind.bits .u64) 255).toNat = 255 := by decide
    rw [e]
    exact Nat.and_le_right
  generalize (BitVec.ofInt (IntKind.bits .u64) x &&& BitVec.ofInt (IntKind.bits .u64) 255).toNat = n at h
  have h2 : IntKind.wrap .u64 (n : Int) = (n : Int) := by
    simp only [IntKind.wrap, IntKind.bits, IntKind.signed]
    simp
    omega
  rw [h2, w64 (by omega)]
  omega

theorem cuNext {c : Gs_l1Cur} {k : Int} (h : Cu c k) (hk : k + 1 ≤ 1099511627776) : ∃ v c', Ds_l1Cur_next c = some (v, c') ∧ (0 ≤ v ∧ v < 256) ∧ Cu c' (k + 1) := by
  have h0 := h.at0
  have h1 := h.atk
  have mk : ∀ s, Cu ⟨c.code, c.at_ + 1, s⟩ (k + 1) := fun s => ⟨by simp only; omega, by simp only; omega, hk, h.code, h.len⟩
  unfold Ds_l1Cur_next
  rw [w64 (n := c.at_ + 1) (by omega)]
  by_cases ha : c.at_ < (c.code.length : Int)
  · have hlt : c.at_.toNat < c.code.length := by omega
    have hx := List.getElem?_eq_getElem hlt
    have hv := h.code _ (List.mem_of_getElem? hx)
    rw [if_pos ha, if_pos h0, hx]
    simp only [Option.bind_some]
    split
    · exact ⟨_, _, rfl, by rw [w64 (by omega)]; exact hv, mk _⟩
    · exact ⟨_, _, rfl, and255 _, mk _⟩
  · rw [if_neg ha]
    split
    · exact ⟨_, _, rfl, by omega, mk _⟩
    · exact ⟨_, _, rfl, and255 _, mk _⟩

theorem cuPick {c : Gs_l1Cur} {k : Int} (h : Cu c k) (hk : k + 2 ≤ 1099511627776) (n : Int) : ∃ v c', Ds_l1Cur_pick c n = some (v, c') ∧ (0 ≤ v ∧ (1 ≤ n → v < n) ∧ v ≤ 65535) ∧ Cu c' (k + 2) := by
  unfold Ds_l1Cur_pick
  by_cases h1 : n ≤ 1
  · rw [if_pos h1]
    exact ⟨_, _, rfl, by omega, h.mono (by omega) hk⟩
  · rw [if_neg h1]
    obtain ⟨v, c1, e1, hv, hc1⟩ := cuNext h (by omega)
    rw [e1]
    simp only [Option.bind_some]
    by_cases h2 : n > 200
    · rw [if_pos h2]
      obtain ⟨u, c2, e2, hu, hc2⟩ := cuNext hc1 (by omega)
      rw [e2]
      simp only [Option.bind_some]
      rw [if_pos (by omega), w64 (n := v * 256) (by omega), w64 (by omega)]
      have a1 := Int.tmod_nonneg n (show 0 ≤ v * 256 + u by omega)
      have a2 := Int.tmod_lt_of_pos (v * 256 + u) (show 0 < n by omega)
      have a3 : Int.tmod (v * 256 + u) n ≤ v * 256 + u := by
        have b1 := Int.mul_tdiv_add_tmod (v * 256 + u) n
        have b2 := Int.mul_nonneg (show 0 ≤ n by omega) (Int.tdiv_nonneg (show 0 ≤ v * 256 + u by omega) (show 0 ≤ n by omega))
        omega
      exact ⟨_, _, rfl, ⟨a1, fun _ => a2, by omega⟩, by have := hc2; rw [Int.add_assoc] at this; exact this⟩
    · rw [if_neg h2, if_pos (by omega)]
      have a1 := Int.tmod_nonneg n hv.1
      have a2 := Int.tmod_lt_of_pos v (show 0 < n by omega)
      exact ⟨_, _, rfl, ⟨a1, fun _ => a2, by omega⟩, hc1.mono (by omega) hk⟩

theorem cuOne {c : Gs_l1Cur} {k : Int} (h : Cu c k) (hk : k + 2 ≤ 1099511627776) (n : Int) : ∃ v c', Ds_l1Cur_one c n = some (v, c') ∧ Cu c' (k + 2) := by
  obtain ⟨v, c1, e1, _, hc1⟩ := cuPick h hk n
  unfold Ds_l1Cur_one
  rw [e1]
  exact ⟨_, _, rfl, hc1⟩

theorem cuAmong {c : Gs_l1Cur} {k : Int} (h : Cu c k) (hk : k + 2 ≤ 1099511627776) (l : List Int) (hl : 0 < l.length) : ∃ v c', Ds_l1Cur_among c l = some (v, c') ∧ v ∈ l ∧ Cu c' (k + 2) := by
  obtain ⟨v, c1, e1, hv, hc1⟩ := cuPick h hk l.length
  unfold Ds_l1Cur_among
  rw [e1]
  have hlt : v.toNat < l.length := by have := hv.2.1 (by omega); omega
  have hx := List.getElem?_eq_getElem hlt
  simp only [Option.bind_some]
  rw [if_pos hv.1, hx]
  exact ⟨_, _, rfl, List.mem_of_getElem? hx, hc1⟩

theorem cu1 {code : List Int} (h : ∀ x ∈ code, 0 ≤ x ∧ x < 256) (hl : code.length < 9223372036854775808) : Cu ⟨code, 0, 0⟩ 0 := ⟨Int.le_refl _, Int.le_refl _, by decide, h, hl⟩

theorem mulb {a b A B : Int} (ha : -A ≤ a ∧ a ≤ A) (hb : -B ≤ b ∧ b ≤ B) : -(A * B) ≤ a * b ∧ a * b ≤ A * B := by
  have h1 : a.natAbs ≤ A.natAbs := by omega
  have h2 : b.natAbs ≤ B.natAbs := by omega
  have h3 := Nat.mul_le_mul h1 h2
  rw [← Int.natAbs_mul, ← Int.natAbs_mul] at h3
  have : 0 ≤ A * B := Int.mul_nonneg (by omega) (by omega)
  omega

/-- The hexes' distance. -/
def hd (A B : Gi_Hex) : Int := ((B.Q - A.Q).natAbs + (B.R - A.R).natAbs + (B.Q - A.Q + (B.R - A.R)).natAbs : Nat) / 2

def dQ (d : Int) : Int := if d = 0 then 1 else if d = 1 then 1 else if d = 2 then 0 else if d = 3 then -1 else if d = 4 then -1 else 0
def dR (d : Int) : Int := if d = 0 then 0 else if d = 1 then -1 else if d = 2 then -1 else if d = 3 then 0 else 1
def hexGo (h : Gi_Hex) (d n : Int) : Gi_Hex := ⟨h.Q + n * dQ d, h.R + n * dR d⟩
def HexMid (h : Gi_Hex) : Prop := -10000 ≤ h.Q ∧ h.Q ≤ 10000 ∧ -10000 ≤ h.R ∧ h.R ≤ 10000

theorem sixDirs {d : Int} (h : 0 ≤ d ∧ d < 6) : d = 0 ∨ d = 1 ∨ d = 2 ∨ d = 3 ∨ d = 4 ∨ d = 5 := by omega
theorem dirGet {d : Int} (h : 0 ≤ d ∧ d < 6) : gv0[d.toNat]? = some ⟨dQ d, dR d⟩ := by
  rcases sixDirs h with rfl | rfl | rfl | rfl | rfl | rfl <;> rfl
theorem dirQ {d : Int} (h : 0 ≤ d ∧ d < 6) : [1, 1, 0, (-1), (-1), 0][d.toNat]? = some (dQ d) := by
  rcases sixDirs h with rfl | rfl | rfl | rfl | rfl | rfl <;> rfl
theorem dirR {d : Int} (h : 0 ≤ d ∧ d < 6) : [0, (-1), (-1), 0, 1, 1][d.toNat]? = some (dR d) := by
  rcases sixDirs h with rfl | rfl | rfl | rfl | rfl | rfl <;> rfl
theorem dirB {d : Int} (h : 0 ≤ d ∧ d < 6) (n : Int) : (n * dQ d = n ∨ n * dQ d = 0 ∨ n * dQ d = -n) ∧ (n * dR d = n ∨ n * dR d = 0 ∨ n * dR d = -n) := by
  rcases sixDirs h with rfl | rfl | rfl | rfl | rfl | rfl <;> simp [dQ, dR] <;> omega
theorem stepBy_i {h : Gi_Hex} {d n : Int} (hd : 0 ≤ d ∧ d < 6) (hh : HexMid h) (hn : -10000 ≤ n ∧ n ≤ 10000) : Di_stepBy h d n = some (hexGo h d n) := by
  obtain ⟨b1, b2⟩ := dirB hd n
  unfold HexMid at hh
  unfold Di_stepBy hexGo
  rw [if_pos hd.1, dirGet hd, Option.bind_some, if_pos hd.1, Option.bind_some]
  rw [w64 (n := n * dQ d) (by omega), w64 (n := n * dR d) (by omega), w64 (by omega), w64 (by omega)]
theorem hStep_s {h : Gi_Hex} {d : Int} (hd : 0 ≤ d ∧ d < 6) (hh : HexMid h) : Ds_hStep h d = some (hexGo h d 1) := by
  obtain ⟨b1, b2⟩ := dirB hd 1
  unfold HexMid at hh
  unfold Ds_hStep hexGo
  rw [if_pos hd.1, dirQ hd, Option.bind_some, if_pos hd.1, dirR hd, Option.bind_some]
  simp only [Int.one_mul] at b1 b2 ⊢
  rw [w64 (by omega), w64 (by omega)]
def MpDim (m : Gi_Map) (b : Int) : Prop := 1 ≤ m.Width ∧ m.Width ≤ b ∧ 1 ≤ m.Height ∧ m.Height ≤ b
def mpHex (m : Gi_Map) (i : Int) : Gi_Hex := ⟨i % m.Width, i / m.Width⟩
theorem mpDiv {i w : Int} (hi : 0 ≤ i) (hw : 1 ≤ w) : 0 ≤ i / w ∧ i / w ≤ i ∧ 0 ≤ i % w ∧ i % w < w := ⟨Int.ediv_nonneg hi (by omega), Int.ediv_le_self _ hi, Int.emod_nonneg _ (by omega), Int.emod_lt_of_pos _ (by omega)⟩
theorem hexOf_b {m : Gi_Map} {i : Int} (hw : 1 ≤ m.Width) (hi : 0 ≤ i ∧ i ≤ 10000) : Di_hexOf m i = some (mpHex m i) ∧ Ds_mHex m i = some (mpHex m i) := by
  obtain ⟨d1, d2, d3, d4⟩ := mpDiv hi.1 hw
  have h0 : ¬ m.Width = 0 := by omega
  unfold Di_hexOf Ds_mHex mpHex
  rw [if_pos h0, if_pos h0, Int.tmod_eq_emod_of_nonneg hi.1, Int.tdiv_eq_ediv_of_nonneg hi.1, w64 (by omega)]
  exact ⟨rfl, rfl⟩
theorem mpHex_mid {m : Gi_Map} {i : Int} (hw : 1 ≤ m.Width ∧ m.Width ≤ 100) (hi : 0 ≤ i ∧ i ≤ 10000) : HexMid (mpHex m i) := by
  obtain ⟨d1, d2, d3, d4⟩ := mpDiv hi.1 hw.1
  unfold HexMid mpHex
  simp only
  omega
def mpIdx (m : Gi_Map) (h : Gi_Hex) : Int := if 0 ≤ h.Q ∧ h.Q ≤ m.Width - 1 ∧ 0 ≤ h.R ∧ h.R ≤ m.Height - 1 then h.R * m.Width + h.Q else -1
theorem indexOf_b {m : Gi_Map} {h : Gi_Hex} (hd : MpDim m 100) : Di_indexOf m h = some (mpIdx m h) ∧ Ds_mIndex m h = some (mpIdx m h) := by
  unfold MpDim at hd
  unfold Di_indexOf Ds_mIndex Di_isIndex Di_inRange Ds_l1In mpIdx
  rw [w64 (n := m.Width - 1) (by omega), w64 (n := m.Height - 1) (by omega)]
  by_cases c1 : 0 ≤ h.Q
  · by_cases c2 : h.Q ≤ m.Width - 1
    · by_cases c3 : 0 ≤ h.R
      · by_cases c4 : h.R ≤ m.Height - 1
        · have hm := mulb (a := h.R) (b := m.Width) (A := 100) (B := 100) (by omega) (by omega)
          simp only [c1, c2, c3, c4, if_true, Option.bind_some, decide_true, ge_iff_le, and_self]
          rw [w64 (n := h.R * m.Width) (by omega), w64 (by omega)]
        · simp [c1, c2, c3, c4]
      · simp [c1, c2, c3]
    · simp [c1, c2]
  · simp [c1]
def mpNext (m : Gi_Map) (i d : Int) : Int := mpIdx m (hexGo (mpHex m i) d 1)
theorem next_b {m : Gi_Map} {i d : Int} (hd : MpDim m 100) (hi : 0 ≤ i ∧ i ≤ 10000) (h6 : 0 ≤ d ∧ d < 6) : Di_nextTo m i d = some (mpNext m i d) ∧ Ds_mNext m i d = some (mpNext m i d) := by
  have hd' := hd
  unfold MpDim at hd'
  have hm := mpHex_mid (m := m) (i := i) ⟨hd'.1, hd'.2.1⟩ hi
  obtain ⟨a1, a2⟩ := hexOf_b (m := m) hd'.1 hi
  obtain ⟨b1, b2⟩ := indexOf_b (h := hexGo (mpHex m i) d 1) hd
  unfold Di_nextTo Ds_mNext
  rw [a1, a2, Option.bind_some, Option.bind_some, stepBy_i h6 hm (by decide), hStep_s h6 hm, Option.bind_some, Option.bind_some, b1, b2]
  exact ⟨rfl, rfl⟩
theorem mpSize {m : Gi_Map} {b : Int} (hd : MpDim m b) : 1 ≤ m.Width * m.Height ∧ m.Width * m.Height ≤ b * b := by
  unfold MpDim at hd
  constructor
  · have := Int.mul_le_mul hd.1 hd.2.2.1 (by decide) (by omega)
    omega
  · exact Int.mul_le_mul hd.2.1 hd.2.2.2 (by omega) (by omega)
theorem mSize_s {m : Gi_Map} {b : Int} (hd : MpDim m b) (hb : b * b ≤ 2000000) : Ds_mSize m = some (m.Width * m.Height) := by
  have := mpSize hd
  unfold Ds_mSize
  rw [w64 (by omega)]

def mpEdgeOk (m : Gi_Map) (e : Int) : Bool := decide (0 ≤ e) && decide (e ≤ 3 * (m.Width * m.Height) - 1) && decide (0 ≤ mpNext m (e / 3) (e % 3))
theorem mpEdge_iff {m : Gi_Map} {e : Int} : mpEdgeOk m e = true ↔ 0 ≤ e ∧ e ≤ 3 * (m.Width * m.Height) - 1 ∧ 0 ≤ mpNext m (e / 3) (e % 3) := by
  simp [mpEdgeOk, and_assoc]
theorem isEdge_i {m : Gi_Map} {e : Int} (hd : MpDim m 10) : Di_isEdge m e = some (mpEdgeOk m e) := by
  have hs := mpSize hd
  have hd1 : MpDim m 100 := by unfold MpDim at hd ⊢; omega
  have hd' := hd
  unfold MpDim at hd'
  unfold Di_isEdge Di_inRange mpEdgeOk
  have e1 : 3 * m.Width * m.Height = 3 * (m.Width * m.Height) := Int.mul_assoc _ _ _
  rw [w64 (n := 3 * m.Width) (by omega), e1, w64 (n := 3 * (m.Width * m.Height)) (by omega), w64 (n := 3 * (m.Width * m.Height) - 1) (by omega)]
  by_cases c1 : 0 ≤ e
  · by_cases c2 : e ≤ 3 * (m.Width * m.Height) - 1
    · have h3 : 0 ≤ e / 3 ∧ e / 3 ≤ 10000 := by omega
      simp only [c1, c2, if_true, Option.bind_some, decide_true, Bool.true_and]
      rw [Int.tdiv_eq_ediv_of_nonneg c1, Int.tmod_eq_emod_of_nonneg c1, w64 (by omega), (next_b hd1 h3 (by omega)).1]
      rfl
    · simp [c1, c2]
  · simp [c1]
def rsB (l : List Int) : Nat → Nat → Bool
  | 0, _ => true
  | n + 1, i => (match l[i - 1]?, l[i]? with
    | some x, some y => decide (x < y)
    | _, _ => true) && rsB l n (i + 1)
def rising (l : List Int) : Bool := rsB l (l.length - 1) 1
theorem incr_i {l : List Int} (hl : l.length ≤ 2000000) : ∀ (n i : Nat), 1 ≤ i → (i + n = l.length ∨ n = 0 ∧ l.length ≤ i ∧ i ≤ 1) → loop Bi_increasing (.h1 l (i : Int)) = some (rsB l n i)
  | 0, i, h1, h => by
    rw [loop_eq]
    simp only [Bi_increasing]
    rw [if_neg (by omega)]
    rfl
  | n + 1, i, h1, h => by
    have hx : l[i - 1]? = some l[i - 1] := List.getElem?_eq_getElem (by omega)
    have hy : l[i]? = some l[i] := List.getElem?_eq_getElem (by omega)
    have ih := incr_i hl n (i + 1) (by omega) (by omega)
    have e : IntKind.wrap .i64 ((i : Int) - 1) = ((i - 1 : Nat) : Int) := by rw [w64 (by omega)]; omega
    rw [loop_eq]
    simp only [Bi_increasing, rsB, e, Int.toNat_natCast, hx, hy, Option.bind_some]
    rw [if_pos (by omega), if_pos (by omega), if_pos (by omega), wsucc (by omega)]
    by_cases c : l[i - 1] < l[i]
    · rw [if_neg (by omega), decide_eq_true c, Bool.true_and]
      exact ih
    · rw [if_pos (by omega), decide_eq_false c, Bool.false_and]
      rfl
theorem increasing_i {l : List Int} (hl : l.length ≤ 2000000) : Di_increasing l = some (rising l) := incr_i hl (l.length - 1) 1 (Nat.le_refl _) (by omega)
theorem in_b {x lo hi : Int} : Ds_l1In x lo hi = some (decide (lo ≤ x) && decide (x ≤ hi)) := by
  unfold Ds_l1In
  by_cases c : lo ≤ x <;> simp [c]
theorem rise_s {l : List Int} {hi : Int} (hl : l.length ≤ 2000000) (ha : ∀ x ∈ l, 0 ≤ x ∧ x ≤ hi) : ∀ (n i : Nat), 1 ≤ i → (i + n = l.length) → loop Bs_l1Rising (.h1 l 0 hi l (l.length : Int) (i : Int)) = some (rsB l n i)
  | 0, i, h1, h => by
    rw [loop_eq]
    simp only [Bs_l1Rising]
    rw [if_neg (by omega)]
    rfl
  | n + 1, i, h1, h => by
    have hx : l[i - 1]? = some l[i - 1] := List.getElem?_eq_getElem (by omega)
    have hy : l[i]? = some l[i] := List.getElem?_eq_getElem (by omega)
    have ih := rise_s hl ha n (i + 1) (by omega) (by omega)
    obtain ⟨a1, a2⟩ := ha l[i] (List.getElem_mem (by omega))
    have e : IntKind.wrap .i64 ((i : Int) - 1) = ((i - 1 : Nat) : Int) := by rw [w64 (by omega)]; omega
    rw [loop_eq]
    simp only [Bs_l1Rising, rsB, e, Int.toNat_natCast, hx, hy, Option.bind_some, in_b, a1, a2, decide_true, Bool.and_self, if_true]
    rw [if_pos (by omega), if_pos (by omega), if_pos (by omega), if_pos (by omega), wsucc (by omega)]
    by_cases c : l[i - 1] < l[i]
    · rw [if_neg (by omega), decide_eq_true c, Bool.true_and]
      exact ih
    · rw [if_pos (by omega), decide_eq_false c, Bool.false_and]
      rfl
theorem rising_s {l : List Int} {hi : Int} (hl : l.length ≤ 2000000) (ha : ∀ x ∈ l, 0 ≤ x ∧ x ≤ hi) : Ds_l1Rising l 0 hi = some (rising l) := by
  unfold Ds_l1Rising rising
  by_cases z : l.length = 0
  · have : l = [] := List.length_eq_zero_iff.1 z
    subst this
    rw [loop_eq]
    rfl
  · have hy : l[0]? = some l[0] := List.getElem?_eq_getElem (by omega)
    obtain ⟨a1, a2⟩ := ha l[0] (List.getElem_mem (by omega))
    have := rise_s hl ha (l.length - 1) 1 (Nat.le_refl _) (by omega)
    rw [loop_eq]
    have e0 : l[Int.toNat 0]? = some l[0] := hy
    simp only [Bs_l1Rising, e0, Option.bind_some, in_b, a1, a2, decide_true, Bool.and_self, if_true]
    rw [if_pos (by omega), if_pos (by decide), if_neg (by decide)]
    exact this
def mpList (m : Gi_Map) (l : List Int) : Bool := l.all (mpEdgeOk m) && rising l
theorem edgesGo_s {m : Gi_Map} (hd : MpDim m 10) {l : List Int} (hl : l.length ≤ 2000000) : ∀ (n i : Nat), i + n = l.length → (∀ x ∈ l.take i, mpEdgeOk m x = true) → loop Bs_mEdges (.h1 l l (l.length : Int) (i : Int) m) = some ((l.drop i).all (mpEdgeOk m) && rising l)
  | 0, i, h, hb => by
    have hs := mpSize hd
    rw [List.take_of_length_le (by omega)] at hb
    rw [loop_eq, List.drop_of_length_le (by omega)]
    simp only [Bs_mEdges]
    rw [if_neg (by omega), mSize_s hd (by decide), Option.bind_some, w64 (n := 3 * (m.Width * m.Height)) (by omega), w64 (by omega), rising_s hl (fun x hx => by
      have := mpEdge_iff.1 (hb x hx)
      omega)]
    rfl
  | n + 1, i, h, hb => by
    have hs := mpSize hd
    have hd1 : MpDim m 100 := by unfold MpDim at hd ⊢; omega
    have hx : l[i]? = some l[i] := List.getElem?_eq_getElem (by omega)
    rw [loop_eq, List.drop_eq_getElem_cons (by omega), List.all_cons]
    simp only [Bs_mEdges]
    rw [if_pos (by omega), if_pos (by omega), Int.toNat_natCast, hx, Option.bind_some, mSize_s hd (by decide), Option.bind_some, w64 (n := 3 * (m.Width * m.Height)) (by omega), w64 (n := 3 * (m.Width * m.Height) - 1) (by omega), in_b, Option.bind_some, wsucc (by omega)]
    by_cases c : 0 ≤ l[i] ∧ l[i] ≤ 3 * (m.Width * m.Height) - 1
    · rw [if_pos (by simp [c.1, c.2])]
      have h3 : 0 ≤ l[i] / 3 ∧ l[i] / 3 ≤ 10000 := by omega
      rw [Int.tdiv_eq_ediv_of_nonneg c.1, Int.tmod_eq_emod_of_nonneg c.1, w64 (by omega), (next_b hd1 h3 (by omega)).2, Option.bind_some]
      by_cases c3 : 0 ≤ mpNext m (l[i] / 3) (l[i] % 3)
      · have hok : mpEdgeOk m l[i] = true := mpEdge_iff.2 ⟨c.1, c.2, c3⟩
        rw [if_neg (by omega), hok, Bool.true_and]
        refine edgesGo_s hd hl n (i + 1) (by omega) fun x hx' => ?_
        rw [List.take_add_one, hx] at hx'
        rcases List.mem_append.1 hx' with hx' | hx'
        · exact hb x hx'
        · simp at hx'; subst hx'; exact hok
      · have hok : mpEdgeOk m l[i] = false := by
          cases hh : mpEdgeOk m l[i] with
          | false => rfl
          | true => exact absurd (mpEdge_iff.1 hh).2.2 c3
        rw [if_pos (by omega), hok, Bool.false_and, Bool.false_and]
        rfl
    · have hok : mpEdgeOk m l[i] = false := by
        cases hh : mpEdgeOk m l[i] with
        | false => rfl
        | true => exact absurd ⟨(mpEdge_iff.1 hh).1, (mpEdge_iff.1 hh).2.1⟩ c
      rw [if_neg (by simp only [Bool.and_eq_true, decide_eq_true_eq]; exact c), hok, Bool.false_and, Bool.false_and]
      rfl
theorem edges_s {m : Gi_Map} (hd : MpDim m 10) {l : List Int} (hl : l.length ≤ 2000000) : Ds_mEdges m l = some (mpList m l) := by
  have := edgesGo_s hd hl l.length 0 (by omega) (fun x hx => by simp at hx)
  rw [List.drop_zero] at this
  exact this
def terrOk (x : Int) : Bool := decide (0 ≤ x) && decide (x ≤ 5)
theorem terr_s {l : List Int} (hl : l.length ≤ 2000000) : ∀ (n i : Nat), i + n = l.length → loop Bs_l1All (.h1 0 5 l (l.length : Int) (i : Int)) = some ((l.drop i).all terrOk)
  | 0, i, h => by
    rw [loop_eq, List.drop_of_length_le (by omega)]
    simp only [Bs_l1All]
    rw [if_neg (by omega)]
    rfl
  | n + 1, i, h => by
    have hx : l[i]? = some l[i] := List.getElem?_eq_getElem (by omega)
    have ih := terr_s hl n (i + 1) (by omega)
    rw [loop_eq, List.drop_eq_getElem_cons (by omega), List.all_cons]
    simp only [Bs_l1All]
    rw [if_pos (by omega), if_pos (by omega), Int.toNat_natCast, hx, Option.bind_some, in_b, Option.bind_some, wsucc (by omega)]
    by_cases c : terrOk l[i] = true
    · have c' := c
      unfold terrOk at c'
      rw [if_pos c', c, Bool.true_and]
      exact ih
    · have c' := c
      unfold terrOk at c'
      rw [if_neg c']
      simp only [Bool.not_eq_true] at c
      rw [c, Bool.false_and]
      rfl
theorem edgeLoop_i {m : Gi_Map} (hd : MpDim m 10) {l : List Int} (hl : l.length ≤ 2000000) {t0 t1 : Int} {L : List (List Int)} : ∀ (n i : Nat), i + n = l.length →
    loop Bi_IsMap (.h3 t0 t1 l (l.length : Int) (i : Int) m L) = if (l.drop i).all (mpEdgeOk m) = true then loop Bi_IsMap (.h2 t0 (IntKind.wrap .i64 (t1 + 1)) m L) else some false
  | 0, i, h => by
    rw [loop_eq, List.drop_of_length_le (by omega)]
    simp only [Bi_IsMap]
    rw [if_neg (by omega), if_pos (by rfl)]
    rfl
  | n + 1, i, h => by
    have hx : l[i]? = some l[i] := List.getElem?_eq_getElem (by omega)
    have ih := edgeLoop_i hd hl (t0 := t0) (t1 := t1) (L := L) n (i + 1) (by omega)
    rw [loop_eq, List.drop_eq_getElem_cons (by omega), List.all_cons]
    simp only [Bi_IsMap]
    rw [if_pos (by omega), if_pos (by omega), Int.toNat_natCast, hx, Option.bind_some, isEdge_i hd, Option.bind_some, wsucc (by omega)]
    by_cases c : mpEdgeOk m l[i] = true
    · rw [if_pos c, c, Bool.true_and]
      exact ih
    · rw [if_neg c]
      simp only [Bool.not_eq_true] at c
      rw [c, Bool.false_and, if_neg (by decide)]
      rfl
theorem lists_i {m : Gi_Map} (hd : MpDim m 10) (hr : m.Rivers.length ≤ 2000000) (ho : m.Roads.length ≤ 2000000) : loop Bi_IsMap (.h2 2 0 m [m.Rivers, m.Roads]) = some (mpList m m.Rivers && mpList m m.Roads) := by
  have i1 := edgeLoop_i hd hr (t0 := 2) (t1 := 0) (L := [m.Rivers, m.Roads]) m.Rivers.length 0 (by omega)
  have i2 := edgeLoop_i hd ho (t0 := 2) (t1 := 1) (L := [m.Rivers, m.Roads]) m.Roads.length 0 (by omega)
  rw [List.drop_zero, show IntKind.wrap .i64 (0 + 1) = 1 from by decide] at i1
  rw [List.drop_zero, show IntKind.wrap .i64 (1 + 1) = 2 from by decide] at i2
  have e3 : loop Bi_IsMap (.h2 2 2 m [m.Rivers, m.Roads]) = some true := by rw [loop_eq]; rfl
  have e2 : loop Bi_IsMap (.h2 2 1 m [m.Rivers, m.Roads]) = some (mpList m m.Roads) := by
    rw [loop_eq]
    simp only [Bi_IsMap]
    rw [if_pos (by decide), if_pos (by decide), show [m.Rivers, m.Roads][Int.toNat 1]? = some m.Roads from rfl, Option.bind_some, increasing_i ho, Option.bind_some]
    unfold mpList
    by_cases c : rising m.Roads = true
    · rw [if_pos c, c, Bool.and_true]
      refine (show _ = _ from i2).trans ?_
      rw [e3]
      by_cases c2 : m.Roads.all (mpEdgeOk m) = true
      · rw [if_pos c2, c2]
      · rw [if_neg c2]
        simp only [Bool.not_eq_true] at c2
        rw [c2]
    · rw [if_neg c]
      simp only [Bool.not_eq_true] at c
      rw [c, Bool.and_false]
      rfl
  rw [loop_eq]
  simp only [Bi_IsMap]
  rw [if_pos (by decide), if_pos (by decide), show [m.Rivers, m.Roads][Int.toNat 0]? = some m.Rivers from rfl, Option.bind_some, increasing_i hr, Option.bind_some]
  by_cases c : rising m.Rivers = true
  · rw [if_pos c]
    refine (show _ = _ from i1).trans ?_
    rw [e2]
    unfold mpList
    rw [c, Bool.and_true]
    by_cases c2 : m.Rivers.all (mpEdgeOk m) = true
    · rw [if_pos c2, c2, Bool.true_and]
    · rw [if_neg c2]
      simp only [Bool.not_eq_true] at c2
      rw [c2, Bool.false_and]
  · rw [if_neg c]
    simp only [Bool.not_eq_true] at c
    unfold mpList
    rw [c, Bool.and_false, Bool.false_and]
    rfl
theorem terr_i {m : Gi_Map} {l : List Int} (hl : l.length ≤ 2000000) : ∀ (n i : Nat), i + n = l.length → loop Bi_IsMap (.h1 l (l.length : Int) (i : Int) m) = if (l.drop i).all terrOk = true then loop Bi_IsMap (.h2 2 0 m [m.Rivers, m.Roads]) else some false
  | 0, i, h => by
    rw [loop_eq, List.drop_of_length_le (by omega)]
    simp only [Bi_IsMap]
    rw [if_neg (by omega), if_pos (by rfl)]
    rfl
  | n + 1, i, h => by
    have hx : l[i]? = some l[i] := List.getElem?_eq_getElem (by omega)
    have ih := terr_i hl (m := m) n (i + 1) (by omega)
    have e : Di_isIndex l[i] 6 = some (terrOk l[i]) := by
      unfold Di_isIndex Di_inRange terrOk
      rw [show IntKind.wrap .i64 (6 - 1) = 5 from by decide]
      by_cases c : 0 ≤ l[i] <;> simp [c]
    rw [loop_eq, List.drop_eq_getElem_cons (by omega), List.all_cons]
    simp only [Bi_IsMap]
    rw [if_pos (by omega), if_pos (by omega), Int.toNat_natCast, hx, Option.bind_some, e, Option.bind_some, wsucc (by omega)]
    by_cases c : terrOk l[i] = true
    · rw [if_pos c, c, Bool.true_and]
      exact ih
    · rw [if_neg c]
      simp only [Bool.not_eq_true] at c
      rw [c, Bool.false_and, if_neg (by decide)]
      rfl
def MpLen (m : Gi_Map) : Prop := m.Terrain.length ≤ 2000000 ∧ m.Rivers.length ≤ 2000000 ∧ m.Roads.length ≤ 2000000
def mpGood (m : Gi_Map) : Bool := decide (1 ≤ m.Width) && decide (m.Width ≤ 10) && decide (1 ≤ m.Height) && decide (m.Height ≤ 10) && decide ((m.Terrain.length : Int) = m.Width * m.Height) && m.Terrain.all terrOk && mpList m m.Rivers && mpList m m.Roads
theorem mpGood_dim {m : Gi_Map} (h : mpGood m = true) : MpDim m 10 ∧ (m.Terrain.length : Int) = m.Width * m.Height ∧ mpList m m.Rivers = true ∧ mpList m m.Roads = true := by
  simp only [mpGood, Bool.and_eq_true, decide_eq_true_eq] at h
  exact ⟨⟨h.1.1.1.1.1.1.1, h.1.1.1.1.1.1.2, h.1.1.1.1.1.2, h.1.1.1.1.2⟩, h.1.1.1.2, h.1.2, h.2⟩
theorem isMap_i {m : Gi_Map} (hl : MpLen m) : Di_IsMap m = some (mpGood m) := by
  unfold Di_IsMap Di_inRange mpGood
  by_cases c1 : 1 ≤ m.Width
  · by_cases c2 : m.Width ≤ 10
    · by_cases c3 : 1 ≤ m.Height
      · by_cases c4 : m.Height ≤ 10
        · have hd : MpDim m 10 := ⟨c1, c2, c3, c4⟩
          have hs := mpSize hd
          have t := terr_i hl.1 (m := m) m.Terrain.length 0 (by omega)
          rw [List.drop_zero, lists_i hd hl.2.1 hl.2.2] at t
          simp only [c1, c2, c3, c4, if_true, Option.bind_some, decide_true, Bool.true_and]
          rw [w64 (by omega)]
          by_cases c5 : (m.Terrain.length : Int) = m.Width * m.Height
          · rw [if_pos c5]
            refine (show _ = _ from t).trans ?_
            simp only [c5, decide_true, Bool.true_and]
            by_cases c6 : m.Terrain.all terrOk = true
            · rw [if_pos c6, c6, Bool.true_and]
            · rw [if_neg c6]
              simp only [Bool.not_eq_true] at c6
              rw [c6]
              rfl
          · rw [if_neg c5]
            simp [c5]
        · simp [c1, c2, c3, c4]
      · simp [c1, c2, c3]
    · simp [c1, c2]
  · simp [c1]
theorem good_m {m : Gi_Map} (hl : MpLen m) : Ds_mGood m = some (mpGood m) := by
  unfold Ds_mGood mpGood
  rw [in_b, in_b]
  by_cases c1 : 1 ≤ m.Width
  · by_cases c2 : m.Width ≤ 10
    · by_cases c3 : 1 ≤ m.Height
      · by_cases c4 : m.Height ≤ 10
        · have hd : MpDim m 10 := ⟨c1, c2, c3, c4⟩
          have t := terr_s hl.1 m.Terrain.length 0 (by omega)
          rw [List.drop_zero] at t
          have t' : Ds_l1All m.Terrain 0 5 = some (m.Terrain.all terrOk) := t
          simp only [c1, c2, c3, c4, if_true, Option.bind_some, decide_true, Bool.true_and, mSize_s hd (by decide), edges_s hd hl.2.1, edges_s hd hl.2.2, t']
          by_cases c5 : (m.Terrain.length : Int) = m.Width * m.Height
          · simp only [c5, decide_true, Bool.true_and, if_true]
            by_cases c6 : m.Terrain.all terrOk = true
            · rw [if_pos c6, c6, Bool.true_and]
              by_cases c7 : mpList m m.Rivers = true
              · rw [if_pos c7, c7, Bool.true_and]
              · rw [if_neg c7]
                simp only [Bool.not_eq_true] at c7
                rw [c7, Bool.false_and]
            · rw [if_neg c6]
              simp only [Bool.not_eq_true] at c6
              rw [c6]
              rfl
          · simp [c5]
        · simp [c1, c2, c3, c4]
      · simp [c1, c2, c3]
    · simp [c1, c2]
  · simp [c1]


theorem put_ex {l : List Int} {x : Int} (hl : l.length ≤ 1000) : ∀ (n i : Nat), i + n = l.length → ∃ l', loop Bs_l1Put_c0 (.h1 x (i : Int) l) = some l' ∧ l'.length ≤ l.length + 1
  | 0, i, h => by
    have hlen : (((List.take (i - 0) (List.drop 0 l)) ++ [x]) ++ (List.take (l.length - i) (List.drop i l))).length ≤ l.length + 1 := by
      simp only [List.length_append, List.length_take, List.length_drop, List.length_singleton]; omega
    have hlen1 : (List.take (i - 0) (List.drop 0 l)).length ≤ l.length := by simp only [List.length_take, List.length_drop]; omega
    have hlen2 : ((List.take (i - 0) (List.drop 0 l)) ++ [x]).length ≤ l.length + 1 := by rw [List.length_append, List.length_singleton]; omega
    rw [loop_eq]
    simp only [Bs_l1Put_c0, Int.toNat_natCast]
    rw [if_neg (by omega), if_neg (by omega), if_pos (by omega), if_pos (by omega), if_pos (by omega), if_pos (by omega), if_pos (by omega), if_pos (by omega), if_pos (by omega)]
    exact ⟨_, rfl, hlen⟩
  | n + 1, i, h => by
    have hlen : (((List.take (i - 0) (List.drop 0 l)) ++ [x]) ++ (List.take (l.length - i) (List.drop i l))).length ≤ l.length + 1 := by
      simp only [List.length_append, List.length_take, List.length_drop, List.length_singleton]; omega
    have hlen1 : (List.take (i - 0) (List.drop 0 l)).length ≤ l.length := by simp only [List.length_take, List.length_drop]; omega
    have hlen2 : ((List.take (i - 0) (List.drop 0 l)) ++ [x]).length ≤ l.length + 1 := by rw [List.length_append, List.length_singleton]; omega
    have hx : l[i]? = some l[i] := List.getElem?_eq_getElem (by omega)
    rw [loop_eq]
    simp only [Bs_l1Put_c0, Int.toNat_natCast, hx, Option.bind_some]
    rw [if_pos (by omega), if_pos (by omega)]
    by_cases c : l[i] < x
    · rw [if_pos c, wsucc (by omega)]
      exact put_ex hl n (i + 1) (by omega)
    · rw [if_neg c, if_pos (by omega), if_pos (by omega)]
      by_cases d : l[i] = x
      · rw [if_pos d]
        exact ⟨_, rfl, by omega⟩
      · rw [if_neg d, if_pos (by omega), if_pos (by omega), if_pos (by omega), if_pos (by omega), if_pos (by omega), if_pos (by omega), if_pos (by omega)]
        exact ⟨_, rfl, hlen⟩
theorem put_l {l : List Int} {x : Int} (hl : l.length ≤ 1000) : ∃ l', Ds_l1Put_c0 l x = some l' ∧ l'.length ≤ l.length + 1 := put_ex hl l.length 0 (by omega)
theorem edge_ex {m : Gi_Map} {i d : Int} (hd : MpDim m 100) (hi : 0 ≤ i ∧ i ≤ 10000) (h6 : 0 ≤ d ∧ d < 6) : ∃ e, Ds_mEdge m i d = some e := by
  unfold Ds_mEdge
  rw [(next_b hd hi h6).2]
  split <;> exact ⟨_, rfl⟩
theorem cuEdgesLoop {m : Gi_Map} (hd : MpDim m 10) : ∀ (n : Nat) {c : Gs_l1Cur} {k : Int} {l : List Int}, Cu c k → k + 4 * n ≤ 1099511627776 → l.length + n ≤ 100 →
    ∃ l' c', loop Bs_l1Cur_edges (.h1 (n : Int) c m l) = some (l', c') ∧ Cu c' (k + 4 * n) ∧ l'.length ≤ 100
  | 0, c, k, l, h, hk, hl => by
    rw [loop_eq]
    simp only [Bs_l1Cur_edges]
    rw [if_neg (by omega)]
    exact ⟨l, c, rfl, h.mono (by omega) (by omega), by omega⟩
  | n + 1, c, k, l, h, hk, hl => by
    have hs := mpSize hd
    have hd1 : MpDim m 100 := by unfold MpDim at hd ⊢; omega
    obtain ⟨v1, c1, e1, b1, g1⟩ := cuPick h (by omega) (m.Width * m.Height)
    obtain ⟨v2, c2, e2, b2, g2⟩ := cuPick g1 (by omega) 6
    have hv1 := b1.2.1 (by omega)
    have hv2 := b2.2.1 (by omega)
    have h6 : 0 ≤ v2 ∧ v2 < 6 := ⟨b2.1, hv2⟩
    have hi : 0 ≤ v1 ∧ v1 ≤ 10000 := ⟨b1.1, by omega⟩
    obtain ⟨e, he⟩ := edge_ex hd1 hi h6
    rw [loop_eq]
    simp only [Bs_l1Cur_edges]
    rw [if_pos (by omega), mSize_s hd (by decide), Option.bind_some, e1, Option.bind_some, e2, Option.bind_some, (next_b hd1 hi h6).2, Option.bind_some, w64 (n := ((n + 1 : Nat) : Int) - 1) (by omega), show (((n + 1 : Nat) : Int) - 1) = (n : Int) by omega]
    by_cases z : mpNext m v1 v2 ≥ 0
    · obtain ⟨l1, p1, p2⟩ := put_l (l := l) (x := e) (by omega)
      rw [if_pos z, he, Option.bind_some, p1, Option.bind_some]
      obtain ⟨l', c', q1, q2, q3⟩ := cuEdgesLoop hd n g2 (by omega) (l := l1) (by omega)
      exact ⟨l', c', q1, q2.mono (by omega) (by omega), q3⟩
    · rw [if_neg z]
      obtain ⟨l', c', q1, q2, q3⟩ := cuEdgesLoop hd n g2 (by omega) (l := l) (by omega)
      exact ⟨l', c', q1, q2.mono (by omega) (by omega), q3⟩
theorem cuEdges {m : Gi_Map} (hd : MpDim m 10) {c : Gs_l1Cur} {k : Int} (h : Cu c k) (hk : k + 40 ≤ 1099511627776) : ∃ l c', Ds_l1Cur_edges c m = some (l, c') ∧ Cu c' (k + 40) ∧ l.length ≤ 100 := by
  obtain ⟨v1, c1, e1, b1, g1⟩ := cuPick h (by omega) 8
  have hv1 := b1.2.1 (by omega)
  unfold Ds_l1Cur_edges
  rw [e1, Option.bind_some]
  obtain ⟨l', c', q1, q2, q3⟩ := cuEdgesLoop hd v1.toNat g1 (by omega) (l := []) (by simp; omega)
  rw [Int.toNat_of_nonneg b1.1] at q1
  exact ⟨l', c', q1, q2.mono (by omega) (by omega), q3⟩
structure MpDrawn (m : Gi_Map) : Prop where
  dim : MpDim m 10
  t1 : 1 ≤ m.Terrain.length
  t2 : m.Terrain.length ≤ 200
  r : m.Rivers.length ≤ 100
  o : m.Roads.length ≤ 100
theorem cuMapLoop {b3 b4 W H : Int} (hd : MpDim ⟨W, H, [], [], []⟩ 10) : ∀ (n i : Nat) {c : Gs_l1Cur} {k : Int} {l : List Int}, (i : Int) + n = W * H → Cu c k → k + 4 * n + 100 ≤ 1099511627776 → l.length = i → 1 ≤ i →
    ∃ m' c', loop Bs_l1Cur_mapOf (.h2 6 (i : Int) c b3 b4 W H l) = some (m', c') ∧ Cu c' (k + 4 * n + 100) ∧ MpDrawn m'
  | 0, i, c, k, l, hn, h, hk, hl, h1 => by
    have hs := mpSize hd
    simp only at hs
    have hd1 : MpDim ⟨W, H, l, [], []⟩ 10 := hd
    obtain ⟨l1, c1, e1, g1, x1⟩ := cuEdges hd1 h (by omega)
    have hd2 : MpDim ⟨W, H, l, l1, []⟩ 10 := hd
    obtain ⟨l2, c2, e2, g2, x2⟩ := cuEdges hd2 g1 (by omega)
    rw [loop_eq]
    simp only [Bs_l1Cur_mapOf]
    rw [mSize_s hd1 (by decide), Option.bind_some, if_neg (by simp only; omega), e1, Option.bind_some, e2, Option.bind_some]
    exact ⟨_, _, rfl, g2.mono (by omega) (by omega), hd, by simp only; omega, by simp only; omega, x1, x2⟩
  | n + 1, i, c, k, l, hn, h, hk, hl, h1 => by
    have hs := mpSize hd
    simp only at hs
    have hd1 : MpDim ⟨W, H, l, [], []⟩ 10 := hd
    obtain ⟨v1, c1, e1, g1⟩ := cuOne h (by omega) 3
    obtain ⟨v2, c2, e2, b2, g2⟩ := cuPick g1 (by omega) 6
    rw [loop_eq]
    simp only [Bs_l1Cur_mapOf]
    rw [mSize_s hd1 (by decide), Option.bind_some, if_pos (by simp only; omega), e1, Option.bind_some, wsucc (by omega)]
    by_cases z : v1 = true
    · rw [if_pos z, e2, Option.bind_some, if_pos (by simp only [List.length_append, List.length_singleton]; omega)]
      obtain ⟨m', c', q1, q2, q3⟩ := cuMapLoop hd (b3 := b3) (b4 := b4) n (i + 1) (c := c2) (l := l ++ [v2]) (by omega) g2 (by omega) (by simp [hl]) (by omega)
      exact ⟨m', c', q1, q2.mono (by omega) (by omega), q3⟩
    · rw [if_neg z, if_pos (by simp only [List.length_append, List.length_singleton]; omega)]
      obtain ⟨m', c', q1, q2, q3⟩ := cuMapLoop hd (b3 := b3) (b4 := b4) n (i + 1) (c := c1) (l := l ++ [0]) (by omega) g1 (by omega) (by simp [hl]) (by omega)
      exact ⟨m', c', q1, q2.mono (by omega) (by omega), q3⟩
theorem cuMapOf {c : Gs_l1Cur} {k : Int} (h : Cu c k) (hk : k + 1000 ≤ 1099511627776) : ∃ m c', Ds_l1Cur_mapOf c 6 = some (m, c') ∧ Cu c' (k + 1000) ∧ MpDrawn m := by
  obtain ⟨v1, c1, e1, b1, g1⟩ := cuPick h (by omega) 6
  obtain ⟨v2, c2, e2, b2, g2⟩ := cuPick g1 (by omega) 6
  have hv1 := b1.2.1 (by omega)
  have hv2 := b2.2.1 (by omega)
  have hd : MpDim ⟨1 + v1, 1 + v2, [], [], []⟩ 10 := by unfold MpDim; simp only; omega
  have hs := mpSize hd
  simp only at hs
  have hm := mulb (a := 1 + v1) (b := 1 + v2) (A := 6) (B := 6) (by omega) (by omega)
  obtain ⟨v3, c3, e3, g3⟩ := cuOne g2 (by omega) 3
  obtain ⟨v4, c4, e4, b4, g4⟩ := cuPick g3 (by omega) 6
  unfold Ds_l1Cur_mapOf
  rw [e1, Option.bind_some, e2, Option.bind_some, w64 (n := 1 + v1) (by omega), w64 (n := 1 + v2) (by omega), loop_eq]
  simp only [Bs_l1Cur_mapOf]
  rw [mSize_s hd (by decide), Option.bind_some, if_pos (by simp only; omega), e3, Option.bind_some]
  have key : ∀ {cc : Gs_l1Cur} {t : Int}, Cu cc (k + 8) → ∃ m c', loop Bs_l1Cur_mapOf (.h2 6 1 cc 0 0 (1 + v1) (1 + v2) [t]) = some (m, c') ∧ Cu c' (k + 1000) ∧ MpDrawn m := fun {cc t} hc => by
    obtain ⟨m', c', q1, q2, q3⟩ := cuMapLoop hd (b3 := 0) (b4 := 0) ((1 + v1) * (1 + v2) - 1).toNat 1 (c := cc) (l := [t]) (by omega) hc (by omega) rfl (by decide)
    exact ⟨m', c', q1, q2.mono (by omega) (by omega), q3⟩
  by_cases z : v3 = true
  · rw [if_pos z, e4, Option.bind_some, if_pos (by simp)]
    exact key (g4.mono (by omega) (by omega))
  · rw [if_neg z, if_pos (by simp)]
    exact key (g3.mono (by omega) (by omega))
theorem mSize_ex (m : Gi_Map) : ∃ v, Ds_mSize m = some v := ⟨_, rfl⟩
theorem cuAnyMap {c : Gs_l1Cur} {k : Int} (h : Cu c k) (hk : k + 1100 ≤ 1099511627776) : ∃ m c', Ds_l1Cur_anyMap c = some (m, c') ∧ Cu c' (k + 1100) ∧ MpLen m := by
  obtain ⟨m, c1, e1, g1, d⟩ := cuMapOf h (by omega)
  obtain ⟨v, c2, e2, _, g2⟩ := cuPick g1 (by omega) 30
  obtain ⟨s, es⟩ := mSize_ex m
  have hr := d.r
  have ho := d.o
  have ht := d.t2
  have ht1 := d.t1
  have h0 : m.Terrain[Int.toNat 0]? = some m.Terrain[0] := List.getElem?_eq_getElem (by omega)
  have hM : MpLen m := ⟨by omega, by omega, by omega⟩
  unfold Ds_l1Cur_anyMap
  rw [e1, Option.bind_some, e2, Option.bind_some]
  by_cases z0 : v = 0
  · obtain ⟨v4, c4, e4, _, g4⟩ := cuAmong g2 (by omega) [0, 10, 11, (IntKind.wrap .i64 (m.Width + 1))] (by simp)
    rw [if_pos z0]
    simp only [e4, Option.bind_some]
    exact ⟨_, _, rfl, g4.mono (by omega) (by omega), hM⟩
  · rw [if_neg z0]
    by_cases z1 : v = 1
    · obtain ⟨v4, c4, e4, _, g4⟩ := cuAmong g2 (by omega) [(-1), 6] (by simp)
      rw [if_pos z1]
      simp only [e4, h0, Option.bind_some]
      exact ⟨_, _, rfl, g4.mono (by omega) (by omega), by simp only [List.length_set]; omega, by simp only; omega, by simp only; omega⟩
    · rw [if_neg z1]
      by_cases z2 : v = 2
      · obtain ⟨v4, c4, e4, _, g4⟩ := cuAmong g2 (by omega) [0, (IntKind.wrap .i64 (3 * s)), (IntKind.wrap .i64 ((IntKind.wrap .i64 (3 * s)) - 1)), (-1)] (by simp)
        rw [if_pos z2, es]
        simp only [e4, Option.bind_some]
        rw [if_pos (by simp only [List.length_append, List.length_singleton]; omega)]
        exact ⟨_, _, rfl, g4.mono (by omega) (by omega), by simp only; omega, by simp only [List.length_append, List.length_singleton]; omega, by simp only; omega⟩
      · rw [if_neg z2]
        by_cases z3 : v = 3
        · rw [if_pos z3, if_pos (by simp only [List.length_append, List.length_singleton]; omega)]
          exact ⟨_, _, rfl, g2.mono (by omega) (by omega), by simp only; omega, by simp only; omega, by simp only [List.length_append, List.length_singleton]; omega⟩
        · rw [if_neg z3]
          exact ⟨_, _, rfl, g2.mono (by omega) (by omega), hM⟩
theorem cuPlace {c : Gs_l1Cur} {k : Int} (h : Cu c k) (hk : k + 4 ≤ 1099511627776) (m : Gi_Map) : ∃ v c', Ds_l1Cur_place c m = some (v, c') ∧ Cu c' (k + 4) := by
  obtain ⟨v1, c1, e1, g1⟩ := cuOne h (by omega) 20
  obtain ⟨s, es⟩ := mSize_ex m
  obtain ⟨v2, c2, e2, _, g2⟩ := cuAmong g1 (by omega) [(-1), s] (by simp)
  unfold Ds_l1Cur_place
  rw [e1, Option.bind_some, es]
  by_cases z : v1 = true
  · rw [if_pos z, Option.bind_some, e2, Option.bind_some]
    exact ⟨_, _, rfl, g2.mono (by omega) (by omega)⟩
  · rw [if_neg z, Option.bind_some]
    obtain ⟨t, et⟩ : ∃ t, Ds_l1Most s 1 = some t := by unfold Ds_l1Most; split <;> exact ⟨_, rfl⟩
    obtain ⟨v3, c3, e3, _, g3⟩ := cuPick g1 (by omega) t
    rw [et, Option.bind_some, e3, Option.bind_some]
    exact ⟨_, _, rfl, g3.mono (by omega) (by omega)⟩
def kIn (x lo hi : Int) : Bool := decide (lo ≤ x) && decide (x ≤ hi)
theorem kIn_iff {x lo hi : Int} : kIn x lo hi = true ↔ lo ≤ x ∧ x ≤ hi := by simp [kIn]
theorem kin_i (x lo hi : Int) : Di_inRange x lo hi = some (kIn x lo hi) := by
  unfold Di_inRange kIn
  by_cases c : lo ≤ x <;> simp [c]
theorem kin_s (x lo hi : Int) : Ds_l1In x lo hi = some (kIn x lo hi) := by
  unfold Ds_l1In kIn
  by_cases c : lo ≤ x
  · rw [if_pos c]; simp [c]
  · rw [if_neg c]; simp [c]
theorem ifB (b : Bool) : (if b = true then some true else some false) = some b := by cases b <;> rfl
theorem ifNB (b : Bool) : (if b = true then some false else some true) = some (!b) := by cases b <;> rfl

/-- A walk over a list that ends at the first element that q does not hold of. -/
theorem all_goL {σ α ρ : Type} {L : σ → Option ρ} {S : Nat → σ} {l : List α} {q : Nat → α → Bool} {f : ρ} {r : Option ρ}
    (hs : ∀ i x, l[i]? = some x → i < l.length → (∀ j y, j < i → l[j]? = some y → q j y = true) → L (S i) = if q i x = true then L (S (i + 1)) else some f)
    (he : (∀ j y, l[j]? = some y → q j y = true) → L (S l.length) = r) : L (S 0) = if alli q l = true then r else some f := by
  have key : ∀ (k i : Nat), i + k = l.length → (∀ j x, j < i → l[j]? = some x → q j x = true) → L (S i) = if alli q l = true then r else some f := by
    intro k
    induction k with
    | zero =>
      intro i h hb
      have : i = l.length := by omega
      subst this
      have hall : ∀ j y, l[j]? = some y → q j y = true := fun j x hj => hb j x (List.getElem?_eq_some_iff.1 hj).1 hj
      rw [he hall, if_pos (alli_iff.2 hall)]
    | succ k ih =>
      intro i h hb
      have hlt : i < l.length := by omega
      have hx := List.getElem?_eq_getElem hlt
      rw [hs i l[i] hx hlt hb]
      by_cases hp : q i l[i] = true
      · rw [if_pos hp]
        refine ih (i + 1) (by omega) fun j x hj hx' => ?_
        by_cases hji : j = i
        · subst hji
          rw [hx] at hx'
          cases hx'
          exact hp
        · exact hb j x (by omega) hx'
      · rw [if_neg hp, if_neg fun h => hp (alli_iff.1 h i _ hx)]
  exact key l.length 0 (by omega) fun j x h => by omega

theorem l1All_s {l : List Int} (hl : l.length ≤ 2000000) (lo hi : Int) : Ds_l1All l lo hi = some (alli (fun _ x => kIn x lo hi) l) := by
  rw [← ifB]
  exact all_goL (L := loop Bs_l1All) (S := fun i => .h1 lo hi l (l.length : Int) (i : Int)) (fun i x hx hlt _ => by
    rw [loop_eq]
    simp only [Bs_l1All]
    rw [if_pos (by omega), if_pos (by omega), Int.toNat_natCast, hx, Option.bind_some, kin_s, Option.bind_some, wsucc (by omega)]
    by_cases c : kIn x lo hi = true
    · rw [if_pos c, if_pos c]; rfl
    · rw [if_neg c, if_neg c]; rfl) fun _ => by
    rw [loop_eq]
    simp only [Bs_l1All]
    rw [if_neg (by omega)]
    rfl
/-- It gives something, and Q holds of it. -/
def Ok {α : Type} (o : Option α) (Q : α → Prop) : Prop := ∃ a, o = some a ∧ Q a
theorem Ok.ret {α : Type} {a : α} {Q : α → Prop} (h : Q a) : Ok (some a) Q := ⟨a, rfl, h⟩
theorem Ok.mono {α : Type} {o : Option α} {P Q : α → Prop} (h : Ok o P) (k : ∀ a, P a → Q a) : Ok o Q := by
  obtain ⟨a, e, h⟩ := h
  exact ⟨a, e, k a h⟩
theorem Ok.bind {α β : Type} {o : Option α} {f : α → Option β} {P : α → Prop} {Q : β → Prop} (h : Ok o P) (k : ∀ a, P a → Ok (f a) Q) : Ok (Option.bind o f) Q := by
  obtain ⟨a, rfl, h⟩ := h
  exact k a h
theorem Ok.ite {α : Type} {c : Prop} [Decidable c] {a b : Option α} {Q : α → Prop} (h1 : c → Ok a Q) (h2 : ¬ c → Ok b Q) : Ok (if c then a else b) Q := by
  by_cases h : c
  · rw [if_pos h]; exact h1 h
  · rw [if_neg h]; exact h2 h
theorem Ok.chk {α : Type} {c : Prop} [Decidable c] {a b : Option α} {Q : α → Prop} (h : c) (h1 : Ok a Q) : Ok (if c then a else b) Q := by
  rw [if_pos h]; exact h1
theorem Ok.els {α : Type} {c : Prop} [Decidable c] {a b : Option α} {Q : α → Prop} (h : ¬ c) (h1 : Ok b Q) : Ok (if c then a else b) Q := by
  rw [if_neg h]; exact h1
theorem Ok.get {α β : Type} {l : List α} {i : Nat} {f : α → Option β} {Q : β → Prop} (h : i < l.length) (k : ∀ x, l[i]? = some x → x ∈ l → Ok (f x) Q) : Ok (Option.bind l[i]? f) Q := by
  have e := List.getElem?_eq_getElem h
  rw [e]
  exact k _ e (List.mem_of_getElem? e)
theorem Ok.eq {α β : Type} {o : Option α} {a : α} {f : α → Option β} {Q : β → Prop} (e : o = some a) (k : Ok (f a) Q) : Ok (Option.bind o f) Q := by
  rw [e]; exact k
/-- A loop with an invariant and a measure. -/
theorem Ok.loop {σ ρ : Type} {B : σ → Option (σ ⊕ ρ)} {Q : ρ → Prop} (I : σ → Prop) (m : σ → Nat) (hs : ∀ s, I s → Ok (B s) fun o => match o with | .inl s' => I s' ∧ m s' < m s | .inr r => Q r) : ∀ {s}, I s → Ok (loop B s) Q := by
  have key : ∀ n s, m s < n → I s → Ok (Ab.loop B s) Q := by
    intro n
    induction n with
    | zero => intro s h; omega
    | succ n ih =>
      intro s hn hI
      obtain ⟨o, e, h⟩ := hs s hI
      rw [loop_eq, e]
      cases o with
      | inl s' => exact ih s' (by omega) h.1
      | inr r => exact ⟨r, rfl, h⟩
  intro s h
  exact key _ s (Nat.lt_succ_self _) h

theorem ltc {i n : Nat} (h : i < n) : ((i : Int) < (n : Int)) = True := by simp [h]
theorem nltc (n : Nat) : ((n : Int) < (n : Int)) = False := by simp
theorem nnc (i : Nat) : ((0 : Int) ≤ (i : Int)) = True := by simp

def nmB (s : ByteArray) : Bool := alli (fun i _ => decide (97 ≤ byteAt s i) && decide (byteAt s i ≤ 122)) (List.range s.size) && kIn s.size 1 8
theorem nm_i {s : ByteArray} (hs : s.size ≤ 2000000) : Di_isName s = some (nmB s) := by
  unfold Di_isName nmB
  refine all_loop2 (B := Bi_isName) (S := fun i => .h1 s (i : Int)) (fun i x hx hi _ => ?_) ?_
  · rw [List.length_range] at hi
    simp only [Bi_isName, ltc hi, nnc, if_true, Int.toNat_natCast, wsucc (show i < 9223372036854775807 by omega)]
    by_cases c1 : byteAt s i < 97
    · rw [if_pos (by omega), if_neg (by simp only [Bool.and_eq_true, decide_eq_true_eq]; omega)]
    · rw [if_neg (by omega)]
      by_cases c2 : byteAt s i > 122
      · rw [if_pos (by omega), if_neg (by simp only [Bool.and_eq_true, decide_eq_true_eq]; omega)]
      · rw [if_neg (by omega), if_pos (by simp only [Bool.and_eq_true, decide_eq_true_eq]; omega)]
  · simp only [Bi_isName, List.length_range, nltc, if_false, kin_i, Option.bind_some]
theorem nm_s {s : ByteArray} (hs : s.size ≤ 2000000) : Ds_rName s = some (nmB s) := by
  unfold Ds_rName nmB
  refine all_loop2 (B := Bs_rName) (S := fun i => .h1 s (i : Int)) (fun i x hx hi _ => ?_) ?_
  · rw [List.length_range] at hi
    simp only [Bs_rName, ltc hi, nnc, if_true, Int.toNat_natCast, wsucc (show i < 9223372036854775807 by omega)]
    by_cases c1 : byteAt s i < 97
    · rw [if_pos (by omega), if_neg (by simp only [Bool.and_eq_true, decide_eq_true_eq]; omega)]
    · rw [if_neg (by omega)]
      by_cases c2 : byteAt s i > 122
      · rw [if_pos (by omega), if_neg (by simp only [Bool.and_eq_true, decide_eq_true_eq]; omega)]
      · rw [if_neg (by omega), if_pos (by simp only [Bool.and_eq_true, decide_eq_true_eq]; omega)]
  · simp only [Bs_rName, List.length_range, nltc, if_false, kin_s, Option.bind_some]
def trIx (nm : ByteArray) (l : List Gi_Terrain) : Int := ix (fun t => t.Name == nm) l
def kdIx (nm : ByteArray) (l : List Gi_Kind) : Int := ix (fun t => t.Name == nm) l
theorem trIx_i {l : List Gi_Terrain} (hl : l.length ≤ 2000000) (nm : ByteArray) : Di_terrainIndex l nm = some (trIx nm l) := by
  have h : loop Bslices_IndexFunc_i_Terrain_i_terrainIndex_1 (.h1 l nm (l.length : Int) 0) = some (trIx nm l) := find_loop (B := Bslices_IndexFunc_i_Terrain_i_terrainIndex_1) (S := fun i => .h1 l nm (l.length : Int) (i : Int)) (p := fun t => t.Name == nm) (l := l) (fun i x hx hi => by
    simp only [Bslices_IndexFunc_i_Terrain_i_terrainIndex_1, ltc hi, nnc, if_true, Int.toNat_natCast, hx, Option.bind_some, Di_terrainIndex_1, wsucc (show i < 9223372036854775807 by omega)]) (by
    simp only [Bslices_IndexFunc_i_Terrain_i_terrainIndex_1, nltc, if_false])
  unfold Di_terrainIndex Dslices_IndexFunc_i_Terrain_i_terrainIndex_1
  rw [h]; rfl
theorem kdIx_i {l : List Gi_Kind} (hl : l.length ≤ 2000000) (nm : ByteArray) : Di_kindIndex l nm = some (kdIx nm l) := by
  have h : loop Bslices_IndexFunc_i_Kind_i_kindIndex_1 (.h1 l nm (l.length : Int) 0) = some (kdIx nm l) := find_loop (B := Bslices_IndexFunc_i_Kind_i_kindIndex_1) (S := fun i => .h1 l nm (l.length : Int) (i : Int)) (p := fun t => t.Name == nm) (l := l) (fun i x hx hi => by
    simp only [Bslices_IndexFunc_i_Kind_i_kindIndex_1, ltc hi, nnc, if_true, Int.toNat_natCast, hx, Option.bind_some, Di_kindIndex_1, wsucc (show i < 9223372036854775807 by omega)]) (by
    simp only [Bslices_IndexFunc_i_Kind_i_kindIndex_1, nltc, if_false])
  unfold Di_kindIndex Dslices_IndexFunc_i_Kind_i_kindIndex_1
  rw [h]; rfl
theorem trIx_s {l : List Gi_Terrain} (hl : l.length ≤ 2000000) (nm : ByteArray) : Ds_rTerrain l nm = some (trIx nm l) :=
  find_loop (B := Bs_rTerrain) (S := fun i => .h1 nm l (l.length : Int) (i : Int)) (p := fun t => t.Name == nm) (l := l) (fun i x hx hi => by
    simp only [Bs_rTerrain, ltc hi, nnc, if_true, Int.toNat_natCast, hx, Option.bind_some, beq_iff_eq, wsucc (show i < 9223372036854775807 by omega)]) (by
    simp only [Bs_rTerrain, nltc, if_false])
theorem kdIx_s {l : List Gi_Kind} (hl : l.length ≤ 2000000) (nm : ByteArray) : Ds_rKind l nm = some (kdIx nm l) :=
  find_loop (B := Bs_rKind) (S := fun i => .h1 nm l (l.length : Int) (i : Int)) (p := fun t => t.Name == nm) (l := l) (fun i x hx hi => by
    simp only [Bs_rKind, ltc hi, nnc, if_true, Int.toNat_natCast, hx, Option.bind_some, beq_iff_eq, wsucc (show i < 9223372036854775807 by omega)]) (by
    simp only [Bs_rKind, nltc, if_false])
theorem contains_cost {l : List Int} (hl : l.length ≤ 2000000) : Dslices_ContainsFunc_int_i_goodTerrain_1 l = some (!(alli (fun _ x => kIn x 0 9) l)) := by
  rw [← ifNB]
  have := all_goL (L := fun s => (loop Bslices_IndexFunc_int_i_goodTerrain_1 s).map fun r => decide (r ≥ 0)) (S := fun i => .h1 l (l.length : Int) (i : Int)) (l := l) (q := fun _ x => kIn x 0 9) (f := true) (r := some false) (fun i x hx hi _ => by
    rw [loop_eq]
    simp only [Bslices_IndexFunc_int_i_goodTerrain_1, ltc hi, nnc, if_true, Int.toNat_natCast, hx, Option.bind_some, Di_goodTerrain_1, kin_i, wsucc (show i < 9223372036854775807 by omega)]
    cases kIn x 0 9 <;> simp [goOn]) fun _ => by
    rw [loop_eq]
    simp only [Bslices_IndexFunc_int_i_goodTerrain_1, nltc, if_false]
    rfl
  refine Eq.trans ?_ this
  unfold Dslices_ContainsFunc_int_i_goodTerrain_1 Dslices_IndexFunc_int_i_goodTerrain_1
  cases loop Bslices_IndexFunc_int_i_goodTerrain_1 (.h1 l (l.length : Int) 0) <;> rfl
structure TrLen (t : Gi_Terrain) : Prop where
  n : t.Name.size ≤ 2000000
  c : t.Cost.length ≤ 2000000
structure RlLen (r : Gi_Rules) : Prop where
  t : r.Terrains.length ≤ 2000000
  ts : ∀ x ∈ r.Terrains, TrLen x
  k : r.Kinds.length ≤ 2000000
  ks : ∀ x ∈ r.Kinds, x.Name.size ≤ 2000000
def trOk (K : Nat) (t : Gi_Terrain) : Bool := nmB t.Name && decide (t.Cost.length = K) && kIn t.Shift (-3) 3 && kIn t.Height 0 3 && alli (fun _ x => kIn x 0 9) t.Cost
def kdOk (k : Gi_Kind) : Bool := nmB k.Name && kIn k.Strength 1 9 && kIn k.Moves 0 9 && kIn k.Steps 1 4 && kIn k.View 0 4
def rlEnd (r : Gi_Rules) : Bool := kIn r.Stack 1 4 && kIn r.River 0 9 && kIn r.Road 1 9 && kIn r.Supply 0 20 && kIn r.Turns 1 30
def rlG (r : Gi_Rules) : Bool := kIn r.Terrains.length 1 6 && kIn r.Kinds.length 1 4 && alli (fun i t => trOk r.Kinds.length t && decide (trIx t.Name r.Terrains = i)) r.Terrains && alli (fun i k => kdOk k && decide (kdIx k.Name r.Kinds = i)) r.Kinds && rlEnd r
theorem goodTr_i {t : Gi_Terrain} (h : TrLen t) (K : Nat) : Di_goodTerrain t (K : Int) = some (trOk K t) := by
  unfold Di_goodTerrain trOk
  simp only [nm_i h.n, Option.bind_some, kin_i, contains_cost h.c, Int.ofNat_inj, Bool.not_not]
  by_cases c1 : t.Cost.length = K
  · simp only [c1, decide_true, Bool.and_true, if_true]
    cases nmB t.Name <;> cases kIn t.Shift (-3) 3 <;> cases kIn t.Height 0 3 <;> simp
  · cases nmB t.Name <;> simp [c1]
theorem goodKd_i {k : Gi_Kind} (h : k.Name.size ≤ 2000000) : Di_goodKind k = some (kdOk k) := by
  unfold Di_goodKind kdOk
  simp only [nm_i h, Option.bind_some, kin_i]
  cases nmB k.Name <;> cases kIn k.Strength 1 9 <;> cases kIn k.Moves 0 9 <;> cases kIn k.Steps 1 4 <;> simp
theorem rlKinds_i {r : Gi_Rules} (h : RlLen r) : loop Bi_IsRules (.h2 r.Kinds (r.Kinds.length : Int) 0 r) = some (alli (fun i k => kdOk k && decide (kdIx k.Name r.Kinds = i)) r.Kinds && rlEnd r) := by
  have hk := h.k
  refine all_loop2 (B := Bi_IsRules) (S := fun i => .h2 r.Kinds (r.Kinds.length : Int) (i : Int) r) (fun i x hx hi _ => ?_) ?_
  · have hn := h.ks x (List.mem_of_getElem? hx)
    simp only [Bi_IsRules, ltc hi, nnc, if_true, Int.toNat_natCast, hx, Option.bind_some, goodKd_i hn, kdIx_i hk, wsucc (show i < 9223372036854775807 by omega)]
    by_cases c : kdIx x.Name r.Kinds = i
    · cases kdOk x <;> simp [c]
    · cases kdOk x <;> simp [c]
  · simp only [Bi_IsRules, nltc, if_false, kin_i, Option.bind_some, rlEnd]
    cases kIn r.Stack 1 4 <;> cases kIn r.River 0 9 <;> cases kIn r.Road 1 9 <;> cases kIn r.Supply 0 20 <;> simp
theorem rlKinds_s {r : Gi_Rules} (h : RlLen r) : loop Bs_rGood (.h2 r.Kinds (r.Kinds.length : Int) 0 r) = some (alli (fun i k => kdOk k && decide (kdIx k.Name r.Kinds = i)) r.Kinds && rlEnd r) := by
  have hk := h.k
  refine all_loop2 (B := Bs_rGood) (S := fun i => .h2 r.Kinds (r.Kinds.length : Int) (i : Int) r) (fun i x hx hi _ => ?_) ?_
  · have hn := h.ks x (List.mem_of_getElem? hx)
    simp only [Bs_rGood, ltc hi, nnc, if_true, Int.toNat_natCast, hx, Option.bind_some, nm_s hn, kin_s, kdIx_s hk, wsucc (show i < 9223372036854775807 by omega)]
    have b1 := Bool.eq_false_or_eq_true (nmB x.Name)
    have b2 := Bool.eq_false_or_eq_true (kIn x.Strength 1 9)
    have b3 := Bool.eq_false_or_eq_true (kIn x.Moves 0 9)
    have b4 := Bool.eq_false_or_eq_true (kIn x.Steps 1 4)
    have b5 := Bool.eq_false_or_eq_true (kIn x.View 0 4)
    by_cases c : kdIx x.Name r.Kinds = i
    · rcases b1 with b1 | b1 <;> rcases b2 with b2 | b2 <;> rcases b3 with b3 | b3 <;> rcases b4 with b4 | b4 <;> rcases b5 with b5 | b5 <;> simp [kdOk, c, b1, b2, b3, b4, b5]
    · rcases b1 with b1 | b1 <;> simp [kdOk, c, b1]
  · simp only [Bs_rGood, nltc, if_false, kin_s, Option.bind_some, rlEnd]
    cases kIn r.Stack 1 4 <;> cases kIn r.River 0 9 <;> cases kIn r.Road 1 9 <;> cases kIn r.Supply 0 20 <;> simp
theorem isRules_i {r : Gi_Rules} (h : RlLen r) : Di_IsRules r = some (rlG r) := by
  have ht := h.t
  have key := all_goL (L := loop Bi_IsRules) (S := fun i => .h1 r.Terrains (r.Terrains.length : Int) (i : Int) r) (l := r.Terrains) (q := fun i t => trOk r.Kinds.length t && decide (trIx t.Name r.Terrains = i)) (f := false) (r := some (alli (fun i k => kdOk k && decide (kdIx k.Name r.Kinds = i)) r.Kinds && rlEnd r)) (fun i x hx hi _ => by
      have hn := h.ts x (List.mem_of_getElem? hx)
      rw [loop_eq]
      simp only [Bi_IsRules, ltc hi, nnc, if_true, Int.toNat_natCast, hx, Option.bind_some, goodTr_i hn, trIx_i ht, wsucc (show i < 9223372036854775807 by omega)]
      by_cases c : trIx x.Name r.Terrains = i
      · cases trOk r.Kinds.length x <;> simp [c, goOn]
      · cases trOk r.Kinds.length x <;> simp [c, goOn]) fun _ => by
      rw [loop_eq]
      simp only [Bi_IsRules, nltc, if_false, goOn]
      exact rlKinds_i h
  unfold Di_IsRules
  simp only [kin_i, Option.bind_some, rlG]
  have key' : loop Bi_IsRules (.h1 r.Terrains (r.Terrains.length : Int) 0 r) = _ := key
  rw [key']
  cases kIn r.Terrains.length 1 6 <;> cases kIn r.Kinds.length 1 4 <;> cases alli (fun i t => trOk r.Kinds.length t && decide (trIx t.Name r.Terrains = i)) r.Terrains <;> simp
theorem isRules_s {r : Gi_Rules} (h : RlLen r) : Ds_rGood r = some (rlG r) := by
  have ht := h.t
  have key := all_goL (L := loop Bs_rGood) (S := fun i => .h1 r.Terrains (r.Terrains.length : Int) (i : Int) r) (l := r.Terrains) (q := fun i t => trOk r.Kinds.length t && decide (trIx t.Name r.Terrains = i)) (f := false) (r := some (alli (fun i k => kdOk k && decide (kdIx k.Name r.Kinds = i)) r.Kinds && rlEnd r)) (fun i x hx hi _ => by
      have hn := h.ts x (List.mem_of_getElem? hx)
      have hn1 := hn.n
      have hn2 := hn.c
      rw [loop_eq]
      simp only [Bs_rGood, ltc hi, nnc, if_true, Int.toNat_natCast, hx, Option.bind_some, nm_s hn1, l1All_s hn2, kin_s, trIx_s ht, wsucc (show i < 9223372036854775807 by omega), Int.ofNat_inj]
      have b1 := Bool.eq_false_or_eq_true (nmB x.Name)
      have b2 := Bool.eq_false_or_eq_true (kIn x.Shift (-3) 3)
      have b3 := Bool.eq_false_or_eq_true (kIn x.Height 0 3)
      have b4 := Bool.eq_false_or_eq_true (alli (fun _ x => kIn x 0 9) x.Cost)
      by_cases c : trIx x.Name r.Terrains = i
      · by_cases c1 : x.Cost.length = r.Kinds.length
        · rcases b1 with b1 | b1 <;> rcases b2 with b2 | b2 <;> rcases b3 with b3 | b3 <;> rcases b4 with b4 | b4 <;> simp [trOk, c, c1, b1, b2, b3, b4, goOn]
        · rcases b1 with b1 | b1 <;> simp [trOk, c, c1, b1, goOn]
      · rcases b1 with b1 | b1 <;> simp [trOk, c, b1, goOn]) fun _ => by
      rw [loop_eq]
      simp only [Bs_rGood, nltc, if_false, goOn]
      exact rlKinds_s h
  unfold Ds_rGood
  simp only [kin_s, Option.bind_some, rlG]
  have key' : loop Bs_rGood (.h1 r.Terrains (r.Terrains.length : Int) 0 r) = _ := key
  rw [key']
  cases kIn r.Terrains.length 1 6 <;> cases kIn r.Kinds.length 1 4 <;> cases alli (fun i t => trOk r.Kinds.length t && decide (trIx t.Name r.Terrains = i)) r.Terrains <;> simp
/-- What valid rules are. -/
structure RlOk (r : Gi_Rules) : Prop where
  t : 1 ≤ r.Terrains.length ∧ r.Terrains.length ≤ 6
  k : 1 ≤ r.Kinds.length ∧ r.Kinds.length ≤ 4
  ts : ∀ x ∈ r.Terrains, x.Cost.length = r.Kinds.length ∧ ∀ c ∈ x.Cost, 0 ≤ c ∧ c ≤ 9
  ks : ∀ x ∈ r.Kinds, (1 ≤ x.Strength ∧ x.Strength ≤ 9) ∧ (0 ≤ x.Moves ∧ x.Moves ≤ 9) ∧ (1 ≤ x.Steps ∧ x.Steps ≤ 4) ∧ (0 ≤ x.View ∧ x.View ≤ 4)
  sh : ∀ x ∈ r.Terrains, (-3 ≤ x.Shift ∧ x.Shift ≤ 3) ∧ (0 ≤ x.Height ∧ x.Height ≤ 3)
  e : (1 ≤ r.Stack ∧ r.Stack ≤ 4) ∧ (0 ≤ r.River ∧ r.River ≤ 9) ∧ (1 ≤ r.Road ∧ r.Road ≤ 9) ∧ (0 ≤ r.Supply ∧ r.Supply ≤ 20) ∧ (1 ≤ r.Turns ∧ r.Turns ≤ 30)
theorem rlG_ok {r : Gi_Rules} (h : rlG r = true) : RlOk r := by
  simp only [rlG, rlEnd, Bool.and_eq_true, kIn_iff] at h
  obtain ⟨⟨⟨⟨h1, h2⟩, h3⟩, h4⟩, h5⟩ := h
  have h3' := alli_iff.1 h3
  have h4' := alli_iff.1 h4
  refine ⟨by omega, by omega, fun x hx => ?_, fun x hx => ?_, fun x hx => ?_, by omega⟩
  · obtain ⟨i, hi⟩ := List.getElem?_of_mem hx
    have := h3' i x hi
    simp only [trOk, Bool.and_eq_true, decide_eq_true_eq, kIn_iff] at this
    refine ⟨this.1.1.1.1.2, fun c hc => ?_⟩
    obtain ⟨j, hj⟩ := List.getElem?_of_mem hc
    have := alli_iff.1 this.1.2 j c hj
    simpa [kIn_iff] using this
  · obtain ⟨i, hi⟩ := List.getElem?_of_mem hx
    have := h4' i x hi
    simp only [kdOk, Bool.and_eq_true, decide_eq_true_eq, kIn_iff] at this
    omega
  · obtain ⟨i, hi⟩ := List.getElem?_of_mem hx
    have := h3' i x hi
    simp only [trOk, Bool.and_eq_true, decide_eq_true_eq, kIn_iff] at this
    omega

structure BdLen (b : Gi_Board) : Prop where
  r : RlLen b.Rules
  m : MpLen b.Map
def bdG (b : Gi_Board) : Bool := rlG b.Rules && mpGood b.Map && alli (fun _ x => kIn x 0 (b.Rules.Terrains.length - 1)) b.Map.Terrain
theorem mpGood_terr {m : Gi_Map} (h : mpGood m = true) : ∀ x ∈ m.Terrain, 0 ≤ x ∧ x ≤ 5 := by
  simp only [mpGood, Bool.and_eq_true, List.all_eq_true] at h
  intro x hx
  have := h.1.1.2 x hx
  simpa [terrOk] using this
theorem contains_terr {b : Gi_Board} {l : List Int} (hl : l.length ≤ 2000000) : Dslices_ContainsFunc_int_i_IsBoard_1 l b = some (!(alli (fun _ (x : Int) => decide (x < b.Rules.Terrains.length)) l)) := by
  rw [← ifNB]
  have := all_goL (L := fun s => (loop Bslices_IndexFunc_int_i_IsBoard_1 s).map fun r => decide (r ≥ 0)) (S := fun i => .h1 l b (l.length : Int) (i : Int)) (l := l) (q := fun _ (x : Int) => decide (x < b.Rules.Terrains.length)) (f := true) (r := some false) (fun i x hx hi _ => by
    rw [loop_eq]
    simp only [Bslices_IndexFunc_int_i_IsBoard_1, ltc hi, nnc, if_true, Int.toNat_natCast, hx, Option.bind_some, Di_IsBoard_1, wsucc (show i < 9223372036854775807 by omega)]
    by_cases c : x < b.Rules.Terrains.length
    · have : ¬ x ≥ b.Rules.Terrains.length := by omega
      simp [c, this, goOn]
    · have : x ≥ b.Rules.Terrains.length := by omega
      simp [c, this, goOn]) fun _ => by
    rw [loop_eq]
    simp only [Bslices_IndexFunc_int_i_IsBoard_1, nltc, if_false]
    rfl
  refine Eq.trans ?_ this
  unfold Dslices_ContainsFunc_int_i_IsBoard_1 Dslices_IndexFunc_int_i_IsBoard_1
  cases loop Bslices_IndexFunc_int_i_IsBoard_1 (.h1 l b (l.length : Int) 0) <;> rfl
theorem isBoard_i {b : Gi_Board} (h : BdLen b) : Di_IsBoard b = some (bdG b) := by
  unfold Di_IsBoard bdG
  rw [isRules_i h.r, Option.bind_some]
  cases c1 : rlG b.Rules with
  | false => simp
  | true =>
    rw [isMap_i h.m]
    simp only [if_true, Option.bind_some]
    cases c2 : mpGood b.Map with
    | false => simp
    | true =>
      have ht := mpGood_terr c2
      simp only [if_true, contains_terr h.m.1, Option.bind_some, Bool.not_not, Bool.true_and, Option.some.injEq]
      rw [Bool.eq_iff_iff, alli_iff, alli_iff]
      constructor
      · intro k i x hx
        have h1 := k i x hx
        have h2 := ht x (List.mem_of_getElem? hx)
        simp only [decide_eq_true_eq] at h1
        exact kIn_iff.2 ⟨h2.1, by omega⟩
      · intro k i x hx
        have h1 := kIn_iff.1 (k i x hx)
        simp only [decide_eq_true_eq]
        omega
theorem isBoard_s {b : Gi_Board} (h : BdLen b) : Ds_bGood b = some (bdG b) := by
  have hr := h.r.t
  unfold Ds_bGood bdG
  rw [isRules_s h.r, Option.bind_some]
  cases c1 : rlG b.Rules with
  | false => simp
  | true =>
    rw [good_m h.m]
    simp only [if_true, Option.bind_some]
    cases c2 : mpGood b.Map with
    | false => simp
    | true =>
      rw [w64 (by omega)]
      simp only [if_true, l1All_s h.m.1, Option.bind_some, Bool.true_and]
/-- What a valid board is. -/
structure BdOk (b : Gi_Board) : Prop where
  r : RlOk b.Rules
  d : MpDim b.Map 10
  n : (b.Map.Terrain.length : Int) = b.Map.Width * b.Map.Height
  n2 : 1 ≤ b.Map.Terrain.length ∧ b.Map.Terrain.length ≤ 100
  t : ∀ x ∈ b.Map.Terrain, 0 ≤ x ∧ x < b.Rules.Terrains.length
theorem bdG_ok {b : Gi_Board} (h : bdG b = true) : BdOk b := by
  simp only [bdG, Bool.and_eq_true] at h
  obtain ⟨⟨h1, h2⟩, h3⟩ := h
  obtain ⟨d, n, _, _⟩ := mpGood_dim h2
  have hs := mpSize d
  refine ⟨rlG_ok h1, d, n, by omega, fun x hx => ?_⟩
  obtain ⟨i, hi⟩ := List.getElem?_of_mem hx
  have := kIn_iff.1 (alli_iff.1 h3 i x hi)
  omega
theorem BdOk.d100 {b : Gi_Board} (h : BdOk b) : MpDim b.Map 100 := by
  have := h.d
  unfold MpDim at this ⊢
  omega

theorem isIndex_i {x n : Int} (h : -1000000000 ≤ n ∧ n ≤ 1000000000) : Di_isIndex x n = some (kIn x 0 (n - 1)) := by
  unfold Di_isIndex
  rw [w64 (by omega), kin_i]
  rfl
theorem isKindOf_i {b : Gi_Board} (h : BdLen b) (k : Int) : Di_isKindOf b k = some (bdG b && kIn k 0 (b.Rules.Kinds.length - 1)) := by
  have := h.r.k
  unfold Di_isKindOf
  rw [isBoard_i h, Option.bind_some, isIndex_i (by omega)]
  cases bdG b <;> simp
theorem bAt_s {b : Gi_Board} (h : BdLen b) (k i : Int) : Ds_bAt b k i = some (bdG b && kIn k 0 (b.Rules.Kinds.length - 1) && kIn i 0 (b.Map.Terrain.length - 1)) := by
  have := h.r.k
  unfold Ds_bAt
  rw [isBoard_s h, Option.bind_some, w64 (by omega)]
  cases c : bdG b with
  | false => simp
  | true =>
    have ho := bdG_ok c
    have hn := ho.n2
    simp only [if_true, kin_s, Option.bind_some, Bool.true_and]
    cases kIn k 0 (b.Rules.Kinds.length - 1) with
    | false => simp
    | true =>
      rw [mSize_s ho.d (by decide), ← ho.n, Option.bind_some, w64 (by omega)]
      simp
theorem okPick {c : Gs_l1Cur} {k : Int} (h : Cu c k) (hk : k + 2 ≤ 1099511627776) (n : Int) : Ok (Ds_l1Cur_pick c n) fun r => (0 ≤ r.1 ∧ (1 ≤ n → r.1 < n) ∧ r.1 ≤ 65535) ∧ Cu r.2 (k + 2) := by
  obtain ⟨v, c', e, h1, h2⟩ := cuPick h hk n
  exact ⟨_, e, h1, h2⟩
theorem okOne {c : Gs_l1Cur} {k : Int} (h : Cu c k) (hk : k + 2 ≤ 1099511627776) (n : Int) : Ok (Ds_l1Cur_one c n) fun r => Cu r.2 (k + 2) := by
  obtain ⟨v, c', e, h2⟩ := cuOne h hk n
  exact ⟨_, e, h2⟩
theorem okAmong {c : Gs_l1Cur} {k : Int} (h : Cu c k) (hk : k + 2 ≤ 1099511627776) (l : List Int) (hl : 0 < l.length) : Ok (Ds_l1Cur_among c l) fun r => r.1 ∈ l ∧ Cu r.2 (k + 2) := by
  obtain ⟨v, c', e, h1, h2⟩ := cuAmong h hk l hl
  exact ⟨_, e, h1, h2⟩
theorem okOf {c : Gs_l1Cur} {k : Int} (h : Cu c k) (hk : k + 2 ≤ 1099511627776) (l : List ByteArray) (hl : 0 < l.length) : Ok (Ds_l1Cur_of c l) fun r => r.1 ∈ l ∧ Cu r.2 (k + 2) := by
  obtain ⟨v, c1, e1, hv, hc1⟩ := cuPick h hk l.length
  have := hv.2.1 (by omega)
  have hx : l[v.toNat]? = some l[v.toNat] := List.getElem?_eq_getElem (by omega)
  unfold Ds_l1Cur_of
  rw [e1, Option.bind_some, if_pos hv.1, hx, Option.bind_some]
  exact ⟨_, rfl, List.mem_of_getElem? hx, hc1⟩
/-- Rules, as drawn. -/
structure RlD (r : Gi_Rules) : Prop where
  t : 1 ≤ r.Terrains.length ∧ r.Terrains.length ≤ 20
  ts : ∀ x ∈ r.Terrains, x.Name.size ≤ 100 ∧ 1 ≤ x.Cost.length ∧ x.Cost.length ≤ 100
  k : 1 ≤ r.Kinds.length ∧ r.Kinds.length ≤ 20
  ks : ∀ x ∈ r.Kinds, x.Name.size ≤ 100
theorem RlD.len {r : Gi_Rules} (h : RlD r) : RlLen r where
  t := by have := h.t; omega
  ts := fun x hx => by have := h.ts x hx; exact ⟨by omega, by omega⟩
  k := by have := h.k; omega
  ks := fun x hx => by have := h.ks x hx; omega
def five : List ByteArray := [⟨#[112, 108, 97, 105, 110]⟩, ⟨#[119, 111, 111, 100]⟩, ⟨#[104, 105, 108, 108]⟩, ⟨#[115, 101, 97]⟩, ⟨#[116, 111, 119, 110]⟩]
theorem five_sz : ∀ x ∈ five, x.size ≤ 100 := by
  intro x hx
  simp only [five, List.mem_cons, List.not_mem_nil, or_false] at hx
  rcases hx with rfl | rfl | rfl | rfl | rfl <;> decide
def TrDs (l : List Gi_Terrain) : Prop := ∀ x ∈ l, x.Name.size ≤ 100 ∧ 1 ≤ x.Cost.length ∧ x.Cost.length ≤ 100
def KdDs (l : List Gi_Kind) : Prop := (1 ≤ l.length ∧ l.length ≤ 3) ∧ ∀ x ∈ l, x.Name.size ≤ 100
theorem TrDs.snoc {l : List Gi_Terrain} {x : Gi_Terrain} (h : TrDs l) (hx : x.Name.size ≤ 100 ∧ 1 ≤ x.Cost.length ∧ x.Cost.length ≤ 100) : TrDs (l ++ [x]) := fun y hy => by
  rcases List.mem_append.1 hy with hy | hy
  · exact h y hy
  · rw [List.mem_singleton.1 hy]; exact hx
def rlI (k : Int) : Ss_l1Cur_rules → Prop
  | .h1 t0 b1 _ _ _ _ _ _ _ _ _ _ l12 l13 => t0 = 0 ∧ Cu b1 k ∧ l12 = five ∧ KdDs l13
  | .h2 t0 t1 t2 b3 _ _ _ _ _ _ _ _ _ _ l14 b15 _ _ _ l19 => t0 = 0 ∧ t1 = (l19.length : Int) ∧ t2 = 0 ∧ Cu b3 (k + 12) ∧ l14 = five ∧ b15.size ≤ 100 ∧ KdDs l19
  | .h3 t0 t1 t2 b3 _ _ _ _ _ _ _ _ _ _ l14 b15 _ _ _ l19 l20 => t0 = 0 ∧ t1 = (l19.length : Int) ∧ 1 ≤ t2 ∧ t2 ≤ t1 ∧ Cu b3 (k + 12 + 2 * t2) ∧ l14 = five ∧ b15.size ≤ 100 ∧ KdDs l19 ∧ (l20.length : Int) = t2
  | .h4 t0 b1 _ _ _ _ _ _ _ _ _ _ l12 l13 l14 => 1 ≤ t0 ∧ t0 ≤ 5 ∧ Cu b1 (k + 30 * t0) ∧ l12 = five ∧ (l13.length : Int) = t0 ∧ TrDs l13 ∧ KdDs l14
  | .h5 t0 t1 t2 b3 _ _ _ _ _ _ _ _ _ _ l14 b15 _ _ _ l19 l20 => 1 ≤ t0 ∧ t0 ≤ 4 ∧ t1 = (l20.length : Int) ∧ t2 = 0 ∧ Cu b3 (k + 30 * t0 + 12) ∧ l14 = five ∧ b15.size ≤ 100 ∧ (l19.length : Int) = t0 ∧ TrDs l19 ∧ KdDs l20
  | .h6 t0 t1 t2 b3 _ _ _ _ _ _ _ _ _ _ l14 b15 _ _ _ l19 l20 l21 => 1 ≤ t0 ∧ t0 ≤ 4 ∧ t1 = (l20.length : Int) ∧ 1 ≤ t2 ∧ t2 ≤ t1 ∧ Cu b3 (k + 30 * t0 + 12 + 2 * t2) ∧ l14 = five ∧ b15.size ≤ 100 ∧ (l19.length : Int) = t0 ∧ TrDs l19 ∧ KdDs l20 ∧ (l21.length : Int) = t2
def rlM : Ss_l1Cur_rules → Nat
  | .h1 .. => 10000
  | .h2 .. => 9000
  | .h3 _ t1 t2 .. => 8000 + (t1 - t2).toNat
  | .h4 t0 .. => 100 * (10 - t0).toNat
  | .h5 t0 .. => 100 * (10 - t0).toNat - 1
  | .h6 t0 t1 t2 .. => 100 * (10 - t0).toNat - 50 + (t1 - t2).toNat
theorem okRulesLoop {k : Int} (hk : k + 200 ≤ 1099511627776) : ∀ {s}, rlI k s → Ok (loop Bs_l1Cur_rules s) fun r => RlD r.1 ∧ Cu r.2 (k + 200) := by
  refine Ok.loop (rlI k) rlM fun s hI => ?_
  match s, hI with
  | .h1 t0 b1 b2 b3 b4 b5 b6 b7 b8 b9 b10 b11 l12 l13, hI =>
    obtain ⟨rfl, hc, rfl, hkd⟩ := hI
    have hkl := hkd.1
    simp only [Bs_l1Cur_rules]
    refine Ok.bind (okPick hc (by omega) 4) fun r1 h1 => ?_
    obtain ⟨h1, hc1⟩ := h1
    rw [w64 (by omega)]
    refine Ok.chk (by omega) (Ok.els (by decide) (Ok.chk (by decide) (Ok.get (by decide) fun x hx hm => ?_)))
    refine Ok.bind (okPick hc1 (by omega) 3) fun r6 h6 => Ok.bind (okPick h6.2 (by omega) 2) fun r7 h7 => Ok.bind (okPick h7.2 (by omega) 3) fun r8 h8 => Ok.els (by decide) (Ok.ret ?_)
    exact ⟨⟨rfl, rfl, rfl, h8.2.mono (by omega) (by omega), rfl, five_sz _ hm, hkd⟩, by simp [rlM]⟩
  | .h2 t0 t1 t2 b3 b4 b5 b6 b7 b8 b9 b10 b11 b12 b13 l14 b15 b16 b17 b18 l19, hI =>
    obtain ⟨rfl, rfl, rfl, hc, rfl, hn, hkd⟩ := hI
    have hkl := hkd.1
    simp only [Bs_l1Cur_rules]
    refine Ok.chk (by omega) (Ok.els (by decide) (Ok.chk (by decide) (Ok.ret ?_)))
    exact ⟨⟨rfl, rfl, by decide, by rw [show IntKind.wrap .i64 (0 + 1) = 1 from by decide]; omega, hc.mono (by rw [show IntKind.wrap .i64 (0 + 1) = 1 from by decide]; omega) (by rw [show IntKind.wrap .i64 (0 + 1) = 1 from by decide]; omega), rfl, hn, hkd, rfl⟩, by simp only [rlM]; rw [show IntKind.wrap .i64 (0 + 1) = 1 from by decide]; omega⟩
  | .h3 t0 t1 t2 b3 b4 b5 b6 b7 b8 b9 b10 b11 b12 b13 l14 b15 b16 b17 b18 l19 l20, hI =>
    obtain ⟨rfl, rfl, ht1, ht2, hc, rfl, hn, hkd, hl⟩ := hI
    have hkl := hkd.1
    simp only [Bs_l1Cur_rules]
    refine Ok.ite (fun c => Ok.els (by decide) (Ok.chk (by simp; omega) (Ok.ret ?_))) fun c => Ok.chk (by simp) (Ok.ret ?_)
    · have e : IntKind.wrap .i64 (t2 + 1) = t2 + 1 := w64 (by omega)
      exact ⟨⟨rfl, rfl, by omega, by omega, hc.mono (by omega) (by omega), rfl, hn, hkd, by simp; omega⟩, by simp only [rlM]; omega⟩
    · refine ⟨⟨by decide, by decide, hc.mono (by rw [show IntKind.wrap .i64 (0 + 1) = 1 from by decide]; omega) (by rw [show IntKind.wrap .i64 (0 + 1) = 1 from by decide]; omega), rfl, rfl, fun x hx => ?_, hkd⟩, by simp only [rlM]; rw [show IntKind.wrap .i64 (0 + 1) = 1 from by decide]; omega⟩
      rw [List.mem_singleton.1 hx]
      exact ⟨hn, by simp only; omega, by simp only; omega⟩
  | .h4 t0 b1 b2 b3 b4 b5 b6 b7 b8 b9 b10 b11 l12 l13 l14, hI =>
    obtain ⟨ht1, ht2, hc, rfl, hl, htr, hkd⟩ := hI
    have hkl := hkd.1
    simp only [Bs_l1Cur_rules]
    refine Ok.bind (okPick hc (by omega) 4) fun r1 h1 => ?_
    obtain ⟨h1, hc1⟩ := h1
    rw [w64 (n := 2 + r1.1) (by omega)]
    have done : RlD ⟨l13, l14, b7, b8, b9, b10, b11⟩ ∧ Cu r1.2 (k + 200) := ⟨⟨by simp only; omega, htr, by simp only; omega, hkd.2⟩, hc1.mono (by omega) (by omega)⟩
    refine Ok.ite (fun c => Ok.ite (fun c2 => Ok.ret done) fun c2 => ?_) fun c => Ok.ret done
    have hf : (five.length : Int) = 5 := rfl
    rw [hf] at c2
    refine Ok.chk (by omega) (Ok.get (show t0.toNat < 5 by omega) fun x hx hm => ?_)
    refine Ok.bind (okPick hc1 (by omega) 3) fun r6 h6 => Ok.bind (okPick h6.2 (by omega) 2) fun r7 h7 => Ok.bind (okPick h7.2 (by omega) 3) fun r8 h8 => Ok.chk (by omega) (Ok.bind (okOne h8.2 (by omega) 3) fun r10 h10 => Ok.ret ?_)
    exact ⟨⟨ht1, by omega, rfl, rfl, h10.mono (by omega) (by omega), rfl, five_sz _ hm, hl, htr, hkd⟩, by simp only [rlM]; omega⟩
  | .h5 t0 t1 t2 b3 b4 b5 b6 b7 b8 b9 b10 b11 b12 b13 l14 b15 b16 b17 b18 l19 l20, hI =>
    obtain ⟨ht1, ht2, rfl, rfl, hc, rfl, hn, hl, htr, hkd⟩ := hI
    have hkl := hkd.1
    have e1 : IntKind.wrap .i64 (0 + 1) = 1 := by decide
    simp only [Bs_l1Cur_rules]
    refine Ok.chk (by omega) (Ok.chk (by omega) (Ok.bind (okPick hc (by omega) 4) fun r3 h3 => Ok.chk (by simp) (Ok.ret ?_)))
    exact ⟨⟨ht1, ht2, rfl, by omega, by omega, h3.2.mono (by omega) (by omega), rfl, hn, hl, htr, hkd, by rw [e1]; rfl⟩, by simp only [rlM]; omega⟩
  | .h6 t0 t1 t2 b3 b4 b5 b6 b7 b8 b9 b10 b11 b12 b13 l14 b15 b16 b17 b18 l19 l20 l21, hI =>
    obtain ⟨ht1, ht2, rfl, ht3, ht4, hc, rfl, hn, hl, htr, hkd, hl2⟩ := hI
    have hkl := hkd.1
    have e1 : IntKind.wrap .i64 (t2 + 1) = t2 + 1 := w64 (by omega)
    have e2 : IntKind.wrap .i64 (t0 + 1) = t0 + 1 := w64 (by omega)
    simp only [Bs_l1Cur_rules]
    refine Ok.ite (fun c => Ok.chk (by omega) (Ok.bind (okPick hc (by omega) 4) fun r3 h3 => Ok.chk (by simp; omega) (Ok.ret ?_))) fun c => Ok.chk (by simp; omega) (Ok.ret ?_)
    · exact ⟨⟨ht1, ht2, rfl, by omega, by omega, h3.2.mono (by omega) (by omega), rfl, hn, hl, htr, hkd, by simp; omega⟩, by simp only [rlM]; omega⟩
    · exact ⟨⟨by omega, by omega, hc.mono (by omega) (by omega), rfl, by simp; omega, htr.snoc ⟨hn, by simp only; omega, by simp only; omega⟩, hkd⟩, by simp only [rlM]; omega⟩
theorem okRules {c : Gs_l1Cur} {k : Int} (h : Cu c k) (hk : k + 300 ≤ 1099511627776) : Ok (Ds_l1Cur_rules c) fun r => RlD r.1 ∧ Cu r.2 (k + 300) := by
  unfold Ds_l1Cur_rules
  refine Ok.bind (okPick h (by omega) 3) fun r1 h1 => Ok.bind (okPick h1.2 (by omega) 4) fun r2 h2 => Ok.bind (okPick h2.2 (by omega) 3) fun r3 h3 => Ok.bind (okPick h3.2 (by omega) 2) fun r4 h4 => Ok.bind (okPick h4.2 (by omega) 4) fun r5 h5 => Ok.bind (okPick h5.2 (by omega) 6) fun r6 h6 => Ok.bind (okPick h6.2 (by omega) 2) fun r7 h7 => Ok.bind (okOne h7.2 (by omega) 2) fun r8 h8 => Ok.bind (okPick h8 (by omega) 6) fun r9 h9 => Ok.bind (okPick h9.2 (by omega) 3) fun r10 h10 => Ok.bind (okPick h10.2 (by omega) 3) fun r11 h11 => Ok.bind (okPick h11.2 (by omega) 3) fun r12 h12 => ?_
  rw [w64 (n := 1 + r12.1) (by omega)]
  refine Ok.chk (by omega) (Ok.chk (by simp; omega) ?_)
  refine Ok.bind (okPick h12.2 (by omega) 3) fun r15 h15 => Ok.bind (okPick h15.2 (by omega) 3) fun r16 h16 => Ok.bind (okPick h16.2 (by omega) 8) fun r17 h17 => Ok.bind (okPick h17.2 (by omega) 8) fun r18 h18 => ?_
  refine Ok.mono (okRulesLoop (k := k + 40) (by omega) ?_) fun r hr => ⟨hr.1, hr.2.mono (by omega) (by omega)⟩
  refine ⟨rfl, h18.2.mono (by omega) (by omega), rfl, ⟨?_, ?_⟩, fun x hx => ?_⟩
  · simp; omega
  · simp; omega
  · have := List.mem_of_mem_drop (List.mem_of_mem_take hx)
    simp only [List.mem_cons, List.not_mem_nil, or_false] at this
    rcases this with rfl | rfl | rfl <;> simp only <;> decide
/-- Rules, perhaps spoilt. -/
theorem okAnyRules {c : Gs_l1Cur} {k : Int} (h : Cu c k) (hk : k + 310 ≤ 1099511627776) : Ok (Ds_l1Cur_anyRules c) fun r => RlLen r.1 ∧ (1 ≤ r.1.Kinds.length ∧ r.1.Kinds.length ≤ 30) ∧ Cu r.2 (k + 310) := by
  unfold Ds_l1Cur_anyRules
  refine Ok.bind (okRules h (by omega)) fun r1 h1 => Ok.bind (okPick h1.2 (by omega) 30) fun r2 h2 => ?_
  obtain ⟨hd, _⟩ := h1
  have hc2 := h2.2
  have ht := hd.t
  have hkk := hd.k
  have hl := hd.len
  have fin : ∀ {c'}, Cu c' (k + 300 + 2 + 2) → Cu c' (k + 310) := fun hc => hc.mono (by omega) (by omega)
  have setT : ∀ y : Gi_Terrain, TrLen y → RlLen ⟨List.set r1.1.Terrains (Int.toNat 0) y, r1.1.Kinds, r1.1.Stack, r1.1.River, r1.1.Road, r1.1.Supply, r1.1.Turns⟩ := fun y hy => ⟨by simp only [List.length_set]; omega, fun x hx => by
    rcases List.mem_or_eq_of_mem_set hx with hx | rfl
    · exact hl.ts x hx
    · exact hy, hl.k, hl.ks⟩
  refine Ok.ite (fun _ => ?_) fun _ => Ok.ite (fun _ => ?_) fun _ => Ok.ite (fun _ => ?_) fun _ => Ok.ite (fun _ => ?_) fun _ => Ok.ite (fun _ => ?_) fun _ => Ok.ite (fun _ => ?_) fun _ => Ok.ite (fun _ => ?_) fun _ => ?_
  · refine Ok.get (show 0 < r1.1.Terrains.length by omega) fun x hx hm => ?_
    have := hd.ts x hm
    refine Ok.bind (okAmong hc2 (by omega) _ (by decide)) fun r5 h5 => Ok.get (show 0 < x.Cost.length by omega) fun y hy _ => Ok.ret ⟨setT _ ⟨by simp only; omega, by simp only [List.length_set]; omega⟩, by simp only; omega, fin h5.2⟩
  · refine Ok.bind (okOf hc2 (by omega) _ (by decide)) fun r5 h5 => Ok.get (show 0 < r1.1.Terrains.length by omega) fun x hx hm => ?_
    have := hd.ts x hm
    have hs : r5.1.size ≤ 100 := by
      have := h5.1
      simp only [List.mem_cons, List.not_mem_nil, or_false] at this
      rcases this with e | e | e | e | e <;> rw [e] <;> decide
    exact Ok.ret ⟨setT _ ⟨by simp only; omega, by simp only; omega⟩, by simp only; omega, fin h5.2⟩
  · refine Ok.bind (okAmong hc2 (by omega) _ (by decide)) fun r5 h5 => Ok.get (show 0 < r1.1.Kinds.length by omega) fun x hx hm => Ok.ret ⟨⟨hl.t, hl.ts, by simp only [List.length_set]; omega, fun y hy => ?_⟩, by simp only [List.length_set]; omega, fin h5.2⟩
    rcases List.mem_or_eq_of_mem_set hy with hy | rfl
    · exact hl.ks y hy
    · exact hl.ks x hm
  · refine Ok.get (show 0 < r1.1.Kinds.length by omega) fun x hx hm => Ok.chk (by simp; omega) (Ok.ret ⟨⟨hl.t, hl.ts, by simp; omega, fun y hy => ?_⟩, by simp; omega, hc2.mono (by omega) (by omega)⟩)
    rcases List.mem_append.1 hy with hy | hy
    · exact hl.ks y hy
    · rw [List.mem_singleton.1 hy]; exact hl.ks x hm
  · exact Ok.bind (okAmong hc2 (by omega) _ (by decide)) fun r5 h5 => Ok.ret ⟨⟨hl.t, hl.ts, hl.k, hl.ks⟩, by simp only; omega, fin h5.2⟩
  · exact Ok.bind (okAmong hc2 (by omega) _ (by decide)) fun r5 h5 => Ok.ret ⟨⟨hl.t, hl.ts, hl.k, hl.ks⟩, by simp only; omega, fin h5.2⟩
  · refine Ok.bind (okAmong hc2 (by omega) _ (by decide)) fun r5 h5 => Ok.get (show 0 < r1.1.Terrains.length by omega) fun x hx hm => ?_
    have := hd.ts x hm
    exact Ok.ret ⟨setT _ ⟨by simp only; omega, by simp only; omega⟩, by simp only; omega, fin h5.2⟩
  · exact Ok.ret ⟨hl, by simp only; omega, hc2.mono (by omega) (by omega)⟩
theorem okEdges {m : Gi_Map} (hd : MpDim m 10) {c : Gs_l1Cur} {k : Int} (h : Cu c k) (hk : k + 40 ≤ 1099511627776) : Ok (Ds_l1Cur_edges c m) fun r => r.1.length ≤ 100 ∧ Cu r.2 (k + 40) := by
  obtain ⟨l, c', e, h1, h2⟩ := cuEdges hd h hk
  exact ⟨_, e, h2, h1⟩
def mpI (k T W H : Int) : Ss_l1Cur_mapOf → Prop
  | .h1 t i b2 _ _ b5 b6 => t = T ∧ i = 0 ∧ Cu b2 k ∧ b5 = W ∧ b6 = H
  | .h2 t i b2 _ _ b5 b6 l7 => t = T ∧ 1 ≤ i ∧ i ≤ W * H ∧ Cu b2 (k + 4 * i) ∧ b5 = W ∧ b6 = H ∧ (l7.length : Int) = i
def mpM (W H : Int) : Ss_l1Cur_mapOf → Nat
  | .h1 .. => 1000
  | .h2 _ i .. => (W * H - i).toNat
theorem okMapLoop {k T W H : Int} (hd : MpDim ⟨W, H, [], [], []⟩ 10) (hk : k + 1000 ≤ 1099511627776) : ∀ {s}, mpI k T W H s → Ok (loop Bs_l1Cur_mapOf s) fun r => MpDrawn r.1 ∧ Cu r.2 (k + 600) := by
  have hs := mpSize hd
  simp only at hs
  have hS : ∀ l : List Int, Ds_mSize ⟨W, H, l, [], []⟩ = some (W * H) := fun l => mSize_s (m := ⟨W, H, l, [], []⟩) (b := 10) hd (by decide)
  intro s0 h0
  refine Ok.loop (mpI k T W H) (mpM W H) (fun s hI => ?_) h0
  match s, hI with
  | .h1 t i b2 b3 b4 b5 b6, hI =>
    obtain ⟨rfl, rfl, hc, rfl, rfl⟩ := hI
    simp only [Bs_l1Cur_mapOf]
    refine Ok.eq (hS []) (Ok.chk (by omega) (Ok.bind (okOne hc (by omega) 3) fun r3 h3 => Ok.ite (fun _ => Ok.bind (okPick h3 (by omega) _) fun r5 h5 => Ok.chk (by simp) (Ok.ret ?_)) fun _ => Ok.chk (by simp) (Ok.ret ?_)))
    · exact ⟨⟨rfl, by decide, by rw [show IntKind.wrap .i64 (0 + 1) = 1 from by decide]; omega, h5.2.mono (by rw [show IntKind.wrap .i64 (0 + 1) = 1 from by decide]; omega) (by rw [show IntKind.wrap .i64 (0 + 1) = 1 from by decide]; omega), rfl, rfl, rfl⟩, by simp only [mpM]; rw [show IntKind.wrap .i64 (0 + 1) = 1 from by decide]; omega⟩
    · exact ⟨⟨rfl, by decide, by rw [show IntKind.wrap .i64 (0 + 1) = 1 from by decide]; omega, h3.mono (by rw [show IntKind.wrap .i64 (0 + 1) = 1 from by decide]; omega) (by rw [show IntKind.wrap .i64 (0 + 1) = 1 from by decide]; omega), rfl, rfl, rfl⟩, by simp only [mpM]; rw [show IntKind.wrap .i64 (0 + 1) = 1 from by decide]; omega⟩
  | .h2 t i b2 b3 b4 b5 b6 l7, hI =>
    obtain ⟨rfl, hi1, hi2, hc, rfl, rfl, hl⟩ := hI
    simp only [Bs_l1Cur_mapOf]
    refine Ok.eq (hS l7) (Ok.ite (fun cc => ?_) fun cc => ?_)
    · have e : IntKind.wrap .i64 (i + 1) = i + 1 := w64 (by omega)
      refine Ok.bind (okOne hc (by omega) 3) fun r3 h3 => Ok.ite (fun _ => Ok.bind (okPick h3 (by omega) _) fun r5 h5 => Ok.chk (by simp; omega) (Ok.ret ?_)) fun _ => Ok.chk (by simp; omega) (Ok.ret ?_)
      · exact ⟨⟨rfl, by omega, by omega, h5.2.mono (by omega) (by omega), rfl, rfl, by simp; omega⟩, by simp only [mpM]; omega⟩
      · exact ⟨⟨rfl, by omega, by omega, h3.mono (by omega) (by omega), rfl, rfl, by simp; omega⟩, by simp only [mpM]; omega⟩
    · have hd1 : MpDim ⟨b5, b6, l7, [], []⟩ 10 := hd
      refine Ok.bind (okEdges hd1 hc (by omega)) fun r3 h3 => ?_
      have hd2 : MpDim ⟨b5, b6, l7, r3.1, []⟩ 10 := hd
      exact Ok.bind (okEdges hd2 h3.2 (by omega)) fun r4 h4 => Ok.ret ⟨⟨hd, by simp only; omega, by simp only; omega, h3.1, h4.1⟩, h4.2.mono (by omega) (by omega)⟩
theorem okMapOf {c : Gs_l1Cur} {k : Int} (h : Cu c k) (hk : k + 1100 ≤ 1099511627776) (T : Int) : Ok (Ds_l1Cur_mapOf c T) fun r => MpDrawn r.1 ∧ Cu r.2 (k + 700) := by
  unfold Ds_l1Cur_mapOf
  refine Ok.bind (okPick h (by omega) 6) fun r1 h1 => Ok.bind (okPick h1.2 (by omega) 6) fun r2 h2 => ?_
  have v1 := h1.1.2.1 (by omega)
  have v2 := h2.1.2.1 (by omega)
  rw [w64 (n := 1 + r1.1) (by omega), w64 (n := 1 + r2.1) (by omega)]
  refine Ok.mono (okMapLoop (k := k + 4) (T := T) (W := 1 + r1.1) (H := 1 + r2.1) ?_ (by omega) ?_) fun r hr => ⟨hr.1, hr.2.mono (by omega) (by omega)⟩
  · unfold MpDim; simp only; omega
  · exact ⟨rfl, rfl, h2.2.mono (by omega) (by omega), rfl, rfl⟩
theorem MpDrawn.len {m : Gi_Map} (h : MpDrawn m) : MpLen m := by
  have := h.t2
  have := h.r
  have := h.o
  exact ⟨by omega, by omega, by omega⟩
theorem okAnyMap {c : Gs_l1Cur} {k : Int} (h : Cu c k) (hk : k + 1100 ≤ 1099511627776) : Ok (Ds_l1Cur_anyMap c) fun r => MpLen r.1 ∧ Cu r.2 (k + 1100) := by
  obtain ⟨m, c', e, h1, h2⟩ := cuAnyMap h hk
  exact ⟨_, e, h2, h1⟩
/-- A board, as drawn. -/
structure BdD (b : Gi_Board) : Prop where
  len : BdLen b
  k : 1 ≤ b.Rules.Kinds.length ∧ b.Rules.Kinds.length ≤ 30
theorem okBoard {c : Gs_l1Cur} {k : Int} (h : Cu c k) (hk : k + 1500 ≤ 1099511627776) : Ok (Ds_l1Cur_board c) fun r => BdD r.1 ∧ Cu r.2 (k + 1000) := by
  unfold Ds_l1Cur_board
  refine Ok.bind (okRules h (by omega)) fun r1 h1 => Ok.bind (okMapOf h1.2 (by omega) _) fun r2 h2 => Ok.ret ⟨⟨⟨h1.1.len, h2.1.len⟩, ?_⟩, h2.2.mono (by omega) (by omega)⟩
  have := h1.1.k
  simp only
  omega
theorem okAnyBoard {c : Gs_l1Cur} {k : Int} (h : Cu c k) (hk : k + 2500 ≤ 1099511627776) : Ok (Ds_l1Cur_anyBoard c) fun r => BdD r.1 ∧ Cu r.2 (k + 2500) := by
  unfold Ds_l1Cur_anyBoard
  refine Ok.bind (okBoard h (by omega)) fun r1 h1 => Ok.bind (okPick h1.2 (by omega) 24) fun r2 h2 => Ok.ite (fun _ => ?_) fun _ => Ok.ite (fun _ => ?_) fun _ => ?_
  · exact Ok.bind (okAnyRules h2.2 (by omega)) fun r4 h4 => Ok.ret ⟨⟨⟨h4.1, h1.1.len.m⟩, h4.2.1⟩, h4.2.2.mono (by omega) (by omega)⟩
  · exact Ok.bind (okAnyMap h2.2 (by omega)) fun r4 h4 => Ok.ret ⟨⟨⟨h1.1.len.r, h4.1⟩, h1.1.k⟩, h4.2.mono (by omega) (by omega)⟩
  · exact Ok.ret ⟨h1.1, h2.2.mono (by omega) (by omega)⟩
theorem okPlace {c : Gs_l1Cur} {k : Int} (h : Cu c k) (hk : k + 4 ≤ 1099511627776) (m : Gi_Map) : Ok (Ds_l1Cur_place c m) fun r => Cu r.2 (k + 4) := by
  obtain ⟨v, c', e, h1⟩ := cuPlace h hk m
  exact ⟨_, e, h1⟩
theorem Ok.isTrue {o : Option Bool} (h : Ok o fun r => r = true) : o = some true := by
  obtain ⟨a, e, rfl⟩ := h
  exact e
theorem Ok.is {α : Type} {o : Option α} {a : α} (h : Ok o fun r => r = a) : o = some a := by
  obtain ⟨a, e, rfl⟩ := h
  exact e
theorem clone_int {l : List Int} (h : l.length ≤ 3000000) : Dslices_Clone_int l = some l := by
  unfold Dslices_Clone_int
  rw [if_pos (by omega)]
theorem own_int {l : List Int} (h : l.length ≤ 3000000) : Ds_l1Own l = some l := by
  unfold Ds_l1Own
  rw [if_pos (by omega)]
theorem eQInts {l : List Int} (hl : l.length ≤ 2000000) : Dw_qInts l l = some true := by
  unfold Dw_qInts
  rw [if_pos rfl]
  refine true_loop (S := fun i => Sw_qInts.h1 l l (l.length : Int) (i : Int)) (n := l.length) (fun i hi => ?_) ?_
  · simp [Bw_qInts, hi, wsucc (show i < 9223372036854775807 by omega)]
  · simp [Bw_qInts]
def r6 (d : Int) : Int := Int.tmod (d + 3) 6
theorem okKindOn {c : Gs_l1Cur} {k : Int} (h : Cu c k) (hk : k + 4 ≤ 1099511627776) (b : Gi_Board) : Ok (Ds_l1Cur_kindOn c b) fun r => Cu r.2 (k + 4) := by
  unfold Ds_l1Cur_kindOn
  have e : ∃ v, Ds_l1Most ((b.Rules.Kinds.length : Nat) : Int) 1 = some v := by
    unfold Ds_l1Most
    split
    · exact ⟨_, rfl⟩
    · exact ⟨_, rfl⟩
  obtain ⟨v, e⟩ := e
  exact Ok.eq e (Ok.bind (okPick h (by omega) _) fun r2 h2 => Ok.bind (okPick h2.2 (by omega) _) fun r3 h3 => Ok.ret (h3.2.mono (by omega) (by omega)))
theorem Ok.and' {α : Type} {o : Option α} {P Q : α → Prop} (h : Ok o P) (g : Ok o Q) : Ok o fun a => P a ∧ Q a := by
  obtain ⟨a, e, p⟩ := h
  obtain ⟨a', e', q⟩ := g
  rw [e] at e'
  cases e'
  exact ⟨a, e, p, q⟩
def wkG (b : Gi_Board) (x : Gi_Works) : Bool := kIn x.Side 0 1 && kIn x.At 0 (b.Map.Terrain.length - 1) && kIn x.Points 0 200 && decide (x.Queue.length ≤ 8) && alli (fun _ y => kIn y 0 (b.Rules.Kinds.length - 1)) x.Queue
theorem contains_wk {b : Gi_Board} (h : BdOk b) {l : List Int} (hl : l.length ≤ 2000000) : Dslices_ContainsFunc_int_i_goodWorks_1 l b = some (!(alli (fun _ x => kIn x 0 (b.Rules.Kinds.length - 1)) l)) := by
  have hn := h.r.k
  rw [← ifNB]
  have := all_goL (L := fun s => (loop Bslices_IndexFunc_int_i_goodWorks_1 s).map fun r => decide (r ≥ 0)) (S := fun i => .h1 l b (l.length : Int) (i : Int)) (l := l) (q := fun _ x => kIn x 0 (b.Rules.Kinds.length - 1)) (f := true) (r := some false) (fun i x hx hi _ => by
    rw [loop_eq]
    simp only [Bslices_IndexFunc_int_i_goodWorks_1, ltc hi, nnc, if_true, Int.toNat_natCast, hx, Option.bind_some, Di_goodWorks_1, isIndex_i (x := x) (n := (b.Rules.Kinds.length : Int)) (by omega), wsucc (show i < 9223372036854775807 by omega)]
    cases kIn x 0 (b.Rules.Kinds.length - 1) <;> simp [goOn]) fun _ => by
    rw [loop_eq]
    simp only [Bslices_IndexFunc_int_i_goodWorks_1, nltc, if_false]
    rfl
  refine Eq.trans ?_ this
  unfold Dslices_ContainsFunc_int_i_goodWorks_1 Dslices_IndexFunc_int_i_goodWorks_1
  cases loop Bslices_IndexFunc_int_i_goodWorks_1 (.h1 l b (l.length : Int) 0) <;> rfl
theorem goodWorks_i {b : Gi_Board} (h : BdOk b) (x : Gi_Works) : Di_goodWorks b x = some (wkG b x) := by
  have hn := h.n2
  unfold Di_goodWorks wkG Di_isSide Di_sizeOf
  simp only [kin_i, Option.bind_some, isIndex_i (x := x.At) (n := (b.Map.Terrain.length : Int)) (by omega)]
  cases kIn x.Side 0 1 <;> simp only [if_true, Bool.false_and, Bool.true_and, Bool.false_eq_true, if_false]
  cases kIn x.At 0 (b.Map.Terrain.length - 1) <;> simp only [if_true, Bool.false_and, Bool.true_and, Bool.false_eq_true, if_false]
  cases kIn x.Points 0 200 <;> simp only [if_true, Bool.false_and, Bool.true_and, Bool.false_eq_true, if_false]
  by_cases c : x.Queue.length ≤ 8
  · rw [if_neg (by omega), contains_wk h (by omega), decide_eq_true c]
    simp
  · rw [if_pos (by omega), decide_eq_false c]
    simp
def hwG (b : Gi_Board) (x : Gi_Works) : Bool := bdG b && wkG b x
theorem hasWorks_i {b : Gi_Board} (hb : BdLen b) (x : Gi_Works) : Di_hasWorks b x = some (hwG b x) := by
  unfold Di_hasWorks hwG
  rw [isBoard_i hb, Option.bind_some]
  cases c : bdG b with
  | false => simp
  | true =>
    rw [if_pos rfl, goodWorks_i (bdG_ok c)]
    simp
theorem pdGood_s {b : Gi_Board} (hb : BdLen b) (x : Gi_Works) : Ds_pdGood b x = some (hwG b x) := by
  have hk := hb.r.k
  unfold Ds_pdGood hwG wkG
  rw [isBoard_s hb, Option.bind_some]
  cases c : bdG b with
  | false => simp
  | true =>
    have ho := bdG_ok c
    have hn := ho.n2
    simp only [if_true, kin_s, Option.bind_some, Bool.true_and]
    cases kIn x.Side 0 1 <;> simp only [if_true, Bool.false_and, Bool.true_and, Bool.false_eq_true, if_false]
    rw [mSize_s ho.d (by decide), ← ho.n, Option.bind_some, w64 (by omega)]
    cases kIn x.At 0 (b.Map.Terrain.length - 1) <;> simp only [if_true, Bool.false_and, Bool.true_and, Bool.false_eq_true, if_false]
    cases kIn x.Points 0 200 <;> simp only [if_true, Bool.false_and, Bool.true_and, Bool.false_eq_true, if_false]
    by_cases c8 : x.Queue.length ≤ 8
    · rw [if_pos (by omega), w64 (by omega), l1All_s (by omega), decide_eq_true c8]
      simp
    · rw [if_neg (by omega), decide_eq_false c8]
      simp
def prK (b : Gi_Board) (k : Int) : Int := match b.Rules.Kinds[k.toNat]? with
  | some y => y.Strength * y.Steps
  | none => 0
theorem prK_b {b : Gi_Board} (h : BdOk b) {k : Int} (hk : 0 ≤ k ∧ k < b.Rules.Kinds.length) : Di_kindPrice b k = some (prK b k) ∧ Ds_pdPrice b k = some (prK b k) ∧ 0 ≤ prK b k ∧ prK b k ≤ 36 := by
  have e : b.Rules.Kinds[k.toNat]? = some b.Rules.Kinds[k.toNat] := List.getElem?_eq_getElem (by omega)
  obtain ⟨h1, _, h3, _⟩ := h.r.ks _ (List.mem_of_getElem? e)
  unfold Di_kindPrice Ds_pdPrice prK
  rw [e]
  generalize b.Rules.Kinds[k.toNat] = y at h1 h3
  have h4 : y.Strength * y.Steps ≤ 9 * 4 := Int.mul_le_mul h1.2 h3.2 (by omega) (by omega)
  have h5 : 0 ≤ y.Strength * y.Steps := Int.mul_nonneg (by omega) (by omega)
  simp only [if_pos hk.1, Option.bind_some]
  generalize y.Strength * y.Steps = z at h4 h5 ⊢
  rw [w64 (by omega)]
  exact ⟨rfl, rfl, h5, by omega⟩
def prS (b : Gi_Board) : List Int → Int
  | [] => 0
  | k :: r => prK b k + prS b r
theorem prS_app (b : Gi_Board) : ∀ (l r : List Int), prS b (l ++ r) = prS b l + prS b r
  | [], r => by simp [prS]
  | k :: l, r => by simp only [List.cons_append, prS, prS_app b l r]; omega
theorem prS_b {b : Gi_Board} (h : BdOk b) : ∀ {l : List Int}, (∀ k ∈ l, 0 ≤ k ∧ k < b.Rules.Kinds.length) → 0 ≤ prS b l ∧ prS b l ≤ 36 * l.length
  | [], _ => by simp [prS]
  | k :: l, hl => by
    have h1 := prK_b h (hl k (List.mem_cons_self ..))
    have h2 := prS_b h (l := l) fun x hx => hl x (List.mem_cons_of_mem _ hx)
    simp only [prS, List.length_cons]
    omega
theorem prices_go {b : Gi_Board} (h : BdOk b) {l : List Int} (hl : l.length ≤ 100) (hm : ∀ k ∈ l, 0 ≤ k ∧ k < b.Rules.Kinds.length) : ∀ (n i : Nat) (s : Int), i + n = l.length → 0 ≤ s ∧ s ≤ 36 * i →
    loop Bi_pricesOf (.h1 s l (l.length : Int) (i : Int) b) = some (s + prS b (l.drop i)) ∧ loop Bs_pdSum (.h1 s l (l.length : Int) (i : Int) b) = some (s + prS b (l.drop i))
  | 0, i, s, hi, hs => by
    have : i = l.length := by omega
    subst this
    rw [loop_eq, loop_eq]
    simp [Bi_pricesOf, Bs_pdSum, prS, goOn]
  | n + 1, i, s, hi, hs => by
    have hlt : i < l.length := by omega
    have hx : l[i]? = some l[i] := List.getElem?_eq_getElem hlt
    have hp := prK_b h (hm _ (List.mem_of_getElem? hx))
    have ih := prices_go h hl hm n (i + 1) (s + prK b l[i]) (by omega) (by omega)
    rw [List.drop_eq_getElem_cons hlt, prS]
    rw [loop_eq, loop_eq]
    simp only [Bi_pricesOf, Bs_pdSum, ltc hlt, nnc, if_true, Int.toNat_natCast, hx, Option.bind_some, hp.1, hp.2.1, w64 (show -9223372036854775808 ≤ s + prK b l[i] ∧ s + prK b l[i] ≤ 9223372036854775807 by omega), wsucc (show i < 9223372036854775807 by omega), goOn]
    rw [ih.1, ih.2]
    simp only [Int.add_assoc, and_self]
theorem prices {b : Gi_Board} (h : BdOk b) {l : List Int} (hl : l.length ≤ 100) (hm : ∀ k ∈ l, 0 ≤ k ∧ k < b.Rules.Kinds.length) : Di_pricesOf b l = some (prS b l) ∧ Ds_pdSum b l = some (prS b l) := by
  have := prices_go h hl hm l.length 0 0 (by omega) (by omega)
  simpa [Di_pricesOf, Ds_pdSum] using this
structure WkOk (b : Gi_Board) (x : Gi_Works) : Prop where
  bd : BdOk b
  p : 0 ≤ x.Points ∧ x.Points ≤ 200
  l : x.Queue.length ≤ 8
  q : ∀ k ∈ x.Queue, 0 ≤ k ∧ k < b.Rules.Kinds.length
theorem hwG_ok {b : Gi_Board} {x : Gi_Works} (h : hwG b x = true) : WkOk b x := by
  simp only [hwG, wkG, Bool.and_eq_true, decide_eq_true_eq] at h
  obtain ⟨h0, ⟨⟨⟨_, _⟩, h3⟩, h4⟩, h5⟩ := h
  refine ⟨bdG_ok h0, kIn_iff.1 h3, h4, fun k hk => ?_⟩
  obtain ⟨i, hi⟩ := List.getElem?_of_mem hk
  have := kIn_iff.1 (alli_iff.1 h5 i k hi)
  omega
def akR (b : Gi_Board) (x : Gi_Works) (k : Int) : Gi_Works × Bool := if (hwG b x && kIn k 0 (b.Rules.Kinds.length - 1) && !decide (x.Queue.length = 8)) = true then (⟨x.Side, x.At, x.Points, x.Queue ++ [k]⟩, true) else (⟨0, 0, 0, []⟩, false)
theorem appendKind_b {b : Gi_Board} (hb : BdLen b) (x : Gi_Works) (k : Int) : Di_AppendKind b x k = some (akR b x k) ∧ Ds_AppendKind b x k = some (akR b x k) := by
  have hk := hb.r.k
  unfold Di_AppendKind Ds_AppendKind akR
  rw [hasWorks_i hb, pdGood_s hb, Option.bind_some, Option.bind_some]
  by_cases c : hwG b x = true
  · have o := hwG_ok c
    have hn := o.bd.n2
    have ho := o.l
    have hg : bdG b = true := by simp only [hwG, Bool.and_eq_true] at c; exact c.1
    rw [if_pos c, if_pos c, isIndex_i (by omega), bAt_s hb, c, hg, Option.bind_some, Option.bind_some]
    have e0 : kIn 0 0 (b.Map.Terrain.length - 1) = true := kIn_iff.2 (by omega)
    simp only [e0, Bool.and_true, Bool.true_and]
    by_cases c2 : kIn k 0 (b.Rules.Kinds.length - 1) = true
    · rw [if_pos c2, if_pos c2, c2]
      by_cases c3 : x.Queue.length = 8
      · rw [if_pos (show ((x.Queue.length : Nat) : Int) = 8 by omega), if_pos (show ((x.Queue.length : Nat) : Int) = 8 by omega)]
        simp [c3]
      · rw [if_neg (show ¬ ((x.Queue.length : Nat) : Int) = 8 by omega), if_neg (show ¬ ((x.Queue.length : Nat) : Int) = 8 by omega)]
        unfold Di_cloneWorks Ds_pdOwn
        rw [clone_int (by omega), own_int (by omega)]
        simp only [Option.bind_some]
        rw [if_pos (by simp; omega)]
        simp [c3]
    · rw [if_neg c2, if_neg c2]
      simp [c2]
  · rw [if_neg c, if_neg c]
    simp [c]
def woL (l : List Int) (k : Nat) : List Int := l.take k ++ l.drop (k + 1)
def rkR (b : Gi_Board) (x : Gi_Works) (k : Int) : Gi_Works × Bool := if (hwG b x && kIn k 0 (x.Queue.length - 1)) = true then (⟨x.Side, x.At, x.Points, woL x.Queue k.toNat⟩, true) else (⟨0, 0, 0, []⟩, false)
theorem removeKind_i {b : Gi_Board} (hb : BdLen b) (x : Gi_Works) (k : Int) (hl : x.Queue.length ≤ 1000) : Di_RemoveKind b x k = some (rkR b x k) := by
  unfold Di_RemoveKind rkR
  rw [hasWorks_i hb, Option.bind_some]
  by_cases c : hwG b x = true
  · have o := hwG_ok c
    rw [if_pos c, isIndex_i (by omega), c, Option.bind_some, Bool.true_and]
    by_cases c2 : kIn k 0 (x.Queue.length - 1) = true
    · have := kIn_iff.1 c2
      rw [if_pos c2, if_pos c2]
      unfold Di_cloneWorks Dslices_Delete_int
      rw [clone_int (by omega)]
      simp only [Option.bind_some]
      rw [w64 (by omega), if_pos (by omega)]
      simp only [Option.bind_some, woL, show (k + 1).toNat = k.toNat + 1 by omega]
    · rw [if_neg c2, if_neg c2]
  · rw [if_neg c]
    simp [c]
theorem without_go {l : List Int} (hl : l.length ≤ 1000) (k : Nat) (s a p : Int) : ∀ (n i : Nat), i + n = l.length →
    (∀ acc : List Int, acc.length ≤ i → loop Bs_pdWithout (.h2 (k : Int) l (l.length : Int) (i : Int) 0 0 0 s a p acc) = some ⟨s, a, p, acc ++ (if i ≤ k then (l.drop i).take (k - i) ++ l.drop (k + 1) else l.drop i)⟩) ∧
    loop Bs_pdWithout (.h1 (k : Int) l (l.length : Int) (i : Int) 0 0 0 s a p) = some ⟨s, a, p, if i ≤ k then (l.drop i).take (k - i) ++ l.drop (k + 1) else l.drop i⟩
  | 0, i, hi => by
    have : i = l.length := by omega
    subst this
    have e : (if l.length ≤ k then (l.drop l.length).take (k - l.length) ++ l.drop (k + 1) else l.drop l.length) = [] := by
      split
      · rw [List.drop_length, List.drop_eq_nil_of_le (by omega)]; simp
      · simp
    rw [e]
    refine ⟨fun acc _ => ?_, ?_⟩
    · rw [loop_eq]
      simp [Bs_pdWithout, goOn]
    · rw [loop_eq]
      simp [Bs_pdWithout, goOn]
  | n + 1, i, hi => by
    have hlt : i < l.length := by omega
    have hx : l[i]? = some l[i] := List.getElem?_eq_getElem hlt
    obtain ⟨ih1, ih2⟩ := without_go hl k s a p n (i + 1) (by omega)
    have e : (if i ≤ k then (l.drop i).take (k - i) ++ l.drop (k + 1) else l.drop i) = (if i = k then [] else [l[i]]) ++ (if i + 1 ≤ k then (l.drop (i + 1)).take (k - (i + 1)) ++ l.drop (k + 1) else l.drop (i + 1)) := by
      by_cases c1 : i = k
      · subst c1
        simp
      · by_cases c2 : i < k
        · rw [if_pos (by omega), if_neg c1, if_pos (by omega), List.drop_eq_getElem_cons hlt, show k - i = (k - (i + 1)) + 1 by omega, List.take_succ_cons]
          simp
        · rw [if_neg (by omega), if_neg c1, if_neg (by omega), List.drop_eq_getElem_cons hlt]
          simp
    refine ⟨fun acc ha => ?_, ?_⟩
    · rw [loop_eq]
      simp only [Bs_pdWithout, ltc hlt, nnc, if_true, Int.toNat_natCast, hx, Option.bind_some, wsucc (show i < 9223372036854775807 by omega)]
      rw [e]
      by_cases c1 : i = k
      · rw [if_pos (by omega), if_pos c1]
        simp only [goOn]
        rw [ih1 acc (by omega)]
        simp
      · rw [if_neg (by omega), if_neg c1, if_pos (by simp; omega)]
        simp only [goOn]
        rw [ih1 (acc ++ [l[i]]) (by simp; omega)]
        simp
    · rw [loop_eq]
      simp only [Bs_pdWithout, ltc hlt, nnc, if_true, Int.toNat_natCast, hx, Option.bind_some, wsucc (show i < 9223372036854775807 by omega)]
      rw [e]
      by_cases c1 : i = k
      · rw [if_pos (by omega), if_pos c1]
        simp only [goOn]
        rw [ih2]
        simp
      · rw [if_neg (by omega), if_neg c1, if_pos (by simp)]
        simp only [goOn]
        rw [ih1 [l[i]] (by simp)]
theorem removeKind_s {b : Gi_Board} (hb : BdLen b) (x : Gi_Works) (k : Int) (hl : x.Queue.length ≤ 1000) : Ds_RemoveKind b x k = some (rkR b x k) := by
  unfold Ds_RemoveKind rkR
  rw [pdGood_s hb, Option.bind_some]
  by_cases c : hwG b x = true
  · rw [if_pos c, w64 (by omega), kin_s, c, Option.bind_some, Bool.true_and]
    by_cases c2 : kIn k 0 (x.Queue.length - 1) = true
    · have := kIn_iff.1 c2
      obtain ⟨k, rfl⟩ := Int.eq_ofNat_of_zero_le this.1
      rw [if_pos c2, if_pos c2]
      unfold Ds_pdWithout
      have e : loop Bs_pdWithout (.h1 (k : Int) x.Queue (x.Queue.length : Int) 0 0 0 0 x.Side x.At x.Points) = _ := (without_go hl k x.Side x.At x.Points x.Queue.length 0 (by omega)).2
      rw [e]
      simp [woL]
    · rw [if_neg c2, if_neg c2]
  · rw [if_neg c]
    simp [c]

def duQ (m inc : Int) : Int := (m + inc - 1).tdiv inc
theorem duQ_b {m inc : Int} (hm : 0 < m ∧ m ≤ 1000) (hi : 0 < inc ∧ inc ≤ 50) : 0 < duQ m inc ∧ duQ m inc ≤ 2000 ∧ m ≤ duQ m inc * inc ∧ duQ m inc * inc - inc < m ∧ duQ m inc * inc ≤ 2000 := by
  unfold duQ
  rw [Int.tdiv_eq_ediv_of_nonneg (by omega)]
  have h1 := Int.ediv_mul_le (m + inc - 1) (b := inc) (by omega)
  have h2 := Int.lt_ediv_add_one_mul_self (m + inc - 1) (b := inc) (by omega)
  rw [Int.add_mul] at h2
  have h3 : 0 < (m + inc - 1) / inc := by
    rcases Int.lt_or_le 0 ((m + inc - 1) / inc) with h | h
    · exact h
    · have := Int.mul_le_mul_of_nonneg_right h (show 0 ≤ inc by omega)
      omega
  have h4 : (m + inc - 1) / inc ≤ (m + inc - 1) / inc * inc := by
    have := Int.mul_le_mul_of_nonneg_left (show 1 ≤ inc by omega) (Int.le_of_lt h3)
    omega
  generalize (m + inc - 1) / inc * inc = q at h1 h2 h4 ⊢
  generalize (m + inc - 1) / inc = p at h3 h4 ⊢
  omega
def tuV (m inc : Int) : Int × Bool := if m ≤ 0 then (0, true) else if inc = 0 then (0, false) else (duQ m inc, true)
def tuR (b : Gi_Board) (x : Gi_Works) (k inc : Int) : Int × Bool := if (hwG b x && kIn k 0 (x.Queue.length - 1) && kIn inc 0 50) = true then tuV (prS b (x.Queue.take (k.toNat + 1)) - x.Points) inc else (0, false)
theorem turnsU_b {b : Gi_Board} (hb : BdLen b) (x : Gi_Works) (k inc : Int) (hl : x.Queue.length ≤ 1000) : Di_TurnsUntil b x k inc = some (tuR b x k inc) ∧ Ds_TurnsUntil b x k inc = some (tuR b x k inc) := by
  unfold Di_TurnsUntil Ds_TurnsUntil tuR
  rw [hasWorks_i hb, pdGood_s hb, Option.bind_some, Option.bind_some]
  by_cases c : hwG b x = true
  · have o := hwG_ok c
    have ho := o.l
    have hp := o.p
    rw [if_pos c, if_pos c, isIndex_i (by omega), w64 (show -9223372036854775808 ≤ ((x.Queue.length : Nat) : Int) - 1 ∧ ((x.Queue.length : Nat) : Int) - 1 ≤ 9223372036854775807 by omega), kin_s, c, Option.bind_some, Option.bind_some, Bool.true_and]
    by_cases c2 : kIn k 0 (x.Queue.length - 1) = true
    · have hk := kIn_iff.1 c2
      rw [if_pos c2, if_pos c2, c2, Bool.true_and]
      unfold Di_isIncome
      rw [kin_i, kin_s, Option.bind_some, Option.bind_some, Option.bind_some]
      by_cases c3 : kIn inc 0 50 = true
      · have hi := kIn_iff.1 c3
        rw [if_pos c3, if_pos c3, if_pos c3]
        have hm : ∀ y ∈ x.Queue.take (k.toNat + 1), 0 ≤ y ∧ y < b.Rules.Kinds.length := fun y hy => o.q y (List.mem_of_mem_take hy)
        have hlen : (x.Queue.take (k.toNat + 1)).length ≤ 8 := by simp; omega
        have hp1 := prices o.bd (l := x.Queue.take (k.toNat + 1)) (by omega) hm
        have hp2 := prS_b o.bd hm
        rw [w64 (show -9223372036854775808 ≤ k + 1 ∧ k + 1 ≤ 9223372036854775807 by omega), show (k + 1).toNat - 0 = k.toNat + 1 by omega, List.drop_zero, hp1.1, hp1.2, Option.bind_some, Option.bind_some]
        generalize prS b (x.Queue.take (k.toNat + 1)) = s at hp2 ⊢
        rw [w64 (show -9223372036854775808 ≤ s - x.Points ∧ s - x.Points ≤ 9223372036854775807 by omega)]
        have hz1 : (0 : Int) ≤ k + 1 := by omega
        have hz2 : k + 1 ≤ ((x.Queue.length : Nat) : Int) := by omega
        rw [if_pos hz1, if_pos hz1, if_pos hz2, if_pos hz2]
        unfold tuV duQ
        by_cases c4 : s - x.Points ≤ 0
        · rw [if_neg (show ¬ 0 < s - x.Points by omega), if_pos rfl, if_pos c4, if_pos c4]
          exact ⟨rfl, rfl⟩
        · rw [if_pos (show 0 < s - x.Points by omega), if_neg (show ¬ s - x.Points = 0 by omega), if_neg c4, if_neg c4]
          by_cases c5 : inc = 0
          · simp only [if_pos c5]
            exact ⟨trivial, trivial⟩
          · have hd := (duQ_b (m := s - x.Points) (inc := inc) (by omega) (by omega)).1
            have hd2 := (duQ_b (m := s - x.Points) (inc := inc) (by omega) (by omega)).2.1
            unfold duQ at hd hd2
            rw [if_neg c5, if_neg c5, if_pos c5, w64 (show -9223372036854775808 ≤ s - x.Points + inc ∧ s - x.Points + inc ≤ 9223372036854775807 by omega), w64 (show -9223372036854775808 ≤ s - x.Points + inc - 1 ∧ s - x.Points + inc - 1 ≤ 9223372036854775807 by omega),
              w64 (show -9223372036854775808 ≤ (s - x.Points + inc - 1).tdiv inc ∧ (s - x.Points + inc - 1).tdiv inc ≤ 9223372036854775807 by omega)]
            exact ⟨rfl, rfl⟩
      · rw [if_neg c3, if_neg c3, if_neg c3]
        exact ⟨rfl, rfl⟩
    · rw [if_neg c2, if_neg c2]
      simp [c2]
  · rw [if_neg c, if_neg c]
    simp [c]
theorem kindPrice_i {b : Gi_Board} (hb : BdLen b) (k : Int) : Di_KindPrice b k = some (if (bdG b && kIn k 0 (b.Rules.Kinds.length - 1)) = true then (prK b k, true) else (0, false)) := by
  unfold Di_KindPrice
  rw [isKindOf_i hb, Option.bind_some]
  by_cases c : (bdG b && kIn k 0 (b.Rules.Kinds.length - 1)) = true
  · rw [if_pos c, if_pos c]
    simp only [Bool.and_eq_true] at c
    have := kIn_iff.1 c.2
    rw [(prK_b (bdG_ok c.1) (by omega)).1]
    rfl
  · rw [if_neg c, if_neg c]
theorem queuePrice_i {b : Gi_Board} (hb : BdLen b) {x : Gi_Works} (c : hwG b x = true) : Di_QueuePrice b x = some (prS b x.Queue, true) := by
  have o := hwG_ok c
  have := o.l
  unfold Di_QueuePrice
  rw [hasWorks_i hb, Option.bind_some, if_pos c, (prices o.bd (by omega) o.q).1]
  rfl
theorem eQWorks {x : Gi_Works} (hl : x.Queue.length ≤ 2000000) : Dw_qWorks x x = some true := by
  unfold Dw_qWorks
  rw [if_pos rfl, if_pos rfl, if_pos rfl, eQInts hl]
  rfl
theorem okWorks {c : Gs_l1Cur} {k : Int} (h : Cu c k) (hk : k + 100 ≤ 1099511627776) {b : Gi_Board} (hb : BdLen b) : Ok (Ds_l1Cur_works c b) fun r => r.1.Queue.length ≤ 20 ∧ Cu r.2 (k + 100) := by
  unfold Ds_l1Cur_works
  refine Ok.bind (okPick h (by omega) 2) fun r1 h1 => Ok.bind (okAmong h1.2 (by omega) _ (by decide)) fun r2 h2 => Ok.eq (isBoard_s hb) (Ok.ite (fun _ => ?_) fun _ => ?_)
  · refine Ok.bind (okPlace h2.2 (by omega) _) fun r5 h5 => Ok.bind (okPick h5 (by omega) 4) fun r6 h6 => ?_
    have h6b := h6.1.2.1 (by decide)
    have h60 := h6.1.1
    refine Ok.loop (fun s => match s with
      | .h1 k0 c1 _ _ _ _ _ _ _ => 0 ≤ k0 ∧ k0 ≤ 3 ∧ Cu c1 (k + 20 + 2 * (3 - k0))
      | .h2 k0 c1 _ _ _ _ _ _ _ l => 0 ≤ k0 ∧ k0 ≤ 3 ∧ l.length ≤ 3 ∧ (l.length : Int) ≤ 3 - k0 ∧ Cu c1 (k + 20 + 2 * (3 - k0))
      | .h3 c1 _ _ _ _ _ _ => Cu c1 (k + 30)
      | .h4 c1 _ _ _ _ _ _ l => l.length ≤ 9 ∧ Cu c1 (k + 40 + 2 * l.length))
      (fun s => match s with
      | .h1 k0 _ _ _ _ _ _ _ _ => 100 + k0.toNat
      | .h2 k0 _ _ _ _ _ _ _ _ _ => 100 + k0.toNat
      | .h3 _ _ _ _ _ _ _ => 50
      | .h4 _ _ _ _ _ _ _ l => 20 - l.length) (fun s hs => ?_) ⟨h60, by omega, h6.2.mono (by omega) (by omega)⟩
    cases s with
    | h1 k0 c1 b2 b3 b4 b5 b6 b7 b8 =>
      obtain ⟨q1, q2, q3⟩ := hs
      simp only [Bs_l1Cur_works]
      refine Ok.ite (fun hp => ?_) fun _ => ?_
      · refine Ok.bind (okPick q3 (by omega) _) fun r2 h2 => Ok.chk (by simp) (Ok.ret ?_)
        rw [w64 (by omega)]
        exact ⟨⟨by omega, by omega, by simp, by simp; omega, h2.2.mono (by omega) (by omega)⟩, by dsimp only; omega⟩
      · refine Ok.bind (okPick q3 (by omega) _) fun r2 h2 => Ok.ite (fun _ => Ok.bind (okAmong h2.2 (by omega) _ (by decide)) fun r4 h4 => Ok.ret ⟨by simp, h4.2.mono (by omega) (by omega)⟩) fun _ =>
          Ok.ite (fun _ => Ok.bind (okAmong h2.2 (by omega) _ (by decide)) fun r4 h4 => Ok.ret ⟨by simp, h4.2.mono (by omega) (by omega)⟩) fun _ =>
          Ok.ite (fun _ => Ok.bind (okAmong h2.2 (by omega) _ (by decide)) fun r4 h4 => Ok.chk (by simp) (Ok.ret ⟨by simp, h4.2.mono (by omega) (by omega)⟩)) fun _ =>
          Ok.ite (fun _ => Ok.ret ⟨h2.2.mono (by omega) (by omega), by dsimp only; omega⟩) fun _ => Ok.ret ⟨by simp, h2.2.mono (by omega) (by omega)⟩
    | h2 k0 c1 b2 b3 b4 b5 b6 b7 b8 l =>
      obtain ⟨q1, q2, q4, q5, q3⟩ := hs
      simp only [Bs_l1Cur_works]
      refine Ok.ite (fun hp => ?_) fun _ => ?_
      · refine Ok.bind (okPick q3 (by omega) _) fun r2 h2 => Ok.chk (by simp; omega) (Ok.ret ?_)
        rw [w64 (by omega)]
        exact ⟨⟨by omega, by omega, by simp; omega, by simp; omega, h2.2.mono (by omega) (by omega)⟩, by dsimp only; omega⟩
      · refine Ok.bind (okPick q3 (by omega) _) fun r2 h2 => Ok.ite (fun _ => Ok.bind (okAmong h2.2 (by omega) _ (by decide)) fun r4 h4 => Ok.ret ⟨by simp only; omega, h4.2.mono (by omega) (by omega)⟩) fun _ =>
          Ok.ite (fun _ => Ok.bind (okAmong h2.2 (by omega) _ (by decide)) fun r4 h4 => Ok.ret ⟨by simp only; omega, h4.2.mono (by omega) (by omega)⟩) fun _ =>
          Ok.ite (fun _ => Ok.bind (okAmong h2.2 (by omega) _ (by decide)) fun r4 h4 => Ok.chk (by simp; omega) (Ok.ret ⟨by simp; omega, h4.2.mono (by omega) (by omega)⟩)) fun _ =>
          Ok.ite (fun _ => Ok.ret ⟨⟨by omega, h2.2.mono (by omega) (by omega)⟩, by dsimp only; omega⟩) fun _ => Ok.ret ⟨by simp only; omega, h2.2.mono (by omega) (by omega)⟩
    | h3 c1 b1 b2 b3 b4 b5 b6 =>
      have hs : Cu c1 (k + 30) := hs
      simp only [Bs_l1Cur_works]
      refine Ok.bind (okPick hs (by omega) _) fun r2 h2 => Ok.ite (fun _ => Ok.chk (by simp) (Ok.ret ⟨⟨by simp, h2.2.mono (by simp only [List.length_singleton]; omega) (by simp only [List.length_singleton]; omega)⟩, by simp⟩)) fun _ => Ok.ret ⟨by simp, h2.2.mono (by omega) (by omega)⟩
    | h4 c1 b1 b2 b3 b4 b5 b6 l =>
      obtain ⟨q1, q2⟩ := hs
      simp only [Bs_l1Cur_works]
      refine Ok.bind (okPick q2 (by omega) _) fun r2 h2 => ?_
      have hr := h2.1.2.1 (by decide)
      have hr0 := h2.1.1
      rw [w64 (by omega)]
      exact Ok.ite (fun hlt => Ok.chk (by simp; omega) (Ok.ret ⟨⟨by simp; omega, h2.2.mono (by simp; omega) (by simp; omega)⟩, by simp; omega⟩)) fun _ => Ok.ret ⟨by simp only; omega, h2.2.mono (by omega) (by omega)⟩
  · exact Ok.ret ⟨by simp, h2.2.mono (by omega) (by omega)⟩
theorem okDrawWk {code : List Int} (hc : code.length < 9223372036854775808) (h1 : ∀ x ∈ code, 0 ≤ x ∧ x < 256) :
    Ok (Ds_DrawAppendKind code) (fun r => BdD r.1 ∧ r.2.1.Queue.length ≤ 20) ∧ Ok (Ds_DrawTurnsUntil code) (fun r => BdD r.1 ∧ r.2.1.Queue.length ≤ 20) ∧ Ok (Ds_DrawRemoveKind code) (fun r => BdD r.1 ∧ r.2.1.Queue.length ≤ 20) := by
  unfold Ds_DrawAppendKind Ds_DrawTurnsUntil Ds_DrawRemoveKind Ds_l1Cur_income
  refine ⟨?_, ?_, ?_⟩
  · exact Ok.bind (okAnyBoard (cu1 h1 hc) (by omega)) fun r1 q1 => Ok.bind (okWorks q1.2 (by omega) q1.1.len) fun r2 q2 => Ok.bind (okKindOn q2.2 (by omega) _) fun r3 q3 => Ok.ret ⟨q1.1, q2.1⟩
  · exact Ok.bind (okAnyBoard (cu1 h1 hc) (by omega)) fun r1 q1 => Ok.bind (okWorks q1.2 (by omega) q1.1.len) fun r2 q2 => Ok.bind (okPick q2.2 (by omega) _) fun r3 q3 => Ok.bind (okPick q3.2 (by omega) _) fun r4 q4 =>
      Ok.bind (P := fun _ => True) (Ok.bind (okAmong q4.2 (by omega) _ (by decide)) fun r5 q5 => Ok.ret trivial) fun r6 _ => Ok.ret ⟨q1.1, q2.1⟩
  · exact Ok.bind (okAnyBoard (cu1 h1 hc) (by omega)) fun r1 q1 => Ok.bind (okWorks q1.2 (by omega) q1.1.len) fun r2 q2 => Ok.bind (okPick q2.2 (by omega) _) fun r3 q3 => Ok.bind (okPick q3.2 (by omega) _) fun r4 q4 => Ok.ret ⟨q1.1, q2.1⟩

theorem ak_good {b : Gi_Board} {x : Gi_Works} {k : Int} (h : (hwG b x && kIn k 0 (b.Rules.Kinds.length - 1) && !decide (x.Queue.length = 8)) = true) : hwG b ⟨x.Side, x.At, x.Points, x.Queue ++ [k]⟩ = true := by
  simp only [hwG, wkG, Bool.and_eq_true, decide_eq_true_eq, Bool.not_eq_true', decide_eq_false_iff_not] at h ⊢
  obtain ⟨⟨⟨h0, ⟨⟨⟨h1, h2⟩, h3⟩, h4⟩, h5⟩, h6⟩, h7⟩ := h
  refine ⟨h0, ⟨⟨⟨h1, h2⟩, h3⟩, by simp; omega⟩, alli_iff.2 fun i y hy => ?_⟩
  have hm := List.mem_of_getElem? hy
  rcases List.mem_append.1 hm with hm | hm
  · obtain ⟨j, hj⟩ := List.getElem?_of_mem hm
    exact alli_iff.1 h5 j y hj
  · rw [List.mem_singleton.1 hm]
    exact h6
theorem queues_2 {b : Gi_Board} (hb : BdLen b) {x : Gi_Works} {k : Int} (hl : x.Queue.length ≤ 20) : loop Bw_FnQueues (.h2 k (akR b x k).2 b x.Side x.At x.Points (akR b x k).1.Side (akR b x k).1.At (akR b x k).1.Points x.Queue (akR b x k).1.Queue) = some true := by
  by_cases c : (hwG b x && kIn k 0 (b.Rules.Kinds.length - 1) && !decide (x.Queue.length = 8)) = true
  · have e : akR b x k = (⟨x.Side, x.At, x.Points, x.Queue ++ [k]⟩, true) := by unfold akR; rw [if_pos c]
    have hg := ak_good c
    simp only [Bool.and_eq_true] at c
    have o := hwG_ok c.1.1
    have o2 := hwG_ok hg
    have hk := kIn_iff.1 c.1.2
    have hbd : bdG b = true := by have := c.1.1; simp only [hwG, Bool.and_eq_true] at this; exact this.1
    have er : rkR b ⟨x.Side, x.At, x.Points, x.Queue ++ [k]⟩ (x.Queue.length : Int) = (x, true) := by
      unfold rkR
      have : kIn (x.Queue.length : Int) 0 (((x.Queue ++ [k]).length : Nat) - 1 : Int) = true := kIn_iff.2 (by simp only [List.length_append, List.length_singleton]; omega)
      rw [if_pos (by rw [hg]; exact this)]
      simp only [woL, Int.toNat_natCast]
      rw [List.take_left', List.drop_eq_nil_of_le (by simp), List.append_nil]
      rfl
    have hp1 := prS_b o.bd o.q
    have hp2 := prK_b o.bd (k := k) (by omega)
    have ho := o.l
    have hr := removeKind_i hb (⟨x.Side, x.At, x.Points, x.Queue ++ [k]⟩ : Gi_Works) (x.Queue.length : Int) (by simp only [List.length_append, List.length_singleton]; omega)
    rw [er] at hr
    rw [e, loop_eq]
    simp only [Bw_FnQueues, hr, Option.bind_some, if_true, queuePrice_i hb c.1.1, queuePrice_i hb hg, kindPrice_i hb, hbd, c.1.2, Bool.and_self, eQWorks (show x.Queue.length ≤ 2000000 by omega), prS_app, prS, goOn]
    rw [w64 (by omega)]
    simp
  · have e : akR b x k = (⟨0, 0, 0, []⟩, false) := by unfold akR; rw [if_neg c]
    rw [e, loop_eq]
    simp only [Bw_FnQueues, goOn]
theorem queues_1 {b c : Gi_Board} (hb : BdLen b) (hc : BdLen c) {x z : Gi_Works} {k i inc : Int} (hl : x.Queue.length ≤ 20) (hg : (hwG c z && kIn i 0 (z.Queue.length - 1) && kIn inc 0 50) = true) (ht : (tuV (prS c (z.Queue.take (i.toNat + 1)) - z.Points) inc).2 = true) (l19 l20 l21 : List Int) (e1 : l19 = x.Queue) (e2 : l20 = (akR b x k).1.Queue) (s a p : Int) :
    ∀ (n j : Nat) (acc : Int), j + n = (z.Queue.take (i.toNat + 1)).length → acc = prS c ((z.Queue.take (i.toNat + 1)).take j) →
    loop Bw_FnQueues (.h1 k (akR b x k).2 inc (tuV (prS c (z.Queue.take (i.toNat + 1)) - z.Points) inc).1 acc (z.Queue.take (i.toNat + 1)) ((z.Queue.take (i.toNat + 1)).length : Int) (j : Int) b x.Side x.At x.Points (akR b x k).1.Side (akR b x k).1.At (akR b x k).1.Points c s a z.Points l19 l20 l21) = some true
  | 0, j, acc, hj, ha => by
    subst e1 e2
    simp only [Bool.and_eq_true] at hg
    have o := hwG_ok hg.1.1
    have hi := kIn_iff.1 hg.2
    have ho := o.l
    have hq := o.p
    have hm : ∀ y ∈ z.Queue.take (i.toNat + 1), 0 ≤ y ∧ y < c.Rules.Kinds.length := fun y hy => o.q y (List.mem_of_mem_take hy)
    have hp := prS_b o.bd hm
    have hlen : (z.Queue.take (i.toNat + 1)).length ≤ 8 := by simp; omega
    have hjj : j = (z.Queue.take (i.toNat + 1)).length := by omega
    subst hjj
    rw [List.take_length] at ha
    subst ha
    have h2 := queues_2 hb (x := x) (k := k) hl
    generalize prS c (z.Queue.take (i.toNat + 1)) = m at hp ht ⊢
    rw [loop_eq]
    simp only [Bw_FnQueues, nltc, if_false]
    unfold tuV at ht ⊢
    by_cases c1 : m - z.Points ≤ 0
    · simp only [if_pos c1]
      rw [Int.zero_mul, w64 (n := (0 : Int)) (by omega), w64 (show -9223372036854775808 ≤ z.Points + 0 ∧ z.Points + 0 ≤ 9223372036854775807 by omega), if_neg (by omega), if_neg (by omega)]
      exact h2
    · by_cases c2 : inc = 0
      · rw [if_neg c1, if_pos c2] at ht
        cases ht
      · simp only [if_neg c1, if_neg c2]
        obtain ⟨d1, d2, d3, d4, d5⟩ := duQ_b (m := m - z.Points) (inc := inc) (by omega) (by omega)
        have e3 : (duQ (m - z.Points) inc - 1) * inc = duQ (m - z.Points) inc * inc - inc := by rw [Int.sub_mul, Int.one_mul]
        rw [w64 (show -9223372036854775808 ≤ duQ (m - z.Points) inc - 1 ∧ duQ (m - z.Points) inc - 1 ≤ 9223372036854775807 by omega), e3]
        generalize duQ (m - z.Points) inc * inc = q at d3 d4 d5 ⊢
        rw [w64 (show -9223372036854775808 ≤ q ∧ q ≤ 9223372036854775807 by omega), w64 (show -9223372036854775808 ≤ q - inc ∧ q - inc ≤ 9223372036854775807 by omega), w64 (show -9223372036854775808 ≤ z.Points + q ∧ z.Points + q ≤ 9223372036854775807 by omega), w64 (show -9223372036854775808 ≤ z.Points + (q - inc) ∧ z.Points + (q - inc) ≤ 9223372036854775807 by omega),
          if_neg (by omega), if_pos (by omega), if_neg (by omega)]
        exact h2
  | n + 1, j, acc, hj, ha => by
    have hlt : j < (z.Queue.take (i.toNat + 1)).length := by omega
    have hx : (z.Queue.take (i.toNat + 1))[j]? = some (z.Queue.take (i.toNat + 1))[j] := List.getElem?_eq_getElem hlt
    have hg2 := hg
    simp only [Bool.and_eq_true] at hg2
    have o := hwG_ok hg2.1.1
    have ho := o.l
    have hm : ∀ y ∈ z.Queue.take (i.toNat + 1), 0 ≤ y ∧ y < c.Rules.Kinds.length := fun y hy => o.q y (List.mem_of_mem_take hy)
    have hlen : (z.Queue.take (i.toNat + 1)).length ≤ 8 := by simp; omega
    have hp := prK_b o.bd (hm _ (List.mem_of_getElem? hx))
    have hy := hm _ (List.mem_of_getElem? hx)
    have hbd : bdG c = true := by have := hg2.1.1; simp only [hwG, Bool.and_eq_true] at this; exact this.1
    have hky : kIn (z.Queue.take (i.toNat + 1))[j] 0 (c.Rules.Kinds.length - 1) = true := kIn_iff.2 (by omega)
    have hpb := prS_b o.bd (l := (z.Queue.take (i.toNat + 1)).take j) fun y hy => hm y (List.mem_of_mem_take hy)
    have hl2 : ((z.Queue.take (i.toNat + 1)).take j).length ≤ 8 := by simp; omega
    have et : prS c ((z.Queue.take (i.toNat + 1)).take (j + 1)) = acc + prK c (z.Queue.take (i.toNat + 1))[j] := by
      rw [ha, List.take_add_one, hx, prS_app]
      simp [prS]
    have ih := queues_1 hb hc hl hg ht l19 l20 l21 e1 e2 s a p n (j + 1) (acc + prK c (z.Queue.take (i.toNat + 1))[j]) (by omega) et.symm
    rw [loop_eq]
    simp only [Bw_FnQueues, ltc hlt, nnc, if_true, Int.toNat_natCast, hx, Option.bind_some, kindPrice_i hc, hbd, hky, Bool.and_self, wsucc (show j < 9223372036854775807 by omega), goOn]
    rw [w64 (show -9223372036854775808 ≤ acc + prK c (z.Queue.take (i.toNat + 1))[j] ∧ acc + prK c (z.Queue.take (i.toNat + 1))[j] ≤ 9223372036854775807 by omega)]
    exact ih
theorem lawQueues (code more : List Int) (hc : code.length < 9223372036854775808) (hm : more.length < 9223372036854775808) (h1 : ∀ x ∈ code, 0 ≤ x ∧ x < 256) (h2 : ∀ x ∈ more, 0 ≤ x ∧ x < 256) : Dw_FnQueues code more = some true := Ok.isTrue <| by
  unfold Dw_FnQueues
  refine Ok.ite (fun _ => Ok.ret rfl) fun _ => Ok.bind (okDrawWk hc h1).1 fun r2 q2 => ?_
  have a2 := appendKind_b q2.1.len r2.2.1 r2.2.2
  refine Ok.eq a2.1 (Ok.eq a2.2 (Ok.bind (okDrawWk hm h2).2.1 fun r5 q5 => ?_))
  have a5 := turnsU_b q5.1.len r5.2.1 r5.2.2.1 r5.2.2.2 (by omega)
  have hak : (akR r2.1 r2.2.1 r2.2.2).1.Queue.length ≤ 2000000 := by
    have := q2.2
    unfold akR
    split
    · simp; omega
    · simp
  refine Ok.eq a5.1 ?_
  by_cases ct : (tuR r5.1 r5.2.1 r5.2.2.1 r5.2.2.2).2 = true
  · rw [if_pos ct]
    refine Ok.eq a5.2 (Ok.bind (okDrawWk hm h2).2.2 fun r9 q9 => Ok.eq (removeKind_i q9.1.len _ _ (by omega)) (Ok.eq (removeKind_s q9.1.len _ _ (by omega)) (Ok.els (by simp) (Ok.eq (eQWorks hak) (Ok.chk rfl (Ok.els (by simp [ct]) (Ok.chk rfl (Ok.els (by simp) (Ok.eq (eQWorks ?_) (Ok.chk rfl ?_))))))))))
    · have := q9.2
      unfold rkR
      split
      · simp [woL]; omega
      · simp
    · have cg : (hwG r5.1 r5.2.1 && kIn r5.2.2.1 0 (r5.2.1.Queue.length - 1) && kIn r5.2.2.2 0 50) = true := by
        unfold tuR at ct
        by_cases c : (hwG r5.1 r5.2.1 && kIn r5.2.2.1 0 (r5.2.1.Queue.length - 1) && kIn r5.2.2.2 0 50) = true
        · exact c
        · rw [if_neg c] at ct
          cases ct
      have et : tuR r5.1 r5.2.1 r5.2.2.1 r5.2.2.2 = tuV (prS r5.1 (r5.2.1.Queue.take (r5.2.2.1.toNat + 1)) - r5.2.1.Points) r5.2.2.2 := by unfold tuR; rw [if_pos cg]
      rw [et] at ct ⊢
      have cg2 := cg
      simp only [Bool.and_eq_true] at cg2
      have hk := kIn_iff.1 cg2.1.2
      have hq := q5.2
      rw [w64 (show -9223372036854775808 ≤ r5.2.2.1 + 1 ∧ r5.2.2.1 + 1 ≤ 9223372036854775807 by omega)]
      refine Ok.chk (by omega) (Ok.chk (by omega) ?_)
      rw [show (r5.2.2.1 + 1).toNat - 0 = r5.2.2.1.toNat + 1 by omega, List.drop_zero]
      have el : (r5.2.2.1.toNat + 1 : Nat) = (r5.2.1.Queue.take (r5.2.2.1.toNat + 1)).length := by simp; omega
      have key := queues_1 (k := r2.2.2) q2.1.len q5.1.len (x := r2.2.1) q2.2 cg ct r2.2.1.Queue (akR r2.1 r2.2.1 r2.2.2).1.Queue r5.2.1.Queue rfl rfl r5.2.1.Side r5.2.1.At r5.2.1.Points (r5.2.1.Queue.take (r5.2.2.1.toNat + 1)).length 0 0 (by omega) rfl
      rw [← el] at key
      exact ⟨true, key, rfl⟩
  · rw [if_neg ct]
    have cf : (tuR r5.1 r5.2.1 r5.2.2.1 r5.2.2.2).2 = false := by simpa using ct
    refine Ok.eq a5.2 (Ok.bind (okDrawWk hm h2).2.2 fun r9 q9 => Ok.eq (removeKind_i q9.1.len _ _ (by omega)) (Ok.eq (removeKind_s q9.1.len _ _ (by omega)) (Ok.els (by simp) (Ok.eq (eQWorks hak) (Ok.chk rfl (Ok.els (by simp [cf]) (Ok.chk rfl (Ok.els (by simp) (Ok.eq (eQWorks ?_) (Ok.chk rfl ?_))))))))))
    · have := q9.2
      unfold rkR
      split
      · simp [woL]; omega
      · simp
    · exact ⟨true, queues_2 q2.1.len q2.2, rfl⟩

end Go.Proofs.YtcblbhjbocipbaaDoor.Ab
