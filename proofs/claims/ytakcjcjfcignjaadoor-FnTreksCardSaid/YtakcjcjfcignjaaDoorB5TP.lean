/- Part of the proof of FnTreksCard: no condition of its own. -/
import Derived.Test.YtakcjcjfcignjaaDoorB5TD
import Derived.Test.YtakcjcjfcignjaaDoorPuA
set_option linter.unusedVariables false
set_option linter.unusedSimpArgs false
open Go
namespace Go.Proofs.YtakcjcjfcignjaaDoor.Ab
structure Cu (c : Gs_l1Cur) (k : Int) : Prop where
  at0 : 0 ≤ c.at_
  atk : c.at_ ≤ k
  kk : k ≤ 1099511627776
  code : ∀ x ∈ c.code, 0 ≤ x ∧ x < 256
  len : c.code.length < 9223372036854775808

theorem Cu.mono {c : Gs_l1Cur} {k k' : Int} (h : Cu c k) (hk : k ≤ k') (hb : k' ≤ 1099511627776) : Cu c k' := ⟨h.at0, by have := h.atk; omega, hb, h.code, h.len⟩

theorem and255 (x : Int) : 0 ≤ IntKind.wrap .i64 (IntKind.wrap .u64 ((BitVec.toNat (BitVec.ofInt (IntKind.bits .u64) x &&& BitVec.ofInt (IntKind.bits .u64) 255) : Nat) : Int)) ∧ IntKind.wrap .i64 (IntKind.wrap .u64 ((BitVec.toNat (BitVec.ofInt (IntKind.bits .u64) x &&& BitVec.ofInt (IntKind.bits .u64) 255) : Nat) : Int)) < 256 := by
  have h : (BitVec.ofInt (IntKind.bits .u64) x &&& BitVec.ofInt (IntKind.bits .u64) 255).toNat ≤ 255 := by
    rw [BitVec.toNat_and]
    have e : (BitVec.ofInt (IntKind.bits .u64) 255).toNat = 255 := by decide
    rw [e]
    exact Nat.and_le_right
  generalize (BitVec.ofInt (IntKind.bits .u64) x &&& BitVec.ofInt (IntKind.bits .u64) 255).toNat = n at h
  have h2 : IntKind.wrap .u64 (n : Int) = (n : Int) := by
    simp only [IntKind.wrap, IntKind.bits, IntKind.signed]
    simp
    omega
  rw [h2, w64 (by omega)]
  omega

theorem cuNext {c : Gs_l1Cur} {k : Int} (h : Cu c k) (hk : k + 1 ≤ 1099511627776) : ∃ v c', Ds_l1Cur_next c = some (v, c') ∧ (0 ≤ v ∧ v < 256) ∧ Cu c' (k + 1) := by
  have h0 := h.at0
  have h1 := h.atk
  have mk : ∀ s, Cu ⟨c.code, c.at_ + 1, s⟩ (k + 1) := fun s => ⟨by simp only; omega, by simp only; omega, hk, h.code, h.len⟩
  unfold Ds_l1Cur_next
  rw [w64 (n := c.at_ + 1) (by omega)]
  by_cases ha : c.at_ < (c.code.length : Int)
  · have hlt : c.at_.toNat < c.code.length := by omega
    have hx := List.getElem?_eq_getElem hlt
    have hv := h.code _ (List.mem_of_getElem? hx)
    rw [if_pos ha, if_pos h0, hx]
    simp only [Option.bind_some]
    split
    · exact ⟨_, _, rfl, by rw [w64 (by omega)]; exact hv, mk _⟩
    · exact ⟨_, _, rfl, and255 _, mk _⟩
  · rw [if_neg ha]
    split
    · exact ⟨_, _, rfl, by omega, mk _⟩
    · exact ⟨_, _, rfl, and255 _, mk _⟩

theorem cuPick {c : Gs_l1Cur} {k : Int} (h : Cu c k) (hk : k + 2 ≤ 1099511627776) (n : Int) : ∃ v c', Ds_l1Cur_pick c n = some (v, c') ∧ (0 ≤ v ∧ (1 ≤ n → v < n) ∧ v ≤ 65535) ∧ Cu c' (k + 2) := by
  unfold Ds_l1Cur_pick
  by_cases h1 : n ≤ 1
  · rw [if_pos h1]
    exact ⟨_, _, rfl, by omega, h.mono (by omega) hk⟩
  · rw [if_neg h1]
    obtain ⟨v, c1, e1, hv, hc1⟩ := cuNext h (by omega)
    rw [e1]
    simp only [Option.bind_some]
    by_cases h2 : n > 200
    · rw [if_pos h2]
      obtain ⟨u, c2, e2, hu, hc2⟩ := cuNext hc1 (by omega)
      rw [e2]
      simp only [Option.bind_some]
      rw [if_pos (by omega), w64 (n := v * 256) (by omega), w64 (by omega)]
      have a1 := Int.tmod_nonneg n (show 0 ≤ v * 256 + u by omega)
      have a2 := Int.tmod_lt_of_pos (v * 256 + u) (show 0 < n by omega)
      have a3 : Int.tmod (v * 256 + u) n ≤ v * 256 + u := by
        have b1 := Int.mul_tdiv_add_tmod (v * 256 + u) n
        have b2 := Int.mul_nonneg (show 0 ≤ n by omega) (Int.tdiv_nonneg (show 0 ≤ v * 256 + u by omega) (show 0 ≤ n by omega))
        omega
      exact ⟨_, _, rfl, ⟨a1, fun _ => a2, by omega⟩, by have := hc2; rw [Int.add_assoc] at this; exact this⟩
    · rw [if_neg h2, if_pos (by omega)]
      have a1 := Int.tmod_nonneg n hv.1
      have a2 := Int.tmod_lt_of_pos v (show 0 < n by omega)
      exact ⟨_, _, rfl, ⟨a1, fun _ => a2, by omega⟩, hc1.mono (by omega) hk⟩

theorem cuOne {c : Gs_l1Cur} {k : Int} (h : Cu c k) (hk : k + 2 ≤ 1099511627776) (n : Int) : ∃ v c', Ds_l1Cur_one c n = some (v, c') ∧ Cu c' (k + 2) := by
  obtain ⟨v, c1, e1, _, hc1⟩ := cuPick h hk n
  unfold Ds_l1Cur_one
  rw [e1]
  exact ⟨_, _, rfl, hc1⟩

theorem cuAmong {c : Gs_l1Cur} {k : Int} (h : Cu c k) (hk : k + 2 ≤ 1099511627776) (l : List Int) (hl : 0 < l.length) : ∃ v c', Ds_l1Cur_among c l = some (v, c') ∧ v ∈ l ∧ Cu c' (k + 2) := by
  obtain ⟨v, c1, e1, hv, hc1⟩ := cuPick h hk l.length
  unfold Ds_l1Cur_among
  rw [e1]
  have hlt : v.toNat < l.length := by have := hv.2.1 (by omega); omega
  have hx := List.getElem?_eq_getElem hlt
  simp only [Option.bind_some]
  rw [if_pos hv.1, hx]
  exact ⟨_, _, rfl, List.mem_of_getElem? hx, hc1⟩

theorem cu1 {code : List Int} (h : ∀ x ∈ code, 0 ≤ x ∧ x < 256) (hl : code.length < 9223372036854775808) : Cu ⟨code, 0, 0⟩ 0 := ⟨Int.le_refl _, Int.le_refl _, by decide, h, hl⟩

def md (x m : Int) : Int := Int.tmod (IntKind.wrap .i64 (Int.tmod x m + m)) m
def mx (x : Int) (s : Int × Int) : Int × Int :=
  (Int.tmod (IntKind.wrap .i64 (IntKind.wrap .i64 (IntKind.wrap .i64 (16807 * s.1) + md x 2147483647) + s.2)) 2147483647,
   Int.tmod (IntKind.wrap .i64 (IntKind.wrap .i64 (IntKind.wrap .i64 (39373 * s.2) + md x 2147483629) + Int.tmod (IntKind.wrap .i64 (IntKind.wrap .i64 (IntKind.wrap .i64 (16807 * s.1) + md x 2147483647) + s.2)) 2147483647)) 2147483629)
def mixR (l : List Int) : Int × Int := mx 1 (mx 1 (mx 1 (l.foldl (fun s x => mx x s) (7, (l.length : Int) + 1))))

theorem eSameInts (l : List Int) (hl : l.length ≤ 1048577) : Dw_sameInts l l = some true := by
  unfold Dw_sameInts
  rw [if_pos rfl]
  refine true_loop (S := fun i => Sw_sameInts.h1 l l (l.length : Int) (i : Int)) (n := l.length) (fun i hi => ?_) ?_
  · simp [Bw_sameInts, hi, wsucc (show i < 9223372036854775807 by omega)]
  · simp [Bw_sameInts]

def below (s k n : Int) : Int := Int.tmod (mixR [s, k, n]).1 n
theorem eBig (a b : List Int) (ha : a.length < 9223372036854775808) (hb : b.length < 9223372036854775808) : Dw_big a b = some (decide (1048576 < a.length + b.length)) := by
  unfold Dw_big
  by_cases h : (a.length : Int) > 1048576
  · rw [if_pos h, decide_eq_true (by omega)]
  · rw [if_neg h, w64 (by omega)]
    congr 1
    by_cases h2 : 1048576 < a.length + b.length
    · rw [decide_eq_true h2]; exact decide_eq_true (by omega)
    · rw [decide_eq_false h2]; exact decide_eq_false (by omega)

theorem mulb {a b A B : Int} (ha : -A ≤ a ∧ a ≤ A) (hb : -B ≤ b ∧ b ≤ B) : -(A * B) ≤ a * b ∧ a * b ≤ A * B := by
  have h1 : a.natAbs ≤ A.natAbs := by omega
  have h2 : b.natAbs ≤ B.natAbs := by omega
  have h3 := Nat.mul_le_mul h1 h2
  rw [← Int.natAbs_mul, ← Int.natAbs_mul] at h3
  have : 0 ≤ A * B := Int.mul_nonneg (by omega) (by omega)
  omega

/-- The hexes' distance. -/
def hd (A B : Gi_Hex) : Int := ((B.Q - A.Q).natAbs + (B.R - A.R).natAbs + (B.Q - A.Q + (B.R - A.R)).natAbs : Nat) / 2

def dQ (d : Int) : Int := if d = 0 then 1 else if d = 1 then 1 else if d = 2 then 0 else if d = 3 then -1 else if d = 4 then -1 else 0
def dR (d : Int) : Int := if d = 0 then 0 else if d = 1 then -1 else if d = 2 then -1 else if d = 3 then 0 else 1
def hexGo (h : Gi_Hex) (d n : Int) : Gi_Hex := ⟨h.Q + n * dQ d, h.R + n * dR d⟩
def HexMid (h : Gi_Hex) : Prop := -10000 ≤ h.Q ∧ h.Q ≤ 10000 ∧ -10000 ≤ h.R ∧ h.R ≤ 10000

theorem sixDirs {d : Int} (h : 0 ≤ d ∧ d < 6) : d = 0 ∨ d = 1 ∨ d = 2 ∨ d = 3 ∨ d = 4 ∨ d = 5 := by omega
theorem dirGet {d : Int} (h : 0 ≤ d ∧ d < 6) : gv0[d.toNat]? = some ⟨dQ d, dR d⟩ := by
  rcases sixDirs h with rfl | rfl | rfl | rfl | rfl | rfl <;> rfl
theorem dirQ {d : Int} (h : 0 ≤ d ∧ d < 6) : [1, 1, 0, (-1), (-1), 0][d.toNat]? = some (dQ d) := by
  rcases sixDirs h with rfl | rfl | rfl | rfl | rfl | rfl <;> rfl
theorem dirR {d : Int} (h : 0 ≤ d ∧ d < 6) : [0, (-1), (-1), 0, 1, 1][d.toNat]? = some (dR d) := by
  rcases sixDirs h with rfl | rfl | rfl | rfl | rfl | rfl <;> rfl
theorem dirB {d : Int} (h : 0 ≤ d ∧ d < 6) (n : Int) : (n * dQ d = n ∨ n * dQ d = 0 ∨ n * dQ d = -n) ∧ (n * dR d = n ∨ n * dR d = 0 ∨ n * dR d = -n) := by
  rcases sixDirs h with rfl | rfl | rfl | rfl | rfl | rfl <;> simp [dQ, dR] <;> omega
theorem stepBy_i {h : Gi_Hex} {d n : Int} (hd : 0 ≤ d ∧ d < 6) (hh : HexMid h) (hn : -10000 ≤ n ∧ n ≤ 10000) : Di_stepBy h d n = some (hexGo h d n) := by
  obtain ⟨b1, b2⟩ := dirB hd n
  unfold HexMid at hh
  unfold Di_stepBy hexGo
  rw [if_pos hd.1, dirGet hd, Option.bind_some, if_pos hd.1, Option.bind_some]
  rw [w64 (n := n * dQ d) (by omega), w64 (n := n * dR d) (by omega), w64 (by omega), w64 (by omega)]
theorem hStep_s {h : Gi_Hex} {d : Int} (hd : 0 ≤ d ∧ d < 6) (hh : HexMid h) : Ds_hStep h d = some (hexGo h d 1) := by
  obtain ⟨b1, b2⟩ := dirB hd 1
  unfold HexMid at hh
  unfold Ds_hStep hexGo
  rw [if_pos hd.1, dirQ hd, Option.bind_some, if_pos hd.1, dirR hd, Option.bind_some]
  simp only [Int.one_mul] at b1 b2 ⊢
  rw [w64 (by omega), w64 (by omega)]
def MpDim (m : Gi_Map) (b : Int) : Prop := 1 ≤ m.Width ∧ m.Width ≤ b ∧ 1 ≤ m.Height ∧ m.Height ≤ b
def mpHex (m : Gi_Map) (i : Int) : Gi_Hex := ⟨i % m.Width, i / m.Width⟩
theorem mpDiv {i w : Int} (hi : 0 ≤ i) (hw : 1 ≤ w) : 0 ≤ i / w ∧ i / w ≤ i ∧ 0 ≤ i % w ∧ i % w < w := ⟨Int.ediv_nonneg hi (by omega), Int.ediv_le_self _ hi, Int.emod_nonneg _ (by omega), Int.emod_lt_of_pos _ (by omega)⟩
theorem hexOf_b {m : Gi_Map} {i : Int} (hw : 1 ≤ m.Width) (hi : 0 ≤ i ∧ i ≤ 10000) : Di_hexOf m i = some (mpHex m i) ∧ Ds_mHex m i = some (mpHex m i) := by
  obtain ⟨d1, d2, d3, d4⟩ := mpDiv hi.1 hw
  have h0 : ¬ m.Width = 0 := by omega
  unfold Di_hexOf Ds_mHex mpHex
  rw [if_pos h0, if_pos h0, Int.tmod_eq_emod_of_nonneg hi.1, Int.tdiv_eq_ediv_of_nonneg hi.1, w64 (by omega)]
  exact ⟨rfl, rfl⟩
theorem mpHex_mid {m : Gi_Map} {i : Int} (hw : 1 ≤ m.Width ∧ m.Width ≤ 100) (hi : 0 ≤ i ∧ i ≤ 10000) : HexMid (mpHex m i) := by
  obtain ⟨d1, d2, d3, d4⟩ := mpDiv hi.1 hw.1
  unfold HexMid mpHex
  simp only
  omega
def mpIdx (m : Gi_Map) (h : Gi_Hex) : Int := if 0 ≤ h.Q ∧ h.Q ≤ m.Width - 1 ∧ 0 ≤ h.R ∧ h.R ≤ m.Height - 1 then h.R * m.Width + h.Q else -1
theorem indexOf_b {m : Gi_Map} {h : Gi_Hex} (hd : MpDim m 100) : Di_indexOf m h = some (mpIdx m h) ∧ Ds_mIndex m h = some (mpIdx m h) := by
  unfold MpDim at hd
  unfold Di_indexOf Ds_mIndex Di_isIndex Di_inRange Ds_l1In mpIdx
  rw [w64 (n := m.Width - 1) (by omega), w64 (n := m.Height - 1) (by omega)]
  by_cases c1 : 0 ≤ h.Q
  · by_cases c2 : h.Q ≤ m.Width - 1
    · by_cases c3 : 0 ≤ h.R
      · by_cases c4 : h.R ≤ m.Height - 1
        · have hm := mulb (a := h.R) (b := m.Width) (A := 100) (B := 100) (by omega) (by omega)
          simp only [c1, c2, c3, c4, if_true, Option.bind_some, decide_true, ge_iff_le, and_self]
          rw [w64 (n := h.R * m.Width) (by omega), w64 (by omega)]
        · simp [c1, c2, c3, c4]
      · simp [c1, c2, c3]
    · simp [c1, c2]
  · simp [c1]
def mpNext (m : Gi_Map) (i d : Int) : Int := mpIdx m (hexGo (mpHex m i) d 1)
theorem next_b {m : Gi_Map} {i d : Int} (hd : MpDim m 100) (hi : 0 ≤ i ∧ i ≤ 10000) (h6 : 0 ≤ d ∧ d < 6) : Di_nextTo m i d = some (mpNext m i d) ∧ Ds_mNext m i d = some (mpNext m i d) := by
  have hd' := hd
  unfold MpDim at hd'
  have hm := mpHex_mid (m := m) (i := i) ⟨hd'.1, hd'.2.1⟩ hi
  obtain ⟨a1, a2⟩ := hexOf_b (m := m) hd'.1 hi
  obtain ⟨b1, b2⟩ := indexOf_b (h := hexGo (mpHex m i) d 1) hd
  unfold Di_nextTo Ds_mNext
  rw [a1, a2, Option.bind_some, Option.bind_some, stepBy_i h6 hm (by decide), hStep_s h6 hm, Option.bind_some, Option.bind_some, b1, b2]
  exact ⟨rfl, rfl⟩
theorem mpMul {w h r q : Int} (hq : 0 ≤ q ∧ q ≤ w - 1) (hr : 0 ≤ r ∧ r ≤ h - 1) : 0 ≤ r * w + q ∧ r * w + q < w * h := by
  have h1 : r * w ≤ (h - 1) * w := Int.mul_le_mul_of_nonneg_right hr.2 (by omega)
  have h2 : 0 ≤ r * w := Int.mul_nonneg hr.1 (by omega)
  rw [Int.sub_mul, Int.one_mul, Int.mul_comm h w] at h1
  omega
/-- The hex of an index that is found is the hex. -/
theorem mpIdx_hex {m : Gi_Map} {h : Gi_Hex} (hk : 0 ≤ mpIdx m h) : mpHex m (mpIdx m h) = h ∧ mpIdx m h < m.Width * m.Height := by
  unfold mpIdx at hk ⊢
  by_cases c : 0 ≤ h.Q ∧ h.Q ≤ m.Width - 1 ∧ 0 ≤ h.R ∧ h.R ≤ m.Height - 1
  · rw [if_pos c]
    have e := (Int.ediv_emod_unique (a := h.R * m.Width + h.Q) (b := m.Width) (r := h.Q) (q := h.R) (by omega)).2 ⟨by rw [Int.mul_comm]; omega, c.1, by omega⟩
    refine ⟨?_, (mpMul ⟨c.1, c.2.1⟩ c.2.2).2⟩
    unfold mpHex
    rw [e.1, e.2]
  · rw [if_neg c] at hk
    omega
theorem mpSize {m : Gi_Map} {b : Int} (hd : MpDim m b) : 1 ≤ m.Width * m.Height ∧ m.Width * m.Height ≤ b * b := by
  unfold MpDim at hd
  constructor
  · have := Int.mul_le_mul hd.1 hd.2.2.1 (by decide) (by omega)
    omega
  · exact Int.mul_le_mul hd.2.1 hd.2.2.2 (by omega) (by omega)
theorem mSize_s {m : Gi_Map} {b : Int} (hd : MpDim m b) (hb : b * b ≤ 2000000) : Ds_mSize m = some (m.Width * m.Height) := by
  have := mpSize hd
  unfold Ds_mSize
  rw [w64 (by omega)]

def mpEdgeOk (m : Gi_Map) (e : Int) : Bool := decide (0 ≤ e) && decide (e ≤ 3 * (m.Width * m.Height) - 1) && decide (0 ≤ mpNext m (e / 3) (e % 3))
theorem mpEdge_iff {m : Gi_Map} {e : Int} : mpEdgeOk m e = true ↔ 0 ≤ e ∧ e ≤ 3 * (m.Width * m.Height) - 1 ∧ 0 ≤ mpNext m (e / 3) (e % 3) := by
  simp [mpEdgeOk, and_assoc]
theorem isEdge_i {m : Gi_Map} {e : Int} (hd : MpDim m 10) : Di_isEdge m e = some (mpEdgeOk m e) := by
  have hs := mpSize hd
  have hd1 : MpDim m 100 := by unfold MpDim at hd ⊢; omega
  have hd' := hd
  unfold MpDim at hd'
  unfold Di_isEdge Di_inRange mpEdgeOk
  have e1 : 3 * m.Width * m.Height = 3 * (m.Width * m.Height) := Int.mul_assoc _ _ _
  rw [w64 (n := 3 * m.Width) (by omega), e1, w64 (n := 3 * (m.Width * m.Height)) (by omega), w64 (n := 3 * (m.Width * m.Height) - 1) (by omega)]
  by_cases c1 : 0 ≤ e
  · by_cases c2 : e ≤ 3 * (m.Width * m.Height) - 1
    · have h3 : 0 ≤ e / 3 ∧ e / 3 ≤ 10000 := by omega
      simp only [c1, c2, if_true, Option.bind_some, decide_true, Bool.true_and]
      rw [Int.tdiv_eq_ediv_of_nonneg c1, Int.tmod_eq_emod_of_nonneg c1, w64 (by omega), (next_b hd1 h3 (by omega)).1]
      rfl
    · simp [c1, c2]
  · simp [c1]
def rsB (l : List Int) : Nat → Nat → Bool
  | 0, _ => true
  | n + 1, i => (match l[i - 1]?, l[i]? with
    | some x, some y => decide (x < y)
    | _, _ => true) && rsB l n (i + 1)
def rising (l : List Int) : Bool := rsB l (l.length - 1) 1
theorem incr_i {l : List Int} (hl : l.length ≤ 2000000) : ∀ (n i : Nat), 1 ≤ i → (i + n = l.length ∨ n = 0 ∧ l.length ≤ i ∧ i ≤ 1) → loop Bi_increasing (.h1 l (i : Int)) = some (rsB l n i)
  | 0, i, h1, h => by
    rw [loop_eq]
    simp only [Bi_increasing]
    rw [if_neg (by omega)]
    rfl
  | n + 1, i, h1, h => by
    have hx : l[i - 1]? = some l[i - 1] := List.getElem?_eq_getElem (by omega)
    have hy : l[i]? = some l[i] := List.getElem?_eq_getElem (by omega)
    have ih := incr_i hl n (i + 1) (by omega) (by omega)
    have e : IntKind.wrap .i64 ((i : Int) - 1) = ((i - 1 : Nat) : Int) := by rw [w64 (by omega)]; omega
    rw [loop_eq]
    simp only [Bi_increasing, rsB, e, Int.toNat_natCast, hx, hy, Option.bind_some]
    rw [if_pos (by omega), if_pos (by omega), if_pos (by omega), wsucc (by omega)]
    by_cases c : l[i - 1] < l[i]
    · rw [if_neg (by omega), decide_eq_true c, Bool.true_and]
      exact ih
    · rw [if_pos (by omega), decide_eq_false c, Bool.false_and]
      rfl
theorem increasing_i {l : List Int} (hl : l.length ≤ 2000000) : Di_increasing l = some (rising l) := incr_i hl (l.length - 1) 1 (Nat.le_refl _) (by omega)
theorem in_b {x lo hi : Int} : Ds_l1In x lo hi = some (decide (lo ≤ x) && decide (x ≤ hi)) := by
  unfold Ds_l1In
  by_cases c : lo ≤ x <;> simp [c]
theorem rise_s {l : List Int} {hi : Int} (hl : l.length ≤ 2000000) (ha : ∀ x ∈ l, 0 ≤ x ∧ x ≤ hi) : ∀ (n i : Nat), 1 ≤ i → (i + n = l.length) → loop Bs_l1Rising (.h1 l 0 hi l (l.length : Int) (i : Int)) = some (rsB l n i)
  | 0, i, h1, h => by
    rw [loop_eq]
    simp only [Bs_l1Rising]
    rw [if_neg (by omega)]
    rfl
  | n + 1, i, h1, h => by
    have hx : l[i - 1]? = some l[i - 1] := List.getElem?_eq_getElem (by omega)
    have hy : l[i]? = some l[i] := List.getElem?_eq_getElem (by omega)
    have ih := rise_s hl ha n (i + 1) (by omega) (by omega)
    obtain ⟨a1, a2⟩ := ha l[i] (List.getElem_mem (by omega))
    have e : IntKind.wrap .i64 ((i : Int) - 1) = ((i - 1 : Nat) : Int) := by rw [w64 (by omega)]; omega
    rw [loop_eq]
    simp only [Bs_l1Rising, rsB, e, Int.toNat_natCast, hx, hy, Option.bind_some, in_b, a1, a2, decide_true, Bool.and_self, if_true]
    rw [if_pos (by omega), if_pos (by omega), if_pos (by omega), if_pos (by omega), wsucc (by omega)]
    by_cases c : l[i - 1] < l[i]
    · rw [if_neg (by omega), decide_eq_true c, Bool.true_and]
      exact ih
    · rw [if_pos (by omega), decide_eq_false c, Bool.false_and]
      rfl
theorem rising_s {l : List Int} {hi : Int} (hl : l.length ≤ 2000000) (ha : ∀ x ∈ l, 0 ≤ x ∧ x ≤ hi) : Ds_l1Rising l 0 hi = some (rising l) := by
  unfold Ds_l1Rising rising
  by_cases z : l.length = 0
  · have : l = [] := List.length_eq_zero_iff.1 z
    subst this
    rw [loop_eq]
    rfl
  · have hy : l[0]? = some l[0] := List.getElem?_eq_getElem (by omega)
    obtain ⟨a1, a2⟩ := ha l[0] (List.getElem_mem (by omega))
    have := rise_s hl ha (l.length - 1) 1 (Nat.le_refl _) (by omega)
    rw [loop_eq]
    have e0 : l[Int.toNat 0]? = some l[0] := hy
    simp only [Bs_l1Rising, e0, Option.bind_some, in_b, a1, a2, decide_true, Bool.and_self, if_true]
    rw [if_pos (by omega), if_pos (by decide), if_neg (by decide)]
    exact this
def mpList (m : Gi_Map) (l : List Int) : Bool := l.all (mpEdgeOk m) && rising l
theorem edgesGo_s {m : Gi_Map} (hd : MpDim m 10) {l : List Int} (hl : l.length ≤ 2000000) : ∀ (n i : Nat), i + n = l.length → (∀ x ∈ l.take i, mpEdgeOk m x = true) → loop Bs_mEdges (.h1 l l (l.length : Int) (i : Int) m) = some ((l.drop i).all (mpEdgeOk m) && rising l)
  | 0, i, h, hb => by
    have hs := mpSize hd
    rw [List.take_of_length_le (by omega)] at hb
    rw [loop_eq, List.drop_of_length_le (by omega)]
    simp only [Bs_mEdges]
    rw [if_neg (by omega), mSize_s hd (by decide), Option.bind_some, w64 (n := 3 * (m.Width * m.Height)) (by omega), w64 (by omega), rising_s hl (fun x hx => by
      have := mpEdge_iff.1 (hb x hx)
      omega)]
    rfl
  | n + 1, i, h, hb => by
    have hs := mpSize hd
    have hd1 : MpDim m 100 := by unfold MpDim at hd ⊢; omega
    have hx : l[i]? = some l[i] := List.getElem?_eq_getElem (by omega)
    rw [loop_eq, List.drop_eq_getElem_cons (by omega), List.all_cons]
    simp only [Bs_mEdges]
    rw [if_pos (by omega), if_pos (by omega), Int.toNat_natCast, hx, Option.bind_some, mSize_s hd (by decide), Option.bind_some, w64 (n := 3 * (m.Width * m.Height)) (by omega), w64 (n := 3 * (m.Width * m.Height) - 1) (by omega), in_b, Option.bind_some, wsucc (by omega)]
    by_cases c : 0 ≤ l[i] ∧ l[i] ≤ 3 * (m.Width * m.Height) - 1
    · rw [if_pos (by simp [c.1, c.2])]
      have h3 : 0 ≤ l[i] / 3 ∧ l[i] / 3 ≤ 10000 := by omega
      rw [Int.tdiv_eq_ediv_of_nonneg c.1, Int.tmod_eq_emod_of_nonneg c.1, w64 (by omega), (next_b hd1 h3 (by omega)).2, Option.bind_some]
      by_cases c3 : 0 ≤ mpNext m (l[i] / 3) (l[i] % 3)
      · have hok : mpEdgeOk m l[i] = true := mpEdge_iff.2 ⟨c.1, c.2, c3⟩
        rw [if_neg (by omega), hok, Bool.true_and]
        refine edgesGo_s hd hl n (i + 1) (by omega) fun x hx' => ?_
        rw [List.take_add_one, hx] at hx'
        rcases List.mem_append.1 hx' with hx' | hx'
        · exact hb x hx'
        · simp at hx'; subst hx'; exact hok
      · have hok : mpEdgeOk m l[i] = false := by
          cases hh : mpEdgeOk m l[i] with
          | false => rfl
          | true => exact absurd (mpEdge_iff.1 hh).2.2 c3
        rw [if_pos (by omega), hok, Bool.false_and, Bool.false_and]
        rfl
    · have hok : mpEdgeOk m l[i] = false := by
        cases hh : mpEdgeOk m l[i] with
        | false => rfl
        | true => exact absurd ⟨(mpEdge_iff.1 hh).1, (mpEdge_iff.1 hh).2.1⟩ c
      rw [if_neg (by simp only [Bool.and_eq_true, decide_eq_true_eq]; exact c), hok, Bool.false_and, Bool.false_and]
      rfl
theorem edges_s {m : Gi_Map} (hd : MpDim m 10) {l : List Int} (hl : l.length ≤ 2000000) : Ds_mEdges m l = some (mpList m l) := by
  have := edgesGo_s hd hl l.length 0 (by omega) (fun x hx => by simp at hx)
  rw [List.drop_zero] at this
  exact this
def terrOk (x : Int) : Bool := decide (0 ≤ x) && decide (x ≤ 5)
theorem terr_s {l : List Int} (hl : l.length ≤ 2000000) : ∀ (n i : Nat), i + n = l.length → loop Bs_l1All (.h1 0 5 l (l.length : Int) (i : Int)) = some ((l.drop i).all terrOk)
  | 0, i, h => by
    rw [loop_eq, List.drop_of_length_le (by omega)]
    simp only [Bs_l1All]
    rw [if_neg (by omega)]
    rfl
  | n + 1, i, h => by
    have hx : l[i]? = some l[i] := List.getElem?_eq_getElem (by omega)
    have ih := terr_s hl n (i + 1) (by omega)
    rw [loop_eq, List.drop_eq_getElem_cons (by omega), List.all_cons]
    simp only [Bs_l1All]
    rw [if_pos (by omega), if_pos (by omega), Int.toNat_natCast, hx, Option.bind_some, in_b, Option.bind_some, wsucc (by omega)]
    by_cases c : terrOk l[i] = true
    · have c' := c
      unfold terrOk at c'
      rw [if_pos c', c, Bool.true_and]
      exact ih
    · have c' := c
      unfold terrOk at c'
      rw [if_neg c']
      simp only [Bool.not_eq_true] at c
      rw [c, Bool.false_and]
      rfl
theorem edgeLoop_i {m : Gi_Map} (hd : MpDim m 10) {l : List Int} (hl : l.length ≤ 2000000) {t0 t1 : Int} {L : List (List Int)} : ∀ (n i : Nat), i + n = l.length →
    loop Bi_IsMap (.h3 t0 t1 l (l.length : Int) (i : Int) m L) = if (l.drop i).all (mpEdgeOk m) = true then loop Bi_IsMap (.h2 t0 (IntKind.wrap .i64 (t1 + 1)) m L) else some false
  | 0, i, h => by
    rw [loop_eq, List.drop_of_length_le (by omega)]
    simp only [Bi_IsMap]
    rw [if_neg (by omega), if_pos (by rfl)]
    rfl
  | n + 1, i, h => by
    have hx : l[i]? = some l[i] := List.getElem?_eq_getElem (by omega)
    have ih := edgeLoop_i hd hl (t0 := t0) (t1 := t1) (L := L) n (i + 1) (by omega)
    rw [loop_eq, List.drop_eq_getElem_cons (by omega), List.all_cons]
    simp only [Bi_IsMap]
    rw [if_pos (by omega), if_pos (by omega), Int.toNat_natCast, hx, Option.bind_some, isEdge_i hd, Option.bind_some, wsucc (by omega)]
    by_cases c : mpEdgeOk m l[i] = true
    · rw [if_pos c, c, Bool.true_and]
      exact ih
    · rw [if_neg c]
      simp only [Bool.not_eq_true] at c
      rw [c, Bool.false_and, if_neg (by decide)]
      rfl
theorem lists_i {m : Gi_Map} (hd : MpDim m 10) (hr : m.Rivers.length ≤ 2000000) (ho : m.Roads.length ≤ 2000000) : loop Bi_IsMap (.h2 2 0 m [m.Rivers, m.Roads]) = some (mpList m m.Rivers && mpList m m.Roads) := by
  have i1 := edgeLoop_i hd hr (t0 := 2) (t1 := 0) (L := [m.Rivers, m.Roads]) m.Rivers.length 0 (by omega)
  have i2 := edgeLoop_i hd ho (t0 := 2) (t1 := 1) (L := [m.Rivers, m.Roads]) m.Roads.length 0 (by omega)
  rw [List.drop_zero, show IntKind.wrap .i64 (0 + 1) = 1 from by decide] at i1
  rw [List.drop_zero, show IntKind.wrap .i64 (1 + 1) = 2 from by decide] at i2
  have e3 : loop Bi_IsMap (.h2 2 2 m [m.Rivers, m.Roads]) = some true := by rw [loop_eq]; rfl
  have e2 : loop Bi_IsMap (.h2 2 1 m [m.Rivers, m.Roads]) = some (mpList m m.Roads) := by
    rw [loop_eq]
    simp only [Bi_IsMap]
    rw [if_pos (by decide), if_pos (by decide), show [m.Rivers, m.Roads][Int.toNat 1]? = some m.Roads from rfl, Option.bind_some, increasing_i ho, Option.bind_some]
    unfold mpList
    by_cases c : rising m.Roads = true
    · rw [if_pos c, c, Bool.and_true]
      refine (show _ = _ from i2).trans ?_
      rw [e3]
      by_cases c2 : m.Roads.all (mpEdgeOk m) = true
      · rw [if_pos c2, c2]
      · rw [if_neg c2]
        simp only [Bool.not_eq_true] at c2
        rw [c2]
    · rw [if_neg c]
      simp only [Bool.not_eq_true] at c
      rw [c, Bool.and_false]
      rfl
  rw [loop_eq]
  simp only [Bi_IsMap]
  rw [if_pos (by decide), if_pos (by decide), show [m.Rivers, m.Roads][Int.toNat 0]? = some m.Rivers from rfl, Option.bind_some, increasing_i hr, Option.bind_some]
  by_cases c : rising m.Rivers = true
  · rw [if_pos c]
    refine (show _ = _ from i1).trans ?_
    rw [e2]
    unfold mpList
    rw [c, Bool.and_true]
    by_cases c2 : m.Rivers.all (mpEdgeOk m) = true
    · rw [if_pos c2, c2, Bool.true_and]
    · rw [if_neg c2]
      simp only [Bool.not_eq_true] at c2
      rw [c2, Bool.false_and]
  · rw [if_neg c]
    simp only [Bool.not_eq_true] at c
    unfold mpList
    rw [c, Bool.and_false, Bool.false_and]
    rfl
theorem terr_i {m : Gi_Map} {l : List Int} (hl : l.length ≤ 2000000) : ∀ (n i : Nat), i + n = l.length → loop Bi_IsMap (.h1 l (l.length : Int) (i : Int) m) = if (l.drop i).all terrOk = true then loop Bi_IsMap (.h2 2 0 m [m.Rivers, m.Roads]) else some false
  | 0, i, h => by
    rw [loop_eq, List.drop_of_length_le (by omega)]
    simp only [Bi_IsMap]
    rw [if_neg (by omega), if_pos (by rfl)]
    rfl
  | n + 1, i, h => by
    have hx : l[i]? = some l[i] := List.getElem?_eq_getElem (by omega)
    have ih := terr_i hl (m := m) n (i + 1) (by omega)
    have e : Di_isIndex l[i] 6 = some (terrOk l[i]) := by
      unfold Di_isIndex Di_inRange terrOk
      rw [show IntKind.wrap .i64 (6 - 1) = 5 from by decide]
      by_cases c : 0 ≤ l[i] <;> simp [c]
    rw [loop_eq, List.drop_eq_getElem_cons (by omega), List.all_cons]
    simp only [Bi_IsMap]
    rw [if_pos (by omega), if_pos (by omega), Int.toNat_natCast, hx, Option.bind_some, e, Option.bind_some, wsucc (by omega)]
    by_cases c : terrOk l[i] = true
    · rw [if_pos c, c, Bool.true_and]
      exact ih
    · rw [if_neg c]
      simp only [Bool.not_eq_true] at c
      rw [c, Bool.false_and, if_neg (by decide)]
      rfl
def MpLen (m : Gi_Map) : Prop := m.Terrain.length ≤ 2000000 ∧ m.Rivers.length ≤ 2000000 ∧ m.Roads.length ≤ 2000000
def mpGood (m : Gi_Map) : Bool := decide (1 ≤ m.Width) && decide (m.Width ≤ 10) && decide (1 ≤ m.Height) && decide (m.Height ≤ 10) && decide ((m.Terrain.length : Int) = m.Width * m.Height) && m.Terrain.all terrOk && mpList m m.Rivers && mpList m m.Roads
theorem mpGood_dim {m : Gi_Map} (h : mpGood m = true) : MpDim m 10 ∧ (m.Terrain.length : Int) = m.Width * m.Height ∧ mpList m m.Rivers = true ∧ mpList m m.Roads = true := by
  simp only [mpGood, Bool.and_eq_true, decide_eq_true_eq] at h
  exact ⟨⟨h.1.1.1.1.1.1.1, h.1.1.1.1.1.1.2, h.1.1.1.1.1.2, h.1.1.1.1.2⟩, h.1.1.1.2, h.1.2, h.2⟩
theorem isMap_i {m : Gi_Map} (hl : MpLen m) : Di_IsMap m = some (mpGood m) := by
  unfold Di_IsMap Di_inRange mpGood
  by_cases c1 : 1 ≤ m.Width
  · by_cases c2 : m.Width ≤ 10
    · by_cases c3 : 1 ≤ m.Height
      · by_cases c4 : m.Height ≤ 10
        · have hd : MpDim m 10 := ⟨c1, c2, c3, c4⟩
          have hs := mpSize hd
          have t := terr_i hl.1 (m := m) m.Terrain.length 0 (by omega)
          rw [List.drop_zero, lists_i hd hl.2.1 hl.2.2] at t
          simp only [c1, c2, c3, c4, if_true, Option.bind_some, decide_true, Bool.true_and]
          rw [w64 (by omega)]
          by_cases c5 : (m.Terrain.length : Int) = m.Width * m.Height
          · rw [if_pos c5]
            refine (show _ = _ from t).trans ?_
            simp only [c5, decide_true, Bool.true_and]
            by_cases c6 : m.Terrain.all terrOk = true
            · rw [if_pos c6, c6, Bool.true_and]
            · rw [if_neg c6]
              simp only [Bool.not_eq_true] at c6
              rw [c6]
              rfl
          · rw [if_neg c5]
            simp [c5]
        · simp [c1, c2, c3, c4]
      · simp [c1, c2, c3]
    · simp [c1, c2]
  · simp [c1]
theorem good_m {m : Gi_Map} (hl : MpLen m) : Ds_mGood m = some (mpGood m) := by
  unfold Ds_mGood mpGood
  rw [in_b, in_b]
  by_cases c1 : 1 ≤ m.Width
  · by_cases c2 : m.Width ≤ 10
    · by_cases c3 : 1 ≤ m.Height
      · by_cases c4 : m.Height ≤ 10
        · have hd : MpDim m 10 := ⟨c1, c2, c3, c4⟩
          have t := terr_s hl.1 m.Terrain.length 0 (by omega)
          rw [List.drop_zero] at t
          have t' : Ds_l1All m.Terrain 0 5 = some (m.Terrain.all terrOk) := t
          simp only [c1, c2, c3, c4, if_true, Option.bind_some, decide_true, Bool.true_and, mSize_s hd (by decide), edges_s hd hl.2.1, edges_s hd hl.2.2, t']
          by_cases c5 : (m.Terrain.length : Int) = m.Width * m.Height
          · simp only [c5, decide_true, Bool.true_and, if_true]
            by_cases c6 : m.Terrain.all terrOk = true
            · rw [if_pos c6, c6, Bool.true_and]
              by_cases c7 : mpList m m.Rivers = true
              · rw [if_pos c7, c7, Bool.true_and]
              · rw [if_neg c7]
                simp only [Bool.not_eq_true] at c7
                rw [c7, Bool.false_and]
            · rw [if_neg c6]
              simp only [Bool.not_eq_true] at c6
              rw [c6]
              rfl
          · simp [c5]
        · simp [c1, c2, c3, c4]
      · simp [c1, c2, c3]
    · simp [c1, c2]
  · simp [c1]


def mpOn (m : Gi_Map) (i : Int) : Bool := mpGood m && (decide (0 ≤ i) && decide (i ≤ m.Width * m.Height - 1))
theorem mpOn_iff {m : Gi_Map} {i : Int} : mpOn m i = true ↔ mpGood m = true ∧ 0 ≤ i ∧ i < m.Width * m.Height := by
  simp only [mpOn, Bool.and_eq_true, decide_eq_true_eq]
  exact ⟨fun h => ⟨h.1, h.2.1, by omega⟩, fun h => ⟨h.1, h.2.1, by omega⟩⟩
theorem mpOn_dim {m : Gi_Map} {i : Int} (h : mpOn m i = true) : MpDim m 10 ∧ MpDim m 100 ∧ 0 ≤ i ∧ i ≤ 10000 ∧ i < m.Width * m.Height := by
  obtain ⟨h1, h2, h3⟩ := mpOn_iff.1 h
  have hd := (mpGood_dim h1).1
  have hs := mpSize hd
  refine ⟨hd, ?_, h2, by omega, h3⟩
  unfold MpDim at hd ⊢
  omega
def mpPair (m : Gi_Map) (i d : Int) : Bool := mpOn m i && (decide (0 ≤ d) && decide (d ≤ 5)) && decide (0 ≤ mpNext m i d)
theorem mpPair_iff {m : Gi_Map} {i d : Int} : mpPair m i d = true ↔ mpOn m i = true ∧ (0 ≤ d ∧ d < 6) ∧ 0 ≤ mpNext m i d := by
  simp only [mpPair, Bool.and_eq_true, decide_eq_true_eq]
  constructor
  · rintro ⟨⟨h1, h2⟩, h3⟩; exact ⟨h1, ⟨h2.1, by omega⟩, h3⟩
  · rintro ⟨h1, h2, h3⟩; exact ⟨⟨h1, h2.1, by omega⟩, h3⟩
theorem mpNext_lt {m : Gi_Map} {i d : Int} (h : 0 ≤ mpNext m i d) : mpNext m i d < m.Width * m.Height ∧ mpHex m (mpNext m i d) = hexGo (mpHex m i) d 1 := by
  obtain ⟨h1, h2⟩ := mpIdx_hex (m := m) (h := hexGo (mpHex m i) d 1) h
  exact ⟨h2, h1⟩
def mpEdge (m : Gi_Map) (i d : Int) : Int := if d < 3 then 3 * i + d else 3 * mpNext m i d + d - 3
theorem edge_b {m : Gi_Map} {i d : Int} (h : mpPair m i d = true) : Di_edgeOf m i d = some (mpEdge m i d) ∧ Ds_mEdge m i d = some (mpEdge m i d) := by
  obtain ⟨h1, h2, h3⟩ := mpPair_iff.1 h
  obtain ⟨d1, d2, d3, d4, d5⟩ := mpOn_dim h1
  have hs := mpSize d1
  have hn := mpNext_lt h3
  obtain ⟨n1, n2⟩ := next_b (m := m) (i := i) (d := d) d2 ⟨d3, d4⟩ h2
  unfold Di_edgeOf Ds_mEdge mpEdge
  rw [n1, n2, Option.bind_some, if_neg (by omega)]
  by_cases c : d < 3
  · rw [if_pos c, if_pos c, if_pos c, w64 (n := 3 * i) (by omega), w64 (by omega)]
    exact ⟨rfl, rfl⟩
  · rw [if_neg c, if_neg c, if_neg c, Option.bind_some, w64 (n := 3 * mpNext m i d) (by omega), w64 (n := 3 * mpNext m i d + d) (by omega), w64 (by omega)]
    exact ⟨rfl, rfl⟩
def hasB (l : List Int) (e : Int) : Bool := l.any fun x => decide (x = e)
theorem has_i {l : List Int} {e : Int} (hl : l.length ≤ 2000000) : ∀ (n i : Nat), i + n = l.length → ∃ r, loop Bslices_Index_int (.h1 l e (l.length : Int) (i : Int)) = some r ∧ decide (r ≥ 0) = hasB (l.drop i) e
  | 0, i, h => by
    rw [loop_eq, List.drop_of_length_le (by omega)]
    simp only [Bslices_Index_int]
    rw [if_neg (by omega)]
    exact ⟨-1, rfl, rfl⟩
  | n + 1, i, h => by
    have hx : l[i]? = some l[i] := List.getElem?_eq_getElem (by omega)
    obtain ⟨r, e1, e2⟩ := has_i hl (e := e) n (i + 1) (by omega)
    rw [loop_eq, List.drop_eq_getElem_cons (by omega)]
    simp only [Bslices_Index_int, hasB, List.any_cons]
    rw [if_pos (by omega), if_pos (by omega), Int.toNat_natCast, hx, Option.bind_some, wsucc (by omega)]
    by_cases c : e = l[i]
    · rw [if_pos c, decide_eq_true c.symm, Bool.true_or]
      exact ⟨_, rfl, by simp⟩
    · rw [if_neg c, decide_eq_false (fun h => c h.symm), Bool.false_or]
      exact ⟨r, e1, e2⟩
theorem contains_i {l : List Int} {e : Int} (hl : l.length ≤ 2000000) : Dslices_Contains_int l e = some (hasB l e) := by
  obtain ⟨r, e1, e2⟩ := has_i hl (e := e) l.length 0 (by omega)
  unfold Dslices_Contains_int
  rw [show Dslices_Index_int l e = some r from e1, Option.bind_some, e2, List.drop_zero]
theorem has_s' {l : List Int} {e : Int} (hl : l.length ≤ 2000000) : ∀ (n i : Nat), i + n = l.length → loop Bs_l1Has (.h1 e l (l.length : Int) (i : Int)) = some (hasB (l.drop i) e)
  | 0, i, h => by
    rw [loop_eq, List.drop_of_length_le (by omega)]
    simp only [Bs_l1Has]
    rw [if_neg (by omega)]
    rfl
  | n + 1, i, h => by
    have hx : l[i]? = some l[i] := List.getElem?_eq_getElem (by omega)
    have ih := has_s' hl (e := e) n (i + 1) (by omega)
    rw [loop_eq, List.drop_eq_getElem_cons (by omega)]
    simp only [Bs_l1Has, hasB, List.any_cons]
    rw [if_pos (by omega), if_pos (by omega), Int.toNat_natCast, hx, Option.bind_some, wsucc (by omega)]
    by_cases c : l[i] = e
    · rw [if_pos c, decide_eq_true c, Bool.true_or]
      rfl
    · rw [if_neg c, decide_eq_false c, Bool.false_or]
      exact ih
theorem has_s {l : List Int} {e : Int} (hl : l.length ≤ 2000000) : Ds_l1Has l e = some (hasB l e) := by
  have := has_s' hl (e := e) l.length 0 (by omega)
  rw [List.drop_zero] at this
  exact this
theorem put_ex {l : List Int} {x : Int} (hl : l.length ≤ 1000) : ∀ (n i : Nat), i + n = l.length → ∃ l', loop Bs_l1Put_c0 (.h1 x (i : Int) l) = some l' ∧ l'.length ≤ l.length + 1
  | 0, i, h => by
    have hlen : (((List.take (i - 0) (List.drop 0 l)) ++ [x]) ++ (List.take (l.length - i) (List.drop i l))).length ≤ l.length + 1 := by
      simp only [List.length_append, List.length_take, List.length_drop, List.length_singleton]; omega
    have hlen1 : (List.take (i - 0) (List.drop 0 l)).length ≤ l.length := by simp only [List.length_take, List.length_drop]; omega
    have hlen2 : ((List.take (i - 0) (List.drop 0 l)) ++ [x]).length ≤ l.length + 1 := by rw [List.length_append, List.length_singleton]; omega
    rw [loop_eq]
    simp only [Bs_l1Put_c0, Int.toNat_natCast]
    rw [if_neg (by omega), if_neg (by omega), if_pos (by omega), if_pos (by omega), if_pos (by omega), if_pos (by omega), if_pos (by omega), if_pos (by omega), if_pos (by omega)]
    exact ⟨_, rfl, hlen⟩
  | n + 1, i, h => by
    have hlen : (((List.take (i - 0) (List.drop 0 l)) ++ [x]) ++ (List.take (l.length - i) (List.drop i l))).length ≤ l.length + 1 := by
      simp only [List.length_append, List.length_take, List.length_drop, List.length_singleton]; omega
    have hlen1 : (List.take (i - 0) (List.drop 0 l)).length ≤ l.length := by simp only [List.length_take, List.length_drop]; omega
    have hlen2 : ((List.take (i - 0) (List.drop 0 l)) ++ [x]).length ≤ l.length + 1 := by rw [List.length_append, List.length_singleton]; omega
    have hx : l[i]? = some l[i] := List.getElem?_eq_getElem (by omega)
    rw [loop_eq]
    simp only [Bs_l1Put_c0, Int.toNat_natCast, hx, Option.bind_some]
    rw [if_pos (by omega), if_pos (by omega)]
    by_cases c : l[i] < x
    · rw [if_pos c, wsucc (by omega)]
      exact put_ex hl n (i + 1) (by omega)
    · rw [if_neg c, if_pos (by omega), if_pos (by omega)]
      by_cases d : l[i] = x
      · rw [if_pos d]
        exact ⟨_, rfl, by omega⟩
      · rw [if_neg d, if_pos (by omega), if_pos (by omega), if_pos (by omega), if_pos (by omega), if_pos (by omega), if_pos (by omega), if_pos (by omega)]
        exact ⟨_, rfl, hlen⟩
theorem put_l {l : List Int} {x : Int} (hl : l.length ≤ 1000) : ∃ l', Ds_l1Put_c0 l x = some l' ∧ l'.length ≤ l.length + 1 := put_ex hl l.length 0 (by omega)
theorem edge_ex {m : Gi_Map} {i d : Int} (hd : MpDim m 100) (hi : 0 ≤ i ∧ i ≤ 10000) (h6 : 0 ≤ d ∧ d < 6) : ∃ e, Ds_mEdge m i d = some e := by
  unfold Ds_mEdge
  rw [(next_b hd hi h6).2]
  split <;> exact ⟨_, rfl⟩
theorem cuEdgesLoop {m : Gi_Map} (hd : MpDim m 10) : ∀ (n : Nat) {c : Gs_l1Cur} {k : Int} {l : List Int}, Cu c k → k + 4 * n ≤ 1099511627776 → l.length + n ≤ 100 →
    ∃ l' c', loop Bs_l1Cur_edges (.h1 (n : Int) c m l) = some (l', c') ∧ Cu c' (k + 4 * n) ∧ l'.length ≤ 100
  | 0, c, k, l, h, hk, hl => by
    rw [loop_eq]
    simp only [Bs_l1Cur_edges]
    rw [if_neg (by omega)]
    exact ⟨l, c, rfl, h.mono (by omega) (by omega), by omega⟩
  | n + 1, c, k, l, h, hk, hl => by
    have hs := mpSize hd
    have hd1 : MpDim m 100 := by unfold MpDim at hd ⊢; omega
    obtain ⟨v1, c1, e1, b1, g1⟩ := cuPick h (by omega) (m.Width * m.Height)
    obtain ⟨v2, c2, e2, b2, g2⟩ := cuPick g1 (by omega) 6
    have hv1 := b1.2.1 (by omega)
    have hv2 := b2.2.1 (by omega)
    have h6 : 0 ≤ v2 ∧ v2 < 6 := ⟨b2.1, hv2⟩
    have hi : 0 ≤ v1 ∧ v1 ≤ 10000 := ⟨b1.1, by omega⟩
    obtain ⟨e, he⟩ := edge_ex hd1 hi h6
    rw [loop_eq]
    simp only [Bs_l1Cur_edges]
    rw [if_pos (by omega), mSize_s hd (by decide), Option.bind_some, e1, Option.bind_some, e2, Option.bind_some, (next_b hd1 hi h6).2, Option.bind_some, w64 (n := ((n + 1 : Nat) : Int) - 1) (by omega), show (((n + 1 : Nat) : Int) - 1) = (n : Int) by omega]
    by_cases z : mpNext m v1 v2 ≥ 0
    · obtain ⟨l1, p1, p2⟩ := put_l (l := l) (x := e) (by omega)
      rw [if_pos z, he, Option.bind_some, p1, Option.bind_some]
      obtain ⟨l', c', q1, q2, q3⟩ := cuEdgesLoop hd n g2 (by omega) (l := l1) (by omega)
      exact ⟨l', c', q1, q2.mono (by omega) (by omega), q3⟩
    · rw [if_neg z]
      obtain ⟨l', c', q1, q2, q3⟩ := cuEdgesLoop hd n g2 (by omega) (l := l) (by omega)
      exact ⟨l', c', q1, q2.mono (by omega) (by omega), q3⟩
theorem cuEdges {m : Gi_Map} (hd : MpDim m 10) {c : Gs_l1Cur} {k : Int} (h : Cu c k) (hk : k + 40 ≤ 1099511627776) : ∃ l c', Ds_l1Cur_edges c m = some (l, c') ∧ Cu c' (k + 40) ∧ l.length ≤ 100 := by
  obtain ⟨v1, c1, e1, b1, g1⟩ := cuPick h (by omega) 8
  have hv1 := b1.2.1 (by omega)
  unfold Ds_l1Cur_edges
  rw [e1, Option.bind_some]
  obtain ⟨l', c', q1, q2, q3⟩ := cuEdgesLoop hd v1.toNat g1 (by omega) (l := []) (by simp; omega)
  rw [Int.toNat_of_nonneg b1.1] at q1
  exact ⟨l', c', q1, q2.mono (by omega) (by omega), q3⟩
structure MpDrawn (m : Gi_Map) : Prop where
  dim : MpDim m 10
  t1 : 1 ≤ m.Terrain.length
  t2 : m.Terrain.length ≤ 200
  r : m.Rivers.length ≤ 100
  o : m.Roads.length ≤ 100
theorem cuMapLoop {b3 b4 W H : Int} (hd : MpDim ⟨W, H, [], [], []⟩ 10) : ∀ (n i : Nat) {c : Gs_l1Cur} {k : Int} {l : List Int}, (i : Int) + n = W * H → Cu c k → k + 4 * n + 100 ≤ 1099511627776 → l.length = i → 1 ≤ i →
    ∃ m' c', loop Bs_l1Cur_mapOf (.h2 6 (i : Int) c b3 b4 W H l) = some (m', c') ∧ Cu c' (k + 4 * n + 100) ∧ MpDrawn m'
  | 0, i, c, k, l, hn, h, hk, hl, h1 => by
    have hs := mpSize hd
    simp only at hs
    have hd1 : MpDim ⟨W, H, l, [], []⟩ 10 := hd
    obtain ⟨l1, c1, e1, g1, x1⟩ := cuEdges hd1 h (by omega)
    have hd2 : MpDim ⟨W, H, l, l1, []⟩ 10 := hd
    obtain ⟨l2, c2, e2, g2, x2⟩ := cuEdges hd2 g1 (by omega)
    rw [loop_eq]
    simp only [Bs_l1Cur_mapOf]
    rw [mSize_s hd1 (by decide), Option.bind_some, if_neg (by simp only; omega), e1, Option.bind_some, e2, Option.bind_some]
    exact ⟨_, _, rfl, g2.mono (by omega) (by omega), hd, by simp only; omega, by simp only; omega, x1, x2⟩
  | n + 1, i, c, k, l, hn, h, hk, hl, h1 => by
    have hs := mpSize hd
    simp only at hs
    have hd1 : MpDim ⟨W, H, l, [], []⟩ 10 := hd
    obtain ⟨v1, c1, e1, g1⟩ := cuOne h (by omega) 3
    obtain ⟨v2, c2, e2, b2, g2⟩ := cuPick g1 (by omega) 6
    rw [loop_eq]
    simp only [Bs_l1Cur_mapOf]
    rw [mSize_s hd1 (by decide), Option.bind_some, if_pos (by simp only; omega), e1, Option.bind_some, wsucc (by omega)]
    by_cases z : v1 = true
    · rw [if_pos z, e2, Option.bind_some, if_pos (by simp only [List.length_append, List.length_singleton]; omega)]
      obtain ⟨m', c', q1, q2, q3⟩ := cuMapLoop hd (b3 := b3) (b4 := b4) n (i + 1) (c := c2) (l := l ++ [v2]) (by omega) g2 (by omega) (by simp [hl]) (by omega)
      exact ⟨m', c', q1, q2.mono (by omega) (by omega), q3⟩
    · rw [if_neg z, if_pos (by simp only [List.length_append, List.length_singleton]; omega)]
      obtain ⟨m', c', q1, q2, q3⟩ := cuMapLoop hd (b3 := b3) (b4 := b4) n (i + 1) (c := c1) (l := l ++ [0]) (by omega) g1 (by omega) (by simp [hl]) (by omega)
      exact ⟨m', c', q1, q2.mono (by omega) (by omega), q3⟩
theorem cuMapOf {c : Gs_l1Cur} {k : Int} (h : Cu c k) (hk : k + 1000 ≤ 1099511627776) : ∃ m c', Ds_l1Cur_mapOf c 6 = some (m, c') ∧ Cu c' (k + 1000) ∧ MpDrawn m := by
  obtain ⟨v1, c1, e1, b1, g1⟩ := cuPick h (by omega) 6
  obtain ⟨v2, c2, e2, b2, g2⟩ := cuPick g1 (by omega) 6
  have hv1 := b1.2.1 (by omega)
  have hv2 := b2.2.1 (by omega)
  have hd : MpDim ⟨1 + v1, 1 + v2, [], [], []⟩ 10 := by unfold MpDim; simp only; omega
  have hs := mpSize hd
  simp only at hs
  have hm := mulb (a := 1 + v1) (b := 1 + v2) (A := 6) (B := 6) (by omega) (by omega)
  obtain ⟨v3, c3, e3, g3⟩ := cuOne g2 (by omega) 3
  obtain ⟨v4, c4, e4, b4, g4⟩ := cuPick g3 (by omega) 6
  unfold Ds_l1Cur_mapOf
  rw [e1, Option.bind_some, e2, Option.bind_some, w64 (n := 1 + v1) (by omega), w64 (n := 1 + v2) (by omega), loop_eq]
  simp only [Bs_l1Cur_mapOf]
  rw [mSize_s hd (by decide), Option.bind_some, if_pos (by simp only; omega), e3, Option.bind_some]
  have key : ∀ {cc : Gs_l1Cur} {t : Int}, Cu cc (k + 8) → ∃ m c', loop Bs_l1Cur_mapOf (.h2 6 1 cc 0 0 (1 + v1) (1 + v2) [t]) = some (m, c') ∧ Cu c' (k + 1000) ∧ MpDrawn m := fun {cc t} hc => by
    obtain ⟨m', c', q1, q2, q3⟩ := cuMapLoop hd (b3 := 0) (b4 := 0) ((1 + v1) * (1 + v2) - 1).toNat 1 (c := cc) (l := [t]) (by omega) hc (by omega) rfl (by decide)
    exact ⟨m', c', q1, q2.mono (by omega) (by omega), q3⟩
  by_cases z : v3 = true
  · rw [if_pos z, e4, Option.bind_some, if_pos (by simp)]
    exact key (g4.mono (by omega) (by omega))
  · rw [if_neg z, if_pos (by simp)]
    exact key (g3.mono (by omega) (by omega))
theorem mSize_ex (m : Gi_Map) : ∃ v, Ds_mSize m = some v := ⟨_, rfl⟩
theorem cuAnyMap {c : Gs_l1Cur} {k : Int} (h : Cu c k) (hk : k + 1100 ≤ 1099511627776) : ∃ m c', Ds_l1Cur_anyMap c = some (m, c') ∧ Cu c' (k + 1100) ∧ MpLen m := by
  obtain ⟨m, c1, e1, g1, d⟩ := cuMapOf h (by omega)
  obtain ⟨v, c2, e2, _, g2⟩ := cuPick g1 (by omega) 30
  obtain ⟨s, es⟩ := mSize_ex m
  have hr := d.r
  have ho := d.o
  have ht := d.t2
  have ht1 := d.t1
  have h0 : m.Terrain[Int.toNat 0]? = some m.Terrain[0] := List.getElem?_eq_getElem (by omega)
  have hM : MpLen m := ⟨by omega, by omega, by omega⟩
  unfold Ds_l1Cur_anyMap
  rw [e1, Option.bind_some, e2, Option.bind_some]
  by_cases z0 : v = 0
  · obtain ⟨v4, c4, e4, _, g4⟩ := cuAmong g2 (by omega) [0, 10, 11, (IntKind.wrap .i64 (m.Width + 1))] (by simp)
    rw [if_pos z0]
    simp only [e4, Option.bind_some]
    exact ⟨_, _, rfl, g4.mono (by omega) (by omega), hM⟩
  · rw [if_neg z0]
    by_cases z1 : v = 1
    · obtain ⟨v4, c4, e4, _, g4⟩ := cuAmong g2 (by omega) [(-1), 6] (by simp)
      rw [if_pos z1]
      simp only [e4, h0, Option.bind_some]
      exact ⟨_, _, rfl, g4.mono (by omega) (by omega), by simp only [List.length_set]; omega, by simp only; omega, by simp only; omega⟩
    · rw [if_neg z1]
      by_cases z2 : v = 2
      · obtain ⟨v4, c4, e4, _, g4⟩ := cuAmong g2 (by omega) [0, (IntKind.wrap .i64 (3 * s)), (IntKind.wrap .i64 ((IntKind.wrap .i64 (3 * s)) - 1)), (-1)] (by simp)
        rw [if_pos z2, es]
        simp only [e4, Option.bind_some]
        rw [if_pos (by simp only [List.length_append, List.length_singleton]; omega)]
        exact ⟨_, _, rfl, g4.mono (by omega) (by omega), by simp only; omega, by simp only [List.length_append, List.length_singleton]; omega, by simp only; omega⟩
      · rw [if_neg z2]
        by_cases z3 : v = 3
        · rw [if_pos z3, if_pos (by simp only [List.length_append, List.length_singleton]; omega)]
          exact ⟨_, _, rfl, g2.mono (by omega) (by omega), by simp only; omega, by simp only; omega, by simp only [List.length_append, List.length_singleton]; omega⟩
        · rw [if_neg z3]
          exact ⟨_, _, rfl, g2.mono (by omega) (by omega), hM⟩
theorem cuPlace {c : Gs_l1Cur} {k : Int} (h : Cu c k) (hk : k + 4 ≤ 1099511627776) (m : Gi_Map) : ∃ v c', Ds_l1Cur_place c m = some (v, c') ∧ Cu c' (k + 4) := by
  obtain ⟨v1, c1, e1, g1⟩ := cuOne h (by omega) 20
  obtain ⟨s, es⟩ := mSize_ex m
  obtain ⟨v2, c2, e2, _, g2⟩ := cuAmong g1 (by omega) [(-1), s] (by simp)
  unfold Ds_l1Cur_place
  rw [e1, Option.bind_some, es]
  by_cases z : v1 = true
  · rw [if_pos z, Option.bind_some, e2, Option.bind_some]
    exact ⟨_, _, rfl, g2.mono (by omega) (by omega)⟩
  · rw [if_neg z, Option.bind_some]
    obtain ⟨t, et⟩ : ∃ t, Ds_l1Most s 1 = some t := by unfold Ds_l1Most; split <;> exact ⟨_, rfl⟩
    obtain ⟨v3, c3, e3, _, g3⟩ := cuPick g1 (by omega) t
    rw [et, Option.bind_some, e3, Option.bind_some]
    exact ⟨_, _, rfl, g3.mono (by omega) (by omega)⟩
def kIn (x lo hi : Int) : Bool := decide (lo ≤ x) && decide (x ≤ hi)
theorem kIn_iff {x lo hi : Int} : kIn x lo hi = true ↔ lo ≤ x ∧ x ≤ hi := by simp [kIn]
theorem kin_i (x lo hi : Int) : Di_inRange x lo hi = some (kIn x lo hi) := by
  unfold Di_inRange kIn
  by_cases c : lo ≤ x <;> simp [c]
theorem kin_s (x lo hi : Int) : Ds_l1In x lo hi = some (kIn x lo hi) := by
  unfold Ds_l1In kIn
  by_cases c : lo ≤ x
  · rw [if_pos c]; simp [c]
  · rw [if_neg c]; simp [c]
theorem ifB (b : Bool) : (if b = true then some true else some false) = some b := by cases b <;> rfl
theorem ifNB (b : Bool) : (if b = true then some false else some true) = some (!b) := by cases b <;> rfl

/-- A walk over a list that ends at the first element that q does not hold of. -/
theorem all_goL {σ α ρ : Type} {L : σ → Option ρ} {S : Nat → σ} {l : List α} {q : Nat → α → Bool} {f : ρ} {r : Option ρ}
    (hs : ∀ i x, l[i]? = some x → i < l.length → (∀ j y, j < i → l[j]? = some y → q j y = true) → L (S i) = if q i x = true then L (S (i + 1)) else some f)
    (he : (∀ j y, l[j]? = some y → q j y = true) → L (S l.length) = r) : L (S 0) = if alli q l = true then r else some f := by
  have key : ∀ (k i : Nat), i + k = l.length → (∀ j x, j < i → l[j]? = some x → q j x = true) → L (S i) = if alli q l = true then r else some f := by
    intro k
    induction k with
    | zero =>
      intro i h hb
      have : i = l.length := by omega
      subst this
      have hall : ∀ j y, l[j]? = some y → q j y = true := fun j x hj => hb j x (List.getElem?_eq_some_iff.1 hj).1 hj
      rw [he hall, if_pos (alli_iff.2 hall)]
    | succ k ih =>
      intro i h hb
      have hlt : i < l.length := by omega
      have hx := List.getElem?_eq_getElem hlt
      rw [hs i l[i] hx hlt hb]
      by_cases hp : q i l[i] = true
      · rw [if_pos hp]
        refine ih (i + 1) (by omega) fun j x hj hx' => ?_
        by_cases hji : j = i
        · subst hji
          rw [hx] at hx'
          cases hx'
          exact hp
        · exact hb j x (by omega) hx'
      · rw [if_neg hp, if_neg fun h => hp (alli_iff.1 h i _ hx)]
  exact key l.length 0 (by omega) fun j x h => by omega

theorem l1All_s {l : List Int} (hl : l.length ≤ 2000000) (lo hi : Int) : Ds_l1All l lo hi = some (alli (fun _ x => kIn x lo hi) l) := by
  rw [← ifB]
  exact all_goL (L := loop Bs_l1All) (S := fun i => .h1 lo hi l (l.length : Int) (i : Int)) (fun i x hx hlt _ => by
    rw [loop_eq]
    simp only [Bs_l1All]
    rw [if_pos (by omega), if_pos (by omega), Int.toNat_natCast, hx, Option.bind_some, kin_s, Option.bind_some, wsucc (by omega)]
    by_cases c : kIn x lo hi = true
    · rw [if_pos c, if_pos c]; rfl
    · rw [if_neg c, if_neg c]; rfl) fun _ => by
    rw [loop_eq]
    simp only [Bs_l1All]
    rw [if_neg (by omega)]
    rfl
theorem wpred {i : Nat} (h : i < 9223372036854775807) (h0 : 0 < i) : IntKind.wrap .i64 ((i : Int) - 1) = ((i - 1 : Nat) : Int) := by rw [w64 (by omega)]; omega
theorem mulB {x y M N : Int} (hx : 0 ≤ x ∧ x ≤ M) (hy : 0 ≤ y ∧ y ≤ N) : 0 ≤ x * y ∧ x * y ≤ M * N := by
  refine ⟨Int.mul_nonneg hx.1 hy.1, ?_⟩
  exact Int.mul_le_mul hx.2 hy.2 hy.1 (by omega)
theorem p3 {i : Nat} (h : i ≤ 6) : 3 ^ i ≤ 729 := by
  have : i = 0 ∨ i = 1 ∨ i = 2 ∨ i = 3 ∨ i = 4 ∨ i = 5 ∨ i = 6 := by omega
  rcases this with rfl | rfl | rfl | rfl | rfl | rfl | rfl <;> decide
/-- It gives something, and Q holds of it. -/
def Ok {α : Type} (o : Option α) (Q : α → Prop) : Prop := ∃ a, o = some a ∧ Q a
theorem Ok.ret {α : Type} {a : α} {Q : α → Prop} (h : Q a) : Ok (some a) Q := ⟨a, rfl, h⟩
theorem Ok.mono {α : Type} {o : Option α} {P Q : α → Prop} (h : Ok o P) (k : ∀ a, P a → Q a) : Ok o Q := by
  obtain ⟨a, e, h⟩ := h
  exact ⟨a, e, k a h⟩
theorem Ok.bind {α β : Type} {o : Option α} {f : α → Option β} {P : α → Prop} {Q : β → Prop} (h : Ok o P) (k : ∀ a, P a → Ok (f a) Q) : Ok (Option.bind o f) Q := by
  obtain ⟨a, rfl, h⟩ := h
  exact k a h
theorem Ok.ite {α : Type} {c : Prop} [Decidable c] {a b : Option α} {Q : α → Prop} (h1 : c → Ok a Q) (h2 : ¬ c → Ok b Q) : Ok (if c then a else b) Q := by
  by_cases h : c
  · rw [if_pos h]; exact h1 h
  · rw [if_neg h]; exact h2 h
theorem Ok.chk {α : Type} {c : Prop} [Decidable c] {a b : Option α} {Q : α → Prop} (h : c) (h1 : Ok a Q) : Ok (if c then a else b) Q := by
  rw [if_pos h]; exact h1
theorem Ok.els {α : Type} {c : Prop} [Decidable c] {a b : Option α} {Q : α → Prop} (h : ¬ c) (h1 : Ok b Q) : Ok (if c then a else b) Q := by
  rw [if_neg h]; exact h1
theorem Ok.get {α β : Type} {l : List α} {i : Nat} {f : α → Option β} {Q : β → Prop} (h : i < l.length) (k : ∀ x, l[i]? = some x → x ∈ l → Ok (f x) Q) : Ok (Option.bind l[i]? f) Q := by
  have e := List.getElem?_eq_getElem h
  rw [e]
  exact k _ e (List.mem_of_getElem? e)
theorem Ok.eq {α β : Type} {o : Option α} {a : α} {f : α → Option β} {Q : β → Prop} (e : o = some a) (k : Ok (f a) Q) : Ok (Option.bind o f) Q := by
  rw [e]; exact k
/-- A loop with an invariant and a measure. -/
theorem Ok.loop {σ ρ : Type} {B : σ → Option (σ ⊕ ρ)} {Q : ρ → Prop} (I : σ → Prop) (m : σ → Nat) (hs : ∀ s, I s → Ok (B s) fun o => match o with | .inl s' => I s' ∧ m s' < m s | .inr r => Q r) : ∀ {s}, I s → Ok (loop B s) Q := by
  have key : ∀ n s, m s < n → I s → Ok (Ab.loop B s) Q := by
    intro n
    induction n with
    | zero => intro s h; omega
    | succ n ih =>
      intro s hn hI
      obtain ⟨o, e, h⟩ := hs s hI
      rw [loop_eq, e]
      cases o with
      | inl s' => exact ih s' (by omega) h.1
      | inr r => exact ⟨r, rfl, h⟩
  intro s h
  exact key _ s (Nat.lt_succ_self _) h

theorem ltc {i n : Nat} (h : i < n) : ((i : Int) < (n : Int)) = True := by simp [h]
theorem nltc (n : Nat) : ((n : Int) < (n : Int)) = False := by simp
theorem nnc (i : Nat) : ((0 : Int) ≤ (i : Int)) = True := by simp

def nmB (s : ByteArray) : Bool := alli (fun i _ => decide (97 ≤ byteAt s i) && decide (byteAt s i ≤ 122)) (List.range s.size) && kIn s.size 1 8
theorem nm_i {s : ByteArray} (hs : s.size ≤ 2000000) : Di_isName s = some (nmB s) := by
  unfold Di_isName nmB
  refine all_loop2 (B := Bi_isName) (S := fun i => .h1 s (i : Int)) (fun i x hx hi _ => ?_) ?_
  · rw [List.length_range] at hi
    simp only [Bi_isName, ltc hi, nnc, if_true, Int.toNat_natCast, wsucc (show i < 9223372036854775807 by omega)]
    by_cases c1 : byteAt s i < 97
    · rw [if_pos (by omega), if_neg (by simp only [Bool.and_eq_true, decide_eq_true_eq]; omega)]
    · rw [if_neg (by omega)]
      by_cases c2 : byteAt s i > 122
      · rw [if_pos (by omega), if_neg (by simp only [Bool.and_eq_true, decide_eq_true_eq]; omega)]
      · rw [if_neg (by omega), if_pos (by simp only [Bool.and_eq_true, decide_eq_true_eq]; omega)]
  · simp only [Bi_isName, List.length_range, nltc, if_false, kin_i, Option.bind_some]
theorem nm_s {s : ByteArray} (hs : s.size ≤ 2000000) : Ds_rName s = some (nmB s) := by
  unfold Ds_rName nmB
  refine all_loop2 (B := Bs_rName) (S := fun i => .h1 s (i : Int)) (fun i x hx hi _ => ?_) ?_
  · rw [List.length_range] at hi
    simp only [Bs_rName, ltc hi, nnc, if_true, Int.toNat_natCast, wsucc (show i < 9223372036854775807 by omega)]
    by_cases c1 : byteAt s i < 97
    · rw [if_pos (by omega), if_neg (by simp only [Bool.and_eq_true, decide_eq_true_eq]; omega)]
    · rw [if_neg (by omega)]
      by_cases c2 : byteAt s i > 122
      · rw [if_pos (by omega), if_neg (by simp only [Bool.and_eq_true, decide_eq_true_eq]; omega)]
      · rw [if_neg (by omega), if_pos (by simp only [Bool.and_eq_true, decide_eq_true_eq]; omega)]
  · simp only [Bs_rName, List.length_range, nltc, if_false, kin_s, Option.bind_some]
def trIx (nm : ByteArray) (l : List Gi_Terrain) : Int := ix (fun t => t.Name == nm) l
def kdIx (nm : ByteArray) (l : List Gi_Kind) : Int := ix (fun t => t.Name == nm) l
theorem trIx_i {l : List Gi_Terrain} (hl : l.length ≤ 2000000) (nm : ByteArray) : Di_terrainIndex l nm = some (trIx nm l) := by
  have h : loop Bslices_IndexFunc_i_Terrain_i_terrainIndex_1 (.h1 l nm (l.length : Int) 0) = some (trIx nm l) := find_loop (B := Bslices_IndexFunc_i_Terrain_i_terrainIndex_1) (S := fun i => .h1 l nm (l.length : Int) (i : Int)) (p := fun t => t.Name == nm) (l := l) (fun i x hx hi => by
    simp only [Bslices_IndexFunc_i_Terrain_i_terrainIndex_1, ltc hi, nnc, if_true, Int.toNat_natCast, hx, Option.bind_some, Di_terrainIndex_1, wsucc (show i < 9223372036854775807 by omega)]) (by
    simp only [Bslices_IndexFunc_i_Terrain_i_terrainIndex_1, nltc, if_false])
  unfold Di_terrainIndex Dslices_IndexFunc_i_Terrain_i_terrainIndex_1
  rw [h]; rfl
theorem kdIx_i {l : List Gi_Kind} (hl : l.length ≤ 2000000) (nm : ByteArray) : Di_kindIndex l nm = some (kdIx nm l) := by
  have h : loop Bslices_IndexFunc_i_Kind_i_kindIndex_1 (.h1 l nm (l.length : Int) 0) = some (kdIx nm l) := find_loop (B := Bslices_IndexFunc_i_Kind_i_kindIndex_1) (S := fun i => .h1 l nm (l.length : Int) (i : Int)) (p := fun t => t.Name == nm) (l := l) (fun i x hx hi => by
    simp only [Bslices_IndexFunc_i_Kind_i_kindIndex_1, ltc hi, nnc, if_true, Int.toNat_natCast, hx, Option.bind_some, Di_kindIndex_1, wsucc (show i < 9223372036854775807 by omega)]) (by
    simp only [Bslices_IndexFunc_i_Kind_i_kindIndex_1, nltc, if_false])
  unfold Di_kindIndex Dslices_IndexFunc_i_Kind_i_kindIndex_1
  rw [h]; rfl
theorem trIx_s {l : List Gi_Terrain} (hl : l.length ≤ 2000000) (nm : ByteArray) : Ds_rTerrain l nm = some (trIx nm l) :=
  find_loop (B := Bs_rTerrain) (S := fun i => .h1 nm l (l.length : Int) (i : Int)) (p := fun t => t.Name == nm) (l := l) (fun i x hx hi => by
    simp only [Bs_rTerrain, ltc hi, nnc, if_true, Int.toNat_natCast, hx, Option.bind_some, beq_iff_eq, wsucc (show i < 9223372036854775807 by omega)]) (by
    simp only [Bs_rTerrain, nltc, if_false])
theorem kdIx_s {l : List Gi_Kind} (hl : l.length ≤ 2000000) (nm : ByteArray) : Ds_rKind l nm = some (kdIx nm l) :=
  find_loop (B := Bs_rKind) (S := fun i => .h1 nm l (l.length : Int) (i : Int)) (p := fun t => t.Name == nm) (l := l) (fun i x hx hi => by
    simp only [Bs_rKind, ltc hi, nnc, if_true, Int.toNat_natCast, hx, Option.bind_some, beq_iff_eq, wsucc (show i < 9223372036854775807 by omega)]) (by
    simp only [Bs_rKind, nltc, if_false])
theorem contains_cost {l : List Int} (hl : l.length ≤ 2000000) : Dslices_ContainsFunc_int_i_goodTerrain_1 l = some (!(alli (fun _ x => kIn x 0 9) l)) := by
  rw [← ifNB]
  have := all_goL (L := fun s => (loop Bslices_IndexFunc_int_i_goodTerrain_1 s).map fun r => decide (r ≥ 0)) (S := fun i => .h1 l (l.length : Int) (i : Int)) (l := l) (q := fun _ x => kIn x 0 9) (f := true) (r := some false) (fun i x hx hi _ => by
    rw [loop_eq]
    simp only [Bslices_IndexFunc_int_i_goodTerrain_1, ltc hi, nnc, if_true, Int.toNat_natCast, hx, Option.bind_some, Di_goodTerrain_1, kin_i, wsucc (show i < 9223372036854775807 by omega)]
    cases kIn x 0 9 <;> simp [goOn]) fun _ => by
    rw [loop_eq]
    simp only [Bslices_IndexFunc_int_i_goodTerrain_1, nltc, if_false]
    rfl
  refine Eq.trans ?_ this
  unfold Dslices_ContainsFunc_int_i_goodTerrain_1 Dslices_IndexFunc_int_i_goodTerrain_1
  cases loop Bslices_IndexFunc_int_i_goodTerrain_1 (.h1 l (l.length : Int) 0) <;> rfl
structure TrLen (t : Gi_Terrain) : Prop where
  n : t.Name.size ≤ 2000000
  c : t.Cost.length ≤ 2000000
structure RlLen (r : Gi_Rules) : Prop where
  t : r.Terrains.length ≤ 2000000
  ts : ∀ x ∈ r.Terrains, TrLen x
  k : r.Kinds.length ≤ 2000000
  ks : ∀ x ∈ r.Kinds, x.Name.size ≤ 2000000
def trOk (K : Nat) (t : Gi_Terrain) : Bool := nmB t.Name && decide (t.Cost.length = K) && kIn t.Shift (-3) 3 && kIn t.Height 0 3 && alli (fun _ x => kIn x 0 9) t.Cost
def kdOk (k : Gi_Kind) : Bool := nmB k.Name && kIn k.Strength 1 9 && kIn k.Moves 0 9 && kIn k.Steps 1 4 && kIn k.View 0 4
def rlEnd (r : Gi_Rules) : Bool := kIn r.Stack 1 4 && kIn r.River 0 9 && kIn r.Road 1 9 && kIn r.Supply 0 20 && kIn r.Turns 1 30
def rlG (r : Gi_Rules) : Bool := kIn r.Terrains.length 1 6 && kIn r.Kinds.length 1 4 && alli (fun i t => trOk r.Kinds.length t && decide (trIx t.Name r.Terrains = i)) r.Terrains && alli (fun i k => kdOk k && decide (kdIx k.Name r.Kinds = i)) r.Kinds && rlEnd r
theorem goodTr_i {t : Gi_Terrain} (h : TrLen t) (K : Nat) : Di_goodTerrain t (K : Int) = some (trOk K t) := by
  unfold Di_goodTerrain trOk
  simp only [nm_i h.n, Option.bind_some, kin_i, contains_cost h.c, Int.ofNat_inj, Bool.not_not]
  by_cases c1 : t.Cost.length = K
  · simp only [c1, decide_true, Bool.and_true, if_true]
    cases nmB t.Name <;> cases kIn t.Shift (-3) 3 <;> cases kIn t.Height 0 3 <;> simp
  · cases nmB t.Name <;> simp [c1]
theorem goodKd_i {k : Gi_Kind} (h : k.Name.size ≤ 2000000) : Di_goodKind k = some (kdOk k) := by
  unfold Di_goodKind kdOk
  simp only [nm_i h, Option.bind_some, kin_i]
  cases nmB k.Name <;> cases kIn k.Strength 1 9 <;> cases kIn k.Moves 0 9 <;> cases kIn k.Steps 1 4 <;> simp
theorem rlKinds_i {r : Gi_Rules} (h : RlLen r) : loop Bi_IsRules (.h2 r.Kinds (r.Kinds.length : Int) 0 r) = some (alli (fun i k => kdOk k && decide (kdIx k.Name r.Kinds = i)) r.Kinds && rlEnd r) := by
  have hk := h.k
  refine all_loop2 (B := Bi_IsRules) (S := fun i => .h2 r.Kinds (r.Kinds.length : Int) (i : Int) r) (fun i x hx hi _ => ?_) ?_
  · have hn := h.ks x (List.mem_of_getElem? hx)
    simp only [Bi_IsRules, ltc hi, nnc, if_true, Int.toNat_natCast, hx, Option.bind_some, goodKd_i hn, kdIx_i hk, wsucc (show i < 9223372036854775807 by omega)]
    by_cases c : kdIx x.Name r.Kinds = i
    · cases kdOk x <;> simp [c]
    · cases kdOk x <;> simp [c]
  · simp only [Bi_IsRules, nltc, if_false, kin_i, Option.bind_some, rlEnd]
    cases kIn r.Stack 1 4 <;> cases kIn r.River 0 9 <;> cases kIn r.Road 1 9 <;> cases kIn r.Supply 0 20 <;> simp
theorem rlKinds_s {r : Gi_Rules} (h : RlLen r) : loop Bs_rGood (.h2 r.Kinds (r.Kinds.length : Int) 0 r) = some (alli (fun i k => kdOk k && decide (kdIx k.Name r.Kinds = i)) r.Kinds && rlEnd r) := by
  have hk := h.k
  refine all_loop2 (B := Bs_rGood) (S := fun i => .h2 r.Kinds (r.Kinds.length : Int) (i : Int) r) (fun i x hx hi _ => ?_) ?_
  · have hn := h.ks x (List.mem_of_getElem? hx)
    simp only [Bs_rGood, ltc hi, nnc, if_true, Int.toNat_natCast, hx, Option.bind_some, nm_s hn, kin_s, kdIx_s hk, wsucc (show i < 9223372036854775807 by omega)]
    have b1 := Bool.eq_false_or_eq_true (nmB x.Name)
    have b2 := Bool.eq_false_or_eq_true (kIn x.Strength 1 9)
    have b3 := Bool.eq_false_or_eq_true (kIn x.Moves 0 9)
    have b4 := Bool.eq_false_or_eq_true (kIn x.Steps 1 4)
    have b5 := Bool.eq_false_or_eq_true (kIn x.View 0 4)
    by_cases c : kdIx x.Name r.Kinds = i
    · rcases b1 with b1 | b1 <;> rcases b2 with b2 | b2 <;> rcases b3 with b3 | b3 <;> rcases b4 with b4 | b4 <;> rcases b5 with b5 | b5 <;> simp [kdOk, c, b1, b2, b3, b4, b5]
    · rcases b1 with b1 | b1 <;> simp [kdOk, c, b1]
  · simp only [Bs_rGood, nltc, if_false, kin_s, Option.bind_some, rlEnd]
    cases kIn r.Stack 1 4 <;> cases kIn r.River 0 9 <;> cases kIn r.Road 1 9 <;> cases kIn r.Supply 0 20 <;> simp
theorem isRules_i {r : Gi_Rules} (h : RlLen r) : Di_IsRules r = some (rlG r) := by
  have ht := h.t
  have key := all_goL (L := loop Bi_IsRules) (S := fun i => .h1 r.Terrains (r.Terrains.length : Int) (i : Int) r) (l := r.Terrains) (q := fun i t => trOk r.Kinds.length t && decide (trIx t.Name r.Terrains = i)) (f := false) (r := some (alli (fun i k => kdOk k && decide (kdIx k.Name r.Kinds = i)) r.Kinds && rlEnd r)) (fun i x hx hi _ => by
      have hn := h.ts x (List.mem_of_getElem? hx)
      rw [loop_eq]
      simp only [Bi_IsRules, ltc hi, nnc, if_true, Int.toNat_natCast, hx, Option.bind_some, goodTr_i hn, trIx_i ht, wsucc (show i < 9223372036854775807 by omega)]
      by_cases c : trIx x.Name r.Terrains = i
      · cases trOk r.Kinds.length x <;> simp [c, goOn]
      · cases trOk r.Kinds.length x <;> simp [c, goOn]) fun _ => by
      rw [loop_eq]
      simp only [Bi_IsRules, nltc, if_false, goOn]
      exact rlKinds_i h
  unfold Di_IsRules
  simp only [kin_i, Option.bind_some, rlG]
  have key' : loop Bi_IsRules (.h1 r.Terrains (r.Terrains.length : Int) 0 r) = _ := key
  rw [key']
  cases kIn r.Terrains.length 1 6 <;> cases kIn r.Kinds.length 1 4 <;> cases alli (fun i t => trOk r.Kinds.length t && decide (trIx t.Name r.Terrains = i)) r.Terrains <;> simp
theorem isRules_s {r : Gi_Rules} (h : RlLen r) : Ds_rGood r = some (rlG r) := by
  have ht := h.t
  have key := all_goL (L := loop Bs_rGood) (S := fun i => .h1 r.Terrains (r.Terrains.length : Int) (i : Int) r) (l := r.Terrains) (q := fun i t => trOk r.Kinds.length t && decide (trIx t.Name r.Terrains = i)) (f := false) (r := some (alli (fun i k => kdOk k && decide (kdIx k.Name r.Kinds = i)) r.Kinds && rlEnd r)) (fun i x hx hi _ => by
      have hn := h.ts x (List.mem_of_getElem? hx)
      have hn1 := hn.n
      have hn2 := hn.c
      rw [loop_eq]
      simp only [Bs_rGood, ltc hi, nnc, if_true, Int.toNat_natCast, hx, Option.bind_some, nm_s hn1, l1All_s hn2, kin_s, trIx_s ht, wsucc (show i < 9223372036854775807 by omega), Int.ofNat_inj]
      have b1 := Bool.eq_false_or_eq_true (nmB x.Name)
      have b2 := Bool.eq_false_or_eq_true (kIn x.Shift (-3) 3)
      have b3 := Bool.eq_false_or_eq_true (kIn x.Height 0 3)
      have b4 := Bool.eq_false_or_eq_true (alli (fun _ x => kIn x 0 9) x.Cost)
      by_cases c : trIx x.Name r.Terrains = i
      · by_cases c1 : x.Cost.length = r.Kinds.length
        · rcases b1 with b1 | b1 <;> rcases b2 with b2 | b2 <;> rcases b3 with b3 | b3 <;> rcases b4 with b4 | b4 <;> simp [trOk, c, c1, b1, b2, b3, b4, goOn]
        · rcases b1 with b1 | b1 <;> simp [trOk, c, c1, b1, goOn]
      · rcases b1 with b1 | b1 <;> simp [trOk, c, b1, goOn]) fun _ => by
      rw [loop_eq]
      simp only [Bs_rGood, nltc, if_false, goOn]
      exact rlKinds_s h
  unfold Ds_rGood
  simp only [kin_s, Option.bind_some, rlG]
  have key' : loop Bs_rGood (.h1 r.Terrains (r.Terrains.length : Int) 0 r) = _ := key
  rw [key']
  cases kIn r.Terrains.length 1 6 <;> cases kIn r.Kinds.length 1 4 <;> cases alli (fun i t => trOk r.Kinds.length t && decide (trIx t.Name r.Terrains = i)) r.Terrains <;> simp
/-- What valid rules are. -/
structure RlOk (r : Gi_Rules) : Prop where
  t : 1 ≤ r.Terrains.length ∧ r.Terrains.length ≤ 6
  k : 1 ≤ r.Kinds.length ∧ r.Kinds.length ≤ 4
  ts : ∀ x ∈ r.Terrains, x.Cost.length = r.Kinds.length ∧ ∀ c ∈ x.Cost, 0 ≤ c ∧ c ≤ 9
  ks : ∀ x ∈ r.Kinds, (1 ≤ x.Strength ∧ x.Strength ≤ 9) ∧ (0 ≤ x.Moves ∧ x.Moves ≤ 9) ∧ (1 ≤ x.Steps ∧ x.Steps ≤ 4) ∧ (0 ≤ x.View ∧ x.View ≤ 4)
  sh : ∀ x ∈ r.Terrains, (-3 ≤ x.Shift ∧ x.Shift ≤ 3) ∧ (0 ≤ x.Height ∧ x.Height ≤ 3)
  e : (1 ≤ r.Stack ∧ r.Stack ≤ 4) ∧ (0 ≤ r.River ∧ r.River ≤ 9) ∧ (1 ≤ r.Road ∧ r.Road ≤ 9) ∧ (0 ≤ r.Supply ∧ r.Supply ≤ 20) ∧ (1 ≤ r.Turns ∧ r.Turns ≤ 30)
theorem rlG_ok {r : Gi_Rules} (h : rlG r = true) : RlOk r := by
  simp only [rlG, rlEnd, Bool.and_eq_true, kIn_iff] at h
  obtain ⟨⟨⟨⟨h1, h2⟩, h3⟩, h4⟩, h5⟩ := h
  have h3' := alli_iff.1 h3
  have h4' := alli_iff.1 h4
  refine ⟨by omega, by omega, fun x hx => ?_, fun x hx => ?_, fun x hx => ?_, by omega⟩
  · obtain ⟨i, hi⟩ := List.getElem?_of_mem hx
    have := h3' i x hi
    simp only [trOk, Bool.and_eq_true, decide_eq_true_eq, kIn_iff] at this
    refine ⟨this.1.1.1.1.2, fun c hc => ?_⟩
    obtain ⟨j, hj⟩ := List.getElem?_of_mem hc
    have := alli_iff.1 this.1.2 j c hj
    simpa [kIn_iff] using this
  · obtain ⟨i, hi⟩ := List.getElem?_of_mem hx
    have := h4' i x hi
    simp only [kdOk, Bool.and_eq_true, decide_eq_true_eq, kIn_iff] at this
    omega
  · obtain ⟨i, hi⟩ := List.getElem?_of_mem hx
    have := h3' i x hi
    simp only [trOk, Bool.and_eq_true, decide_eq_true_eq, kIn_iff] at this
    omega

/-- The places below n that f gives something of, collected. -/
theorem fm_goL {σ α ρ : Type} {L : σ → Option ρ} {S : Nat → List α → σ} {n : Nat} {f : Nat → Option α} {r : List α → Option ρ}
    (hs : ∀ i acc, i < n → acc.length ≤ i → L (S i acc) = L (S (i + 1) (match f i with | some a => acc ++ [a] | none => acc))) (he : ∀ acc, acc.length ≤ n → L (S n acc) = r acc) : L (S 0 []) = r ((List.range n).filterMap f) := by
  have key : ∀ (k i : Nat) acc, i + k = n → acc.length ≤ i → L (S i acc) = r (acc ++ (List.range' i k).filterMap f) := by
    intro k
    induction k with
    | zero =>
      intro i acc h hl
      have : i = n := by omega
      subst this
      rw [he acc hl]
      simp
    | succ k ih =>
      intro i acc h hl
      rw [hs i acc (by omega) hl, List.range'_succ, List.filterMap_cons]
      cases hf : f i with
      | none => exact ih (i + 1) acc (by omega) (by omega)
      | some a =>
        simp only
        rw [ih (i + 1) _ (by omega) (by simp; omega)]
        simp
  have := key n 0 [] (by omega) (by simp)
  rw [this, List.range_eq_range']
  rfl
theorem fm_len {α : Type} (f : Nat → Option α) (n : Nat) : ((List.range n).filterMap f).length ≤ n := by
  have := List.length_filterMap_le f (List.range n)
  simpa using this
theorem ap8 {α : Type} {l : List α} {x : α} (h : l.length ≤ 3000000) : (l ++ [x]).length * 8 ≤ 70368744177664 := by simp; omega
theorem if8 {α β : Type} {l : List α} {x : α} (h : l.length ≤ 3000000) (a b : β) : (if (l ++ [x]).length * 8 ≤ 70368744177664 then a else b) = a := if_pos (ap8 h)

structure BdLen (b : Gi_Board) : Prop where
  r : RlLen b.Rules
  m : MpLen b.Map
def bdG (b : Gi_Board) : Bool := rlG b.Rules && mpGood b.Map && alli (fun _ x => kIn x 0 (b.Rules.Terrains.length - 1)) b.Map.Terrain
theorem mpGood_terr {m : Gi_Map} (h : mpGood m = true) : ∀ x ∈ m.Terrain, 0 ≤ x ∧ x ≤ 5 := by
  simp only [mpGood, Bool.and_eq_true, List.all_eq_true] at h
  intro x hx
  have := h.1.1.2 x hx
  simpa [terrOk] using this
theorem contains_terr {b : Gi_Board} {l : List Int} (hl : l.length ≤ 2000000) : Dslices_ContainsFunc_int_i_IsBoard_1 l b = some (!(alli (fun _ (x : Int) => decide (x < b.Rules.Terrains.length)) l)) := by
  rw [← ifNB]
  have := all_goL (L := fun s => (loop Bslices_IndexFunc_int_i_IsBoard_1 s).map fun r => decide (r ≥ 0)) (S := fun i => .h1 l b (l.length : Int) (i : Int)) (l := l) (q := fun _ (x : Int) => decide (x < b.Rules.Terrains.length)) (f := true) (r := some false) (fun i x hx hi _ => by
    rw [loop_eq]
    simp only [Bslices_IndexFunc_int_i_IsBoard_1, ltc hi, nnc, if_true, Int.toNat_natCast, hx, Option.bind_some, Di_IsBoard_1, wsucc (show i < 9223372036854775807 by omega)]
    by_cases c : x < b.Rules.Terrains.length
    · have : ¬ x ≥ b.Rules.Terrains.length := by omega
      simp [c, this, goOn]
    · have : x ≥ b.Rules.Terrains.length := by omega
      simp [c, this, goOn]) fun _ => by
    rw [loop_eq]
    simp only [Bslices_IndexFunc_int_i_IsBoard_1, nltc, if_false]
    rfl
  refine Eq.trans ?_ this
  unfold Dslices_ContainsFunc_int_i_IsBoard_1 Dslices_IndexFunc_int_i_IsBoard_1
  cases loop Bslices_IndexFunc_int_i_IsBoard_1 (.h1 l b (l.length : Int) 0) <;> rfl
theorem isBoard_i {b : Gi_Board} (h : BdLen b) : Di_IsBoard b = some (bdG b) := by
  unfold Di_IsBoard bdG
  rw [isRules_i h.r, Option.bind_some]
  cases c1 : rlG b.Rules with
  | false => simp
  | true =>
    rw [isMap_i h.m]
    simp only [if_true, Option.bind_some]
    cases c2 : mpGood b.Map with
    | false => simp
    | true =>
      have ht := mpGood_terr c2
      simp only [if_true, contains_terr h.m.1, Option.bind_some, Bool.not_not, Bool.true_and, Option.some.injEq]
      rw [Bool.eq_iff_iff, alli_iff, alli_iff]
      constructor
      · intro k i x hx
        have h1 := k i x hx
        have h2 := ht x (List.mem_of_getElem? hx)
        simp only [decide_eq_true_eq] at h1
        exact kIn_iff.2 ⟨h2.1, by omega⟩
      · intro k i x hx
        have h1 := kIn_iff.1 (k i x hx)
        simp only [decide_eq_true_eq]
        omega
theorem isBoard_s {b : Gi_Board} (h : BdLen b) : Ds_bGood b = some (bdG b) := by
  have hr := h.r.t
  unfold Ds_bGood bdG
  rw [isRules_s h.r, Option.bind_some]
  cases c1 : rlG b.Rules with
  | false => simp
  | true =>
    rw [good_m h.m]
    simp only [if_true, Option.bind_some]
    cases c2 : mpGood b.Map with
    | false => simp
    | true =>
      rw [w64 (by omega)]
      simp only [if_true, l1All_s h.m.1, Option.bind_some, Bool.true_and]
/-- What a valid board is. -/
structure BdOk (b : Gi_Board) : Prop where
  r : RlOk b.Rules
  d : MpDim b.Map 10
  n : (b.Map.Terrain.length : Int) = b.Map.Width * b.Map.Height
  n2 : 1 ≤ b.Map.Terrain.length ∧ b.Map.Terrain.length ≤ 100
  t : ∀ x ∈ b.Map.Terrain, 0 ≤ x ∧ x < b.Rules.Terrains.length
theorem bdG_ok {b : Gi_Board} (h : bdG b = true) : BdOk b := by
  simp only [bdG, Bool.and_eq_true] at h
  obtain ⟨⟨h1, h2⟩, h3⟩ := h
  obtain ⟨d, n, _, _⟩ := mpGood_dim h2
  have hs := mpSize d
  refine ⟨rlG_ok h1, d, n, by omega, fun x hx => ?_⟩
  obtain ⟨i, hi⟩ := List.getElem?_of_mem hx
  have := kIn_iff.1 (alli_iff.1 h3 i x hi)
  omega
theorem BdOk.d100 {b : Gi_Board} (h : BdOk b) : MpDim b.Map 100 := by
  have := h.d
  unfold MpDim at this ⊢
  omega

def bdT (b : Gi_Board) (i : Int) : Gi_Terrain := match b.Map.Terrain[i.toNat]? with
  | some t => (match b.Rules.Terrains[t.toNat]? with
    | some x => x
    | none => ⟨⟨#[]⟩, [], 0, 0, false⟩)
  | none => ⟨⟨#[]⟩, [], 0, 0, false⟩
def bdC (b : Gi_Board) (k i : Int) : Int := match (bdT b i).Cost[k.toNat]? with
  | some c => c
  | none => 0
theorem bdT_b {b : Gi_Board} (h : BdOk b) {i : Int} (hi : 0 ≤ i ∧ i < b.Map.Terrain.length) : Di_terrainAt b i = some (bdT b i) ∧ Ds_bTerrain b i = some (bdT b i) ∧ bdT b i ∈ b.Rules.Terrains := by
  have h1 : b.Map.Terrain[i.toNat]? = some b.Map.Terrain[i.toNat] := List.getElem?_eq_getElem (by omega)
  have h2 := h.t _ (List.mem_of_getElem? h1)
  have h3 : b.Rules.Terrains[b.Map.Terrain[i.toNat].toNat]? = some b.Rules.Terrains[b.Map.Terrain[i.toNat].toNat] := List.getElem?_eq_getElem (by omega)
  have e : bdT b i = b.Rules.Terrains[b.Map.Terrain[i.toNat].toNat] := by
    unfold bdT
    rw [h1]
    simp only
    rw [h3]
  rw [e]
  unfold Di_terrainAt Ds_bTerrain
  rw [if_pos hi.1, h1, Option.bind_some, if_pos h2.1, h3]
  exact ⟨rfl, rfl, List.getElem_mem _⟩
theorem bdC_b {b : Gi_Board} (h : BdOk b) {k i : Int} (hk : 0 ≤ k ∧ k < b.Rules.Kinds.length) (hi : 0 ≤ i ∧ i < b.Map.Terrain.length) : Di_enterCost b k i = some (bdC b k i) ∧ Ds_bCost b k i = some (bdC b k i) ∧ 0 ≤ bdC b k i ∧ bdC b k i ≤ 9 := by
  obtain ⟨e1, e2, hm⟩ := bdT_b h hi
  obtain ⟨hl, hc⟩ := h.r.ts _ hm
  have h1 : (bdT b i).Cost[k.toNat]? = some (bdT b i).Cost[k.toNat] := List.getElem?_eq_getElem (by omega)
  have h2 := hc _ (List.mem_of_getElem? h1)
  have e : bdC b k i = (bdT b i).Cost[k.toNat] := by
    unfold bdC
    rw [h1]
  rw [e]
  unfold Di_enterCost Ds_bCost
  rw [e1, e2, Option.bind_some, if_pos hk.1, h1]
  exact ⟨rfl, rfl, h2⟩
theorem isIndex_i {x n : Int} (h : -1000000000 ≤ n ∧ n ≤ 1000000000) : Di_isIndex x n = some (kIn x 0 (n - 1)) := by
  unfold Di_isIndex
  rw [w64 (by omega), kin_i]
  rfl
theorem bAt_s {b : Gi_Board} (h : BdLen b) (k i : Int) : Ds_bAt b k i = some (bdG b && kIn k 0 (b.Rules.Kinds.length - 1) && kIn i 0 (b.Map.Terrain.length - 1)) := by
  have := h.r.k
  unfold Ds_bAt
  rw [isBoard_s h, Option.bind_some, w64 (by omega)]
  cases c : bdG b with
  | false => simp
  | true =>
    have ho := bdG_ok c
    have hn := ho.n2
    simp only [if_true, kin_s, Option.bind_some, Bool.true_and]
    cases kIn k 0 (b.Rules.Kinds.length - 1) with
    | false => simp
    | true =>
      rw [mSize_s ho.d (by decide), ← ho.n, Option.bind_some, w64 (by omega)]
      simp
theorem okPick {c : Gs_l1Cur} {k : Int} (h : Cu c k) (hk : k + 2 ≤ 1099511627776) (n : Int) : Ok (Ds_l1Cur_pick c n) fun r => (0 ≤ r.1 ∧ (1 ≤ n → r.1 < n) ∧ r.1 ≤ 65535) ∧ Cu r.2 (k + 2) := by
  obtain ⟨v, c', e, h1, h2⟩ := cuPick h hk n
  exact ⟨_, e, h1, h2⟩
theorem okOne {c : Gs_l1Cur} {k : Int} (h : Cu c k) (hk : k + 2 ≤ 1099511627776) (n : Int) : Ok (Ds_l1Cur_one c n) fun r => Cu r.2 (k + 2) := by
  obtain ⟨v, c', e, h2⟩ := cuOne h hk n
  exact ⟨_, e, h2⟩
theorem okAmong {c : Gs_l1Cur} {k : Int} (h : Cu c k) (hk : k + 2 ≤ 1099511627776) (l : List Int) (hl : 0 < l.length) : Ok (Ds_l1Cur_among c l) fun r => r.1 ∈ l ∧ Cu r.2 (k + 2) := by
  obtain ⟨v, c', e, h1, h2⟩ := cuAmong h hk l hl
  exact ⟨_, e, h1, h2⟩
theorem okOf {c : Gs_l1Cur} {k : Int} (h : Cu c k) (hk : k + 2 ≤ 1099511627776) (l : List ByteArray) (hl : 0 < l.length) : Ok (Ds_l1Cur_of c l) fun r => r.1 ∈ l ∧ Cu r.2 (k + 2) := by
  obtain ⟨v, c1, e1, hv, hc1⟩ := cuPick h hk l.length
  have := hv.2.1 (by omega)
  have hx : l[v.toNat]? = some l[v.toNat] := List.getElem?_eq_getElem (by omega)
  unfold Ds_l1Cur_of
  rw [e1, Option.bind_some, if_pos hv.1, hx, Option.bind_some]
  exact ⟨_, rfl, List.mem_of_getElem? hx, hc1⟩
/-- Rules, as drawn. -/
structure RlD (r : Gi_Rules) : Prop where
  t : 1 ≤ r.Terrains.length ∧ r.Terrains.length ≤ 20
  ts : ∀ x ∈ r.Terrains, x.Name.size ≤ 100 ∧ 1 ≤ x.Cost.length ∧ x.Cost.length ≤ 100
  k : 1 ≤ r.Kinds.length ∧ r.Kinds.length ≤ 20
  ks : ∀ x ∈ r.Kinds, x.Name.size ≤ 100
theorem RlD.len {r : Gi_Rules} (h : RlD r) : RlLen r where
  t := by have := h.t; omega
  ts := fun x hx => by have := h.ts x hx; exact ⟨by omega, by omega⟩
  k := by have := h.k; omega
  ks := fun x hx => by have := h.ks x hx; omega
def five : List ByteArray := [⟨#[112, 108, 97, 105, 110]⟩, ⟨#[119, 111, 111, 100]⟩, ⟨#[104, 105, 108, 108]⟩, ⟨#[115, 101, 97]⟩, ⟨#[116, 111, 119, 110]⟩]
theorem five_sz : ∀ x ∈ five, x.size ≤ 100 := by
  intro x hx
  simp only [five, List.mem_cons, List.not_mem_nil, or_false] at hx
  rcases hx with rfl | rfl | rfl | rfl | rfl <;> decide
def TrDs (l : List Gi_Terrain) : Prop := ∀ x ∈ l, x.Name.size ≤ 100 ∧ 1 ≤ x.Cost.length ∧ x.Cost.length ≤ 100
def KdDs (l : List Gi_Kind) : Prop := (1 ≤ l.length ∧ l.length ≤ 3) ∧ ∀ x ∈ l, x.Name.size ≤ 100
theorem TrDs.snoc {l : List Gi_Terrain} {x : Gi_Terrain} (h : TrDs l) (hx : x.Name.size ≤ 100 ∧ 1 ≤ x.Cost.length ∧ x.Cost.length ≤ 100) : TrDs (l ++ [x]) := fun y hy => by
  rcases List.mem_append.1 hy with hy | hy
  · exact h y hy
  · rw [List.mem_singleton.1 hy]; exact hx
def rlI (k : Int) : Ss_l1Cur_rules → Prop
  | .h1 t0 b1 _ _ _ _ _ _ _ _ _ _ l12 l13 => t0 = 0 ∧ Cu b1 k ∧ l12 = five ∧ KdDs l13
  | .h2 t0 t1 t2 b3 _ _ _ _ _ _ _ _ _ _ l14 b15 _ _ _ l19 => t0 = 0 ∧ t1 = (l19.length : Int) ∧ t2 = 0 ∧ Cu b3 (k + 12) ∧ l14 = five ∧ b15.size ≤ 100 ∧ KdDs l19
  | .h3 t0 t1 t2 b3 _ _ _ _ _ _ _ _ _ _ l14 b15 _ _ _ l19 l20 => t0 = 0 ∧ t1 = (l19.length : Int) ∧ 1 ≤ t2 ∧ t2 ≤ t1 ∧ Cu b3 (k + 12 + 2 * t2) ∧ l14 = five ∧ b15.size ≤ 100 ∧ KdDs l19 ∧ (l20.length : Int) = t2
  | .h4 t0 b1 _ _ _ _ _ _ _ _ _ _ l12 l13 l14 => 1 ≤ t0 ∧ t0 ≤ 5 ∧ Cu b1 (k + 30 * t0) ∧ l12 = five ∧ (l13.length : Int) = t0 ∧ TrDs l13 ∧ KdDs l14
  | .h5 t0 t1 t2 b3 _ _ _ _ _ _ _ _ _ _ l14 b15 _ _ _ l19 l20 => 1 ≤ t0 ∧ t0 ≤ 4 ∧ t1 = (l20.length : Int) ∧ t2 = 0 ∧ Cu b3 (k + 30 * t0 + 12) ∧ l14 = five ∧ b15.size ≤ 100 ∧ (l19.length : Int) = t0 ∧ TrDs l19 ∧ KdDs l20
  | .h6 t0 t1 t2 b3 _ _ _ _ _ _ _ _ _ _ l14 b15 _ _ _ l19 l20 l21 => 1 ≤ t0 ∧ t0 ≤ 4 ∧ t1 = (l20.length : Int) ∧ 1 ≤ t2 ∧ t2 ≤ t1 ∧ Cu b3 (k + 30 * t0 + 12 + 2 * t2) ∧ l14 = five ∧ b15.size ≤ 100 ∧ (l19.length : Int) = t0 ∧ TrDs l19 ∧ KdDs l20 ∧ (l21.length : Int) = t2
def rlM : Ss_l1Cur_rules → Nat
  | .h1 .. => 10000
  | .h2 .. => 9000
  | .h3 _ t1 t2 .. => 8000 + (t1 - t2).toNat
  | .h4 t0 .. => 100 * (10 - t0).toNat
  | .h5 t0 .. => 100 * (10 - t0).toNat - 1
  | .h6 t0 t1 t2 .. => 100 * (10 - t0).toNat - 50 + (t1 - t2).toNat
theorem okRulesLoop {k : Int} (hk : k + 200 ≤ 1099511627776) : ∀ {s}, rlI k s → Ok (loop Bs_l1Cur_rules s) fun r => RlD r.1 ∧ Cu r.2 (k + 200) := by
  refine Ok.loop (rlI k) rlM fun s hI => ?_
  match s, hI with
  | .h1 t0 b1 b2 b3 b4 b5 b6 b7 b8 b9 b10 b11 l12 l13, hI =>
    obtain ⟨rfl, hc, rfl, hkd⟩ := hI
    have hkl := hkd.1
    simp only [Bs_l1Cur_rules]
    refine Ok.bind (okPick hc (by omega) 4) fun r1 h1 => ?_
    obtain ⟨h1, hc1⟩ := h1
    rw [w64 (by omega)]
    refine Ok.chk (by omega) (Ok.els (by decide) (Ok.chk (by decide) (Ok.get (by decide) fun x hx hm => ?_)))
    refine Ok.bind (okPick hc1 (by omega) 3) fun r6 h6 => Ok.bind (okPick h6.2 (by omega) 2) fun r7 h7 => Ok.bind (okPick h7.2 (by omega) 3) fun r8 h8 => Ok.els (by decide) (Ok.ret ?_)
    exact ⟨⟨rfl, rfl, rfl, h8.2.mono (by omega) (by omega), rfl, five_sz _ hm, hkd⟩, by simp [rlM]⟩
  | .h2 t0 t1 t2 b3 b4 b5 b6 b7 b8 b9 b10 b11 b12 b13 l14 b15 b16 b17 b18 l19, hI =>
    obtain ⟨rfl, rfl, rfl, hc, rfl, hn, hkd⟩ := hI
    have hkl := hkd.1
    simp only [Bs_l1Cur_rules]
    refine Ok.chk (by omega) (Ok.els (by decide) (Ok.chk (by decide) (Ok.ret ?_)))
    exact ⟨⟨rfl, rfl, by decide, by rw [show IntKind.wrap .i64 (0 + 1) = 1 from by decide]; omega, hc.mono (by rw [show IntKind.wrap .i64 (0 + 1) = 1 from by decide]; omega) (by rw [show IntKind.wrap .i64 (0 + 1) = 1 from by decide]; omega), rfl, hn, hkd, rfl⟩, by simp only [rlM]; rw [show IntKind.wrap .i64 (0 + 1) = 1 from by decide]; omega⟩
  | .h3 t0 t1 t2 b3 b4 b5 b6 b7 b8 b9 b10 b11 b12 b13 l14 b15 b16 b17 b18 l19 l20, hI =>
    obtain ⟨rfl, rfl, ht1, ht2, hc, rfl, hn, hkd, hl⟩ := hI
    have hkl := hkd.1
    simp only [Bs_l1Cur_rules]
    refine Ok.ite (fun c => Ok.els (by decide) (Ok.chk (by simp; omega) (Ok.ret ?_))) fun c => Ok.chk (by simp) (Ok.ret ?_)
    · have e : IntKind.wrap .i64 (t2 + 1) = t2 + 1 := w64 (by omega)
      exact ⟨⟨rfl, rfl, by omega, by omega, hc.mono (by omega) (by omega), rfl, hn, hkd, by simp; omega⟩, by simp only [rlM]; omega⟩
    · refine ⟨⟨by decide, by decide, hc.mono (by rw [show IntKind.wrap .i64 (0 + 1) = 1 from by decide]; omega) (by rw [show IntKind.wrap .i64 (0 + 1) = 1 from by decide]; omega), rfl, rfl, fun x hx => ?_, hkd⟩, by simp only [rlM]; rw [show IntKind.wrap .i64 (0 + 1) = 1 from by decide]; omega⟩
      rw [List.mem_singleton.1 hx]
      exact ⟨hn, by simp only; omega, by simp only; omega⟩
  | .h4 t0 b1 b2 b3 b4 b5 b6 b7 b8 b9 b10 b11 l12 l13 l14, hI =>
    obtain ⟨ht1, ht2, hc, rfl, hl, htr, hkd⟩ := hI
    have hkl := hkd.1
    simp only [Bs_l1Cur_rules]
    refine Ok.bind (okPick hc (by omega) 4) fun r1 h1 => ?_
    obtain ⟨h1, hc1⟩ := h1
    rw [w64 (n := 2 + r1.1) (by omega)]
    have done : RlD ⟨l13, l14, b7, b8, b9, b10, b11⟩ ∧ Cu r1.2 (k + 200) := ⟨⟨by simp only; omega, htr, by simp only; omega, hkd.2⟩, hc1.mono (by omega) (by omega)⟩
    refine Ok.ite (fun c => Ok.ite (fun c2 => Ok.ret done) fun c2 => ?_) fun c => Ok.ret done
    have hf : (five.length : Int) = 5 := rfl
    rw [hf] at c2
    refine Ok.chk (by omega) (Ok.get (show t0.toNat < 5 by omega) fun x hx hm => ?_)
    refine Ok.bind (okPick hc1 (by omega) 3) fun r6 h6 => Ok.bind (okPick h6.2 (by omega) 2) fun r7 h7 => Ok.bind (okPick h7.2 (by omega) 3) fun r8 h8 => Ok.chk (by omega) (Ok.bind (okOne h8.2 (by omega) 3) fun r10 h10 => Ok.ret ?_)
    exact ⟨⟨ht1, by omega, rfl, rfl, h10.mono (by omega) (by omega), rfl, five_sz _ hm, hl, htr, hkd⟩, by simp only [rlM]; omega⟩
  | .h5 t0 t1 t2 b3 b4 b5 b6 b7 b8 b9 b10 b11 b12 b13 l14 b15 b16 b17 b18 l19 l20, hI =>
    obtain ⟨ht1, ht2, rfl, rfl, hc, rfl, hn, hl, htr, hkd⟩ := hI
    have hkl := hkd.1
    have e1 : IntKind.wrap .i64 (0 + 1) = 1 := by decide
    simp only [Bs_l1Cur_rules]
    refine Ok.chk (by omega) (Ok.chk (by omega) (Ok.bind (okPick hc (by omega) 4) fun r3 h3 => Ok.chk (by simp) (Ok.ret ?_)))
    exact ⟨⟨ht1, ht2, rfl, by omega, by omega, h3.2.mono (by omega) (by omega), rfl, hn, hl, htr, hkd, by rw [e1]; rfl⟩, by simp only [rlM]; omega⟩
  | .h6 t0 t1 t2 b3 b4 b5 b6 b7 b8 b9 b10 b11 b12 b13 l14 b15 b16 b17 b18 l19 l20 l21, hI =>
    obtain ⟨ht1, ht2, rfl, ht3, ht4, hc, rfl, hn, hl, htr, hkd, hl2⟩ := hI
    have hkl := hkd.1
    have e1 : IntKind.wrap .i64 (t2 + 1) = t2 + 1 := w64 (by omega)
    have e2 : IntKind.wrap .i64 (t0 + 1) = t0 + 1 := w64 (by omega)
    simp only [Bs_l1Cur_rules]
    refine Ok.ite (fun c => Ok.chk (by omega) (Ok.bind (okPick hc (by omega) 4) fun r3 h3 => Ok.chk (by simp; omega) (Ok.ret ?_))) fun c => Ok.chk (by simp; omega) (Ok.ret ?_)
    · exact ⟨⟨ht1, ht2, rfl, by omega, by omega, h3.2.mono (by omega) (by omega), rfl, hn, hl, htr, hkd, by simp; omega⟩, by simp only [rlM]; omega⟩
    · exact ⟨⟨by omega, by omega, hc.mono (by omega) (by omega), rfl, by simp; omega, htr.snoc ⟨hn, by simp only; omega, by simp only; omega⟩, hkd⟩, by simp only [rlM]; omega⟩
theorem okRules {c : Gs_l1Cur} {k : Int} (h : Cu c k) (hk : k + 300 ≤ 1099511627776) : Ok (Ds_l1Cur_rules c) fun r => RlD r.1 ∧ Cu r.2 (k + 300) := by
  unfold Ds_l1Cur_rules
  refine Ok.bind (okPick h (by omega) 3) fun r1 h1 => Ok.bind (okPick h1.2 (by omega) 4) fun r2 h2 => Ok.bind (okPick h2.2 (by omega) 3) fun r3 h3 => Ok.bind (okPick h3.2 (by omega) 2) fun r4 h4 => Ok.bind (okPick h4.2 (by omega) 4) fun r5 h5 => Ok.bind (okPick h5.2 (by omega) 6) fun r6 h6 => Ok.bind (okPick h6.2 (by omega) 2) fun r7 h7 => Ok.bind (okOne h7.2 (by omega) 2) fun r8 h8 => Ok.bind (okPick h8 (by omega) 6) fun r9 h9 => Ok.bind (okPick h9.2 (by omega) 3) fun r10 h10 => Ok.bind (okPick h10.2 (by omega) 3) fun r11 h11 => Ok.bind (okPick h11.2 (by omega) 3) fun r12 h12 => ?_
  rw [w64 (n := 1 + r12.1) (by omega)]
  refine Ok.chk (by omega) (Ok.chk (by simp; omega) ?_)
  refine Ok.bind (okPick h12.2 (by omega) 3) fun r15 h15 => Ok.bind (okPick h15.2 (by omega) 3) fun r16 h16 => Ok.bind (okPick h16.2 (by omega) 8) fun r17 h17 => Ok.bind (okPick h17.2 (by omega) 8) fun r18 h18 => ?_
  refine Ok.mono (okRulesLoop (k := k + 40) (by omega) ?_) fun r hr => ⟨hr.1, hr.2.mono (by omega) (by omega)⟩
  refine ⟨rfl, h18.2.mono (by omega) (by omega), rfl, ⟨?_, ?_⟩, fun x hx => ?_⟩
  · simp; omega
  · simp; omega
  · have := List.mem_of_mem_drop (List.mem_of_mem_take hx)
    simp only [List.mem_cons, List.not_mem_nil, or_false] at this
    rcases this with rfl | rfl | rfl <;> simp only <;> decide
/-- Rules, perhaps spoilt. -/
theorem okAnyRules {c : Gs_l1Cur} {k : Int} (h : Cu c k) (hk : k + 310 ≤ 1099511627776) : Ok (Ds_l1Cur_anyRules c) fun r => RlLen r.1 ∧ (1 ≤ r.1.Kinds.length ∧ r.1.Kinds.length ≤ 30) ∧ Cu r.2 (k + 310) := by
  unfold Ds_l1Cur_anyRules
  refine Ok.bind (okRules h (by omega)) fun r1 h1 => Ok.bind (okPick h1.2 (by omega) 30) fun r2 h2 => ?_
  obtain ⟨hd, _⟩ := h1
  have hc2 := h2.2
  have ht := hd.t
  have hkk := hd.k
  have hl := hd.len
  have fin : ∀ {c'}, Cu c' (k + 300 + 2 + 2) → Cu c' (k + 310) := fun hc => hc.mono (by omega) (by omega)
  have setT : ∀ y : Gi_Terrain, TrLen y → RlLen ⟨List.set r1.1.Terrains (Int.toNat 0) y, r1.1.Kinds, r1.1.Stack, r1.1.River, r1.1.Road, r1.1.Supply, r1.1.Turns⟩ := fun y hy => ⟨by simp only [List.length_set]; omega, fun x hx => by
    rcases List.mem_or_eq_of_mem_set hx with hx | rfl
    · exact hl.ts x hx
    · exact hy, hl.k, hl.ks⟩
  refine Ok.ite (fun _ => ?_) fun _ => Ok.ite (fun _ => ?_) fun _ => Ok.ite (fun _ => ?_) fun _ => Ok.ite (fun _ => ?_) fun _ => Ok.ite (fun _ => ?_) fun _ => Ok.ite (fun _ => ?_) fun _ => Ok.ite (fun _ => ?_) fun _ => ?_
  · refine Ok.get (show 0 < r1.1.Terrains.length by omega) fun x hx hm => ?_
    have := hd.ts x hm
    refine Ok.bind (okAmong hc2 (by omega) _ (by decide)) fun r5 h5 => Ok.get (show 0 < x.Cost.length by omega) fun y hy _ => Ok.ret ⟨setT _ ⟨by simp only; omega, by simp only [List.length_set]; omega⟩, by simp only; omega, fin h5.2⟩
  · refine Ok.bind (okOf hc2 (by omega) _ (by decide)) fun r5 h5 => Ok.get (show 0 < r1.1.Terrains.length by omega) fun x hx hm => ?_
    have := hd.ts x hm
    have hs : r5.1.size ≤ 100 := by
      have := h5.1
      simp only [List.mem_cons, List.not_mem_nil, or_false] at this
      rcases this with e | e | e | e | e <;> rw [e] <;> decide
    exact Ok.ret ⟨setT _ ⟨by simp only; omega, by simp only; omega⟩, by simp only; omega, fin h5.2⟩
  · refine Ok.bind (okAmong hc2 (by omega) _ (by decide)) fun r5 h5 => Ok.get (show 0 < r1.1.Kinds.length by omega) fun x hx hm => Ok.ret ⟨⟨hl.t, hl.ts, by simp only [List.length_set]; omega, fun y hy => ?_⟩, by simp only [List.length_set]; omega, fin h5.2⟩
    rcases List.mem_or_eq_of_mem_set hy with hy | rfl
    · exact hl.ks y hy
    · exact hl.ks x hm
  · refine Ok.get (show 0 < r1.1.Kinds.length by omega) fun x hx hm => Ok.chk (by simp; omega) (Ok.ret ⟨⟨hl.t, hl.ts, by simp; omega, fun y hy => ?_⟩, by simp; omega, hc2.mono (by omega) (by omega)⟩)
    rcases List.mem_append.1 hy with hy | hy
    · exact hl.ks y hy
    · rw [List.mem_singleton.1 hy]; exact hl.ks x hm
  · exact Ok.bind (okAmong hc2 (by omega) _ (by decide)) fun r5 h5 => Ok.ret ⟨⟨hl.t, hl.ts, hl.k, hl.ks⟩, by simp only; omega, fin h5.2⟩
  · exact Ok.bind (okAmong hc2 (by omega) _ (by decide)) fun r5 h5 => Ok.ret ⟨⟨hl.t, hl.ts, hl.k, hl.ks⟩, by simp only; omega, fin h5.2⟩
  · refine Ok.bind (okAmong hc2 (by omega) _ (by decide)) fun r5 h5 => Ok.get (show 0 < r1.1.Terrains.length by omega) fun x hx hm => ?_
    have := hd.ts x hm
    exact Ok.ret ⟨setT _ ⟨by simp only; omega, by simp only; omega⟩, by simp only; omega, fin h5.2⟩
  · exact Ok.ret ⟨hl, by simp only; omega, hc2.mono (by omega) (by omega)⟩
theorem okEdges {m : Gi_Map} (hd : MpDim m 10) {c : Gs_l1Cur} {k : Int} (h : Cu c k) (hk : k + 40 ≤ 1099511627776) : Ok (Ds_l1Cur_edges c m) fun r => r.1.length ≤ 100 ∧ Cu r.2 (k + 40) := by
  obtain ⟨l, c', e, h1, h2⟩ := cuEdges hd h hk
  exact ⟨_, e, h2, h1⟩
def mpI (k T W H : Int) : Ss_l1Cur_mapOf → Prop
  | .h1 t i b2 _ _ b5 b6 => t = T ∧ i = 0 ∧ Cu b2 k ∧ b5 = W ∧ b6 = H
  | .h2 t i b2 _ _ b5 b6 l7 => t = T ∧ 1 ≤ i ∧ i ≤ W * H ∧ Cu b2 (k + 4 * i) ∧ b5 = W ∧ b6 = H ∧ (l7.length : Int) = i
def mpM (W H : Int) : Ss_l1Cur_mapOf → Nat
  | .h1 .. => 1000
  | .h2 _ i .. => (W * H - i).toNat
theorem okMapLoop {k T W H : Int} (hd : MpDim ⟨W, H, [], [], []⟩ 10) (hk : k + 1000 ≤ 1099511627776) : ∀ {s}, mpI k T W H s → Ok (loop Bs_l1Cur_mapOf s) fun r => MpDrawn r.1 ∧ Cu r.2 (k + 600) := by
  have hs := mpSize hd
  simp only at hs
  have hS : ∀ l : List Int, Ds_mSize ⟨W, H, l, [], []⟩ = some (W * H) := fun l => mSize_s (m := ⟨W, H, l, [], []⟩) (b := 10) hd (by decide)
  intro s0 h0
  refine Ok.loop (mpI k T W H) (mpM W H) (fun s hI => ?_) h0
  match s, hI with
  | .h1 t i b2 b3 b4 b5 b6, hI =>
    obtain ⟨rfl, rfl, hc, rfl, rfl⟩ := hI
    simp only [Bs_l1Cur_mapOf]
    refine Ok.eq (hS []) (Ok.chk (by omega) (Ok.bind (okOne hc (by omega) 3) fun r3 h3 => Ok.ite (fun _ => Ok.bind (okPick h3 (by omega) _) fun r5 h5 => Ok.chk (by simp) (Ok.ret ?_)) fun _ => Ok.chk (by simp) (Ok.ret ?_)))
    · exact ⟨⟨rfl, by decide, by rw [show IntKind.wrap .i64 (0 + 1) = 1 from by decide]; omega, h5.2.mono (by rw [show IntKind.wrap .i64 (0 + 1) = 1 from by decide]; omega) (by rw [show IntKind.wrap .i64 (0 + 1) = 1 from by decide]; omega), rfl, rfl, rfl⟩, by simp only [mpM]; rw [show IntKind.wrap .i64 (0 + 1) = 1 from by decide]; omega⟩
    · exact ⟨⟨rfl, by decide, by rw [show IntKind.wrap .i64 (0 + 1) = 1 from by decide]; omega, h3.mono (by rw [show IntKind.wrap .i64 (0 + 1) = 1 from by decide]; omega) (by rw [show IntKind.wrap .i64 (0 + 1) = 1 from by decide]; omega), rfl, rfl, rfl⟩, by simp only [mpM]; rw [show IntKind.wrap .i64 (0 + 1) = 1 from by decide]; omega⟩
  | .h2 t i b2 b3 b4 b5 b6 l7, hI =>
    obtain ⟨rfl, hi1, hi2, hc, rfl, rfl, hl⟩ := hI
    simp only [Bs_l1Cur_mapOf]
    refine Ok.eq (hS l7) (Ok.ite (fun cc => ?_) fun cc => ?_)
    · have e : IntKind.wrap .i64 (i + 1) = i + 1 := w64 (by omega)
      refine Ok.bind (okOne hc (by omega) 3) fun r3 h3 => Ok.ite (fun _ => Ok.bind (okPick h3 (by omega) _) fun r5 h5 => Ok.chk (by simp; omega) (Ok.ret ?_)) fun _ => Ok.chk (by simp; omega) (Ok.ret ?_)
      · exact ⟨⟨rfl, by omega, by omega, h5.2.mono (by omega) (by omega), rfl, rfl, by simp; omega⟩, by simp only [mpM]; omega⟩
      · exact ⟨⟨rfl, by omega, by omega, h3.mono (by omega) (by omega), rfl, rfl, by simp; omega⟩, by simp only [mpM]; omega⟩
    · have hd1 : MpDim ⟨b5, b6, l7, [], []⟩ 10 := hd
      refine Ok.bind (okEdges hd1 hc (by omega)) fun r3 h3 => ?_
      have hd2 : MpDim ⟨b5, b6, l7, r3.1, []⟩ 10 := hd
      exact Ok.bind (okEdges hd2 h3.2 (by omega)) fun r4 h4 => Ok.ret ⟨⟨hd, by simp only; omega, by simp only; omega, h3.1, h4.1⟩, h4.2.mono (by omega) (by omega)⟩
theorem okMapOf {c : Gs_l1Cur} {k : Int} (h : Cu c k) (hk : k + 1100 ≤ 1099511627776) (T : Int) : Ok (Ds_l1Cur_mapOf c T) fun r => MpDrawn r.1 ∧ Cu r.2 (k + 700) := by
  unfold Ds_l1Cur_mapOf
  refine Ok.bind (okPick h (by omega) 6) fun r1 h1 => Ok.bind (okPick h1.2 (by omega) 6) fun r2 h2 => ?_
  have v1 := h1.1.2.1 (by omega)
  have v2 := h2.1.2.1 (by omega)
  rw [w64 (n := 1 + r1.1) (by omega), w64 (n := 1 + r2.1) (by omega)]
  refine Ok.mono (okMapLoop (k := k + 4) (T := T) (W := 1 + r1.1) (H := 1 + r2.1) ?_ (by omega) ?_) fun r hr => ⟨hr.1, hr.2.mono (by omega) (by omega)⟩
  · unfold MpDim; simp only; omega
  · exact ⟨rfl, rfl, h2.2.mono (by omega) (by omega), rfl, rfl⟩
theorem MpDrawn.len {m : Gi_Map} (h : MpDrawn m) : MpLen m := by
  have := h.t2
  have := h.r
  have := h.o
  exact ⟨by omega, by omega, by omega⟩
theorem okAnyMap {c : Gs_l1Cur} {k : Int} (h : Cu c k) (hk : k + 1100 ≤ 1099511627776) : Ok (Ds_l1Cur_anyMap c) fun r => MpLen r.1 ∧ Cu r.2 (k + 1100) := by
  obtain ⟨m, c', e, h1, h2⟩ := cuAnyMap h hk
  exact ⟨_, e, h2, h1⟩
/-- A board, as drawn. -/
structure BdD (b : Gi_Board) : Prop where
  len : BdLen b
  k : 1 ≤ b.Rules.Kinds.length ∧ b.Rules.Kinds.length ≤ 30
theorem okBoard {c : Gs_l1Cur} {k : Int} (h : Cu c k) (hk : k + 1500 ≤ 1099511627776) : Ok (Ds_l1Cur_board c) fun r => BdD r.1 ∧ Cu r.2 (k + 1000) := by
  unfold Ds_l1Cur_board
  refine Ok.bind (okRules h (by omega)) fun r1 h1 => Ok.bind (okMapOf h1.2 (by omega) _) fun r2 h2 => Ok.ret ⟨⟨⟨h1.1.len, h2.1.len⟩, ?_⟩, h2.2.mono (by omega) (by omega)⟩
  have := h1.1.k
  simp only
  omega
theorem okAnyBoard {c : Gs_l1Cur} {k : Int} (h : Cu c k) (hk : k + 2500 ≤ 1099511627776) : Ok (Ds_l1Cur_anyBoard c) fun r => BdD r.1 ∧ Cu r.2 (k + 2500) := by
  unfold Ds_l1Cur_anyBoard
  refine Ok.bind (okBoard h (by omega)) fun r1 h1 => Ok.bind (okPick h1.2 (by omega) 24) fun r2 h2 => Ok.ite (fun _ => ?_) fun _ => Ok.ite (fun _ => ?_) fun _ => ?_
  · exact Ok.bind (okAnyRules h2.2 (by omega)) fun r4 h4 => Ok.ret ⟨⟨⟨h4.1, h1.1.len.m⟩, h4.2.1⟩, h4.2.2.mono (by omega) (by omega)⟩
  · exact Ok.bind (okAnyMap h2.2 (by omega)) fun r4 h4 => Ok.ret ⟨⟨⟨h1.1.len.r, h4.1⟩, h1.1.k⟩, h4.2.mono (by omega) (by omega)⟩
  · exact Ok.ret ⟨h1.1, h2.2.mono (by omega) (by omega)⟩
theorem okPlace {c : Gs_l1Cur} {k : Int} (h : Cu c k) (hk : k + 4 ≤ 1099511627776) (m : Gi_Map) : Ok (Ds_l1Cur_place c m) fun r => Cu r.2 (k + 4) := by
  obtain ⟨v, c', e, h1⟩ := cuPlace h hk m
  exact ⟨_, e, h1⟩
theorem okKindOf {c : Gs_l1Cur} {k : Int} (h : Cu c k) (hk : k + 6 ≤ 1099511627776) (b : Gi_Board) : Ok (Ds_l1Cur_kindOf c b) fun r => Cu r.2 (k + 6) := by
  unfold Ds_l1Cur_kindOf
  exact Ok.bind (okPick h (by omega) 16) fun r1 h1 => Ok.bind (okPick h1.2 (by omega) _) fun r2 h2 => Ok.bind (okPick h2.2 (by omega) 20) fun r3 h3 => Ok.ret (h3.2.mono (by omega) (by omega))

theorem rsB_iff {l : List Int} : ∀ (n i : Nat), 1 ≤ i → (rsB l n i = true ↔ ∀ j x y, i ≤ j → j < i + n → l[j - 1]? = some x → l[j]? = some y → x < y)
  | 0, i, _ => by
    simp only [rsB, true_iff]
    intro j x y h1 h2
    omega
  | n + 1, i, h => by
    rw [rsB, Bool.and_eq_true, rsB_iff n (i + 1) (by omega)]
    constructor
    · rintro ⟨h1, h2⟩ j x y hj1 hj2 hx hy
      by_cases e : j = i
      · subst e
        rw [hx, hy] at h1
        simpa using h1
      · exact h2 j x y (by omega) (by omega) hx hy
    · intro k
      refine ⟨?_, fun j x y hj1 hj2 => k j x y (by omega) (by omega)⟩
      cases hx : l[i - 1]? with
      | none => rfl
      | some x =>
        cases hy : l[i]? with
        | none => rfl
        | some y => simpa using k i x y (Nat.le_refl _) (by omega) hx hy
theorem rising_iff {l : List Int} : rising l = true ↔ ∀ j x y, 1 ≤ j → l[j - 1]? = some x → l[j]? = some y → x < y := by
  unfold rising
  rw [rsB_iff _ _ (Nat.le_refl _)]
  constructor
  · intro k j x y h1 hx hy
    have := (List.getElem?_eq_some_iff.1 hy).1
    exact k j x y h1 (by omega) hx hy
  · intro k j x y h1 _ hx hy
    exact k j x y h1 hx hy
theorem rise_g {l : List Int} (hl : l.length ≤ 2000000) (lo hi : Int) : Ds_l1Rising l lo hi = some (rising l && alli (fun _ x => kIn x lo hi) l) := by
  have key := all_goL (L := loop Bs_l1Rising) (S := fun i => .h1 l lo hi l (l.length : Int) (i : Int)) (l := l) (q := fun i x => kIn x lo hi && (decide (i = 0) || match l[i - 1]? with | some p => decide (p < x) | none => false)) (f := false) (r := some true) (fun i x hx hi' _ => by
      rw [loop_eq]
      simp only [Bs_l1Rising, ltc hi', nnc, if_true, Int.toNat_natCast, hx, Option.bind_some, kin_s, wsucc (show i < 9223372036854775807 by omega)]
      have b1 := Bool.eq_false_or_eq_true (kIn x lo hi)
      rcases b1 with b1 | b1
      · rcases Nat.eq_zero_or_pos i with z | z
        · subst z
          simp [b1, goOn]
        · have hp : l[i - 1]? = some l[i - 1] := List.getElem?_eq_getElem (by omega)
          rw [wpred (by omega) z, Int.toNat_natCast, hp, if_pos (show (i : Int) > 0 by omega), if_pos (show (0 : Int) ≤ ((i - 1 : Nat) : Int) by omega)]
          by_cases c : l[i - 1] ≥ x
          · have : ¬ l[i - 1] < x := by omega
            simp [b1, c, this, goOn, show i ≠ 0 by omega]
          · have : l[i - 1] < x := by omega
            simp [b1, c, this, goOn]
      · simp [b1, goOn]) fun _ => by
      rw [loop_eq]
      simp only [Bs_l1Rising, nltc, if_false, goOn]
  unfold Ds_l1Rising
  refine key.trans ?_
  rw [ifB, Option.some.injEq, Bool.eq_iff_iff, alli_iff, Bool.and_eq_true, rising_iff, alli_iff]
  constructor
  · intro k
    refine ⟨fun j x y h1 hx hy => ?_, fun i x hx => ?_⟩
    · have := k j y hy
      simp only [Bool.and_eq_true, Bool.or_eq_true, decide_eq_true_eq, hx] at this
      rcases this.2 with e | e
      · omega
      · exact e
    · have := k i x hx
      simp only [Bool.and_eq_true] at this
      exact this.1
  · rintro ⟨k1, k2⟩ i x hx
    rw [Bool.and_eq_true]
    refine ⟨k2 i x hx, ?_⟩
    rcases Nat.eq_zero_or_pos i with z | z
    · simp [z]
    · have hlt := (List.getElem?_eq_some_iff.1 hx).1
      have hp : l[i - 1]? = some l[i - 1] := List.getElem?_eq_getElem (by omega)
      rw [hp]
      simp [k1 i _ x z hp hx]
theorem Ok.isTrue {o : Option Bool} (h : Ok o fun r => r = true) : o = some true := by
  obtain ⟨a, e, rfl⟩ := h
  exact e
theorem Ok.is {α : Type} {o : Option α} {a : α} (h : Ok o fun r => r = a) : o = some a := by
  obtain ⟨a, e, rfl⟩ := h
  exact e
theorem map_goL {σ α ρ : Type} {L : σ → Option ρ} {S : Nat → List α → σ} {l : List α} {g : α → α} {r : List α → Option ρ}
    (hs : ∀ i x m, l[i]? = some x → i < m.length → m.length = l.length → m[i]? = some x → L (S i m) = L (S (i + 1) (m.set i (g x)))) (he : ∀ m, m.length = l.length → L (S l.length m) = r m) : L (S 0 l) = r (l.map g) := by
  have key : ∀ (k i : Nat), i + k = l.length → L (S i ((l.take i).map g ++ l.drop i)) = r (l.map g) := by
    intro k
    induction k with
    | zero =>
      intro i h
      have : i = l.length := by omega
      subst this
      rw [List.take_length, List.drop_length, List.append_nil, he _ (by simp)]
    | succ k ih =>
      intro i h
      have hlt : i < l.length := by omega
      have hx := List.getElem?_eq_getElem hlt
      have hli : ((l.take i).map g).length = i := by simp; omega
      have hm : ((l.take i).map g ++ l.drop i)[i]? = some l[i] := by
        rw [List.getElem?_append_right (by omega), hli, Nat.sub_self, List.getElem?_drop]
        exact hx
      have hll : ((l.take i).map g ++ l.drop i).length = l.length := by rw [List.length_append, hli, List.length_drop]; omega
      rw [hs i l[i] _ hx (by omega) hll hm]
      have e : List.set ((l.take i).map g ++ l.drop i) i (g l[i]) = (l.take (i + 1)).map g ++ l.drop (i + 1) := by
        rw [List.set_append_right _ _ (by omega), hli, Nat.sub_self, List.drop_eq_getElem_cons hlt, List.set_cons_zero, List.take_add_one, hx, List.map_append]
        simp
      rw [e]
      exact ih (i + 1) (by omega)
  simpa using key l.length 0 (by omega)
theorem bdG_mp {b : Gi_Board} (h : bdG b = true) : mpGood b.Map = true := by
  simp only [bdG, Bool.and_eq_true] at h
  exact h.1.2
/-- A valid board of a size that a machine holds. -/
structure BdV (b : Gi_Board) : Prop where
  l : BdLen b
  g : bdG b = true
theorem BdV.ok {b : Gi_Board} (h : BdV b) : BdOk b := bdG_ok h.g
theorem BdV.on {b : Gi_Board} (h : BdV b) {i : Int} (hi : 0 ≤ i ∧ i < b.Map.Terrain.length) : mpOn b.Map i = true := mpOn_iff.2 ⟨bdG_mp h.g, hi.1, by have := h.ok.n; omega⟩
theorem BdV.next {b : Gi_Board} (h : BdV b) {i d : Int} (hi : 0 ≤ i ∧ i < b.Map.Terrain.length) (hd : 0 ≤ d ∧ d < 6) : Di_nextTo b.Map i d = some (mpNext b.Map i d) ∧ Ds_mNext b.Map i d = some (mpNext b.Map i d) := next_b h.ok.d100 ⟨hi.1, by have := h.ok.n2; omega⟩ hd
theorem BdV.nlt {b : Gi_Board} (h : BdV b) {i d : Int} (hk : 0 ≤ mpNext b.Map i d) : mpNext b.Map i d < b.Map.Terrain.length := by
  have := (mpNext_lt hk).1
  have := h.ok.n
  omega
theorem edge_BdV {b : Gi_Board} (h : BdV b) {i d : Int} (hi : 0 ≤ i ∧ i < b.Map.Terrain.length) (hd : 0 ≤ d ∧ d < 6) (hk : 0 ≤ mpNext b.Map i d) : Di_edgeOf b.Map i d = some (mpEdge b.Map i d) ∧ Ds_mEdge b.Map i d = some (mpEdge b.Map i d) := edge_b (mpPair_iff.2 ⟨h.on hi, hd, hk⟩)
def negN (l : List Int) : Nat := (l.filter fun x => decide (x < 0)).length
theorem negN_le (l : List Int) : negN l ≤ l.length := List.length_filter_le _ _
theorem negN_set : ∀ {l : List Int} {i : Nat} {o v : Int}, l[i]? = some o → o < 0 → 0 ≤ v → negN (l.set i v) + 1 = negN l
  | [], i, o, v, h, _, _ => by simp at h
  | x :: l, 0, o, v, h, ho, hv => by
    simp only [List.getElem?_cons_zero, Option.some.injEq] at h
    subst h
    have : ¬ v < 0 := by omega
    simp [negN, ho, this]
  | x :: l, i + 1, o, v, h, ho, hv => by
    have ih := negN_set (l := l) (i := i) (by simpa using h) ho hv
    unfold negN at ih ⊢
    rw [List.set_cons_succ, List.filter_cons, List.filter_cons]
    split
    · simp only [List.length_cons]; omega
    · exact ih
theorem negN_set0 : ∀ {l : List Int} {i : Nat} {v : Int}, 0 ≤ v → negN (l.set i v) ≤ negN l
  | [], i, v, _ => by simp
  | x :: l, 0, v, hv => by
    have : ¬ v < 0 := by omega
    simp only [List.set_cons_zero, negN, List.filter_cons, decide_eq_true_eq, this, if_false]
    split <;> simp
  | x :: l, i + 1, v, hv => by
    have ih := negN_set0 (l := l) (i := i) hv
    unfold negN at ih ⊢
    rw [List.set_cons_succ, List.filter_cons, List.filter_cons]
    split
    · simp only [List.length_cons]; omega
    · exact ih
/-- -1 everywhere. -/
theorem neg_goL {ρ : Type} {L : Nat → List Int → Option ρ} {n : Nat} {r : List Int → Option ρ}
    (hs : ∀ i (m : List Int), i < n → m.length = n → L i m = L (i + 1) (m.set i (-1))) (he : ∀ m : List Int, m.length = n → L n m = r m) : L 0 (List.replicate n 0) = r (List.replicate n (-1)) := by
  have := map_goL (L := fun s : Nat × List Int => L s.1 s.2) (S := fun i m => (i, m)) (l := List.replicate n (0 : Int)) (g := fun _ => -1) (r := r) (fun i x m hx hi hm _ => hs i m (by rw [List.length_replicate] at hm; omega) (by rw [List.length_replicate] at hm; exact hm)) (fun m hm => by
    rw [List.length_replicate] at hm ⊢
    exact he m hm)
  rw [List.map_replicate] at this
  exact this
theorem eQHas {l : List Int} (hl : l.length ≤ 2000000) (e : Int) : Dw_qHas l e = some (hasB l e) := by
  have key : ∀ (n i : Nat), i + n = l.length → loop Bw_qHas (.h1 e l (l.length : Int) (i : Int)) = some (hasB (l.drop i) e) := by
    intro n
    induction n with
    | zero =>
      intro i h
      rw [loop_eq]
      have : i = l.length := by omega
      subst this
      simp [Bw_qHas, goOn, hasB]
    | succ n ih =>
      intro i h
      have hlt : i < l.length := by omega
      rw [loop_eq, List.drop_eq_getElem_cons hlt]
      have := ih (i + 1) (by omega)
      by_cases c : l[i] = e
      · simp [Bw_qHas, hlt, c, goOn, hasB]
      · simp only [Bw_qHas, ltc hlt, nnc, if_true, Int.toNat_natCast, List.getElem?_eq_getElem hlt, Option.bind_some, c, if_false, goOn, wsucc (show i < 9223372036854775807 by omega), this]
        simp only [hasB, List.any_cons, c, decide_false, Bool.false_or]
  have := key l.length 0 (by omega)
  simpa [Dw_qHas] using this
theorem hasB_iff {l : List Int} {e : Int} : hasB l e = true ↔ e ∈ l := by
  unfold hasB
  rw [List.any_eq_true]
  constructor
  · rintro ⟨x, hx, h⟩; rw [← of_decide_eq_true h]; exact hx
  · intro h; exact ⟨e, h, decide_eq_true rfl⟩
def mvG (b : Gi_Board) (k w i : Int) : Bool := bdG b && kIn k 0 (b.Rules.Kinds.length - 1) && kIn w 0 2 && kIn i 0 (b.Map.Terrain.length - 1)
structure MvOk (b : Gi_Board) (k w i : Int) : Prop where
  v : BdV b
  k : 0 ≤ k ∧ k < b.Rules.Kinds.length
  w : w = 0 ∨ w = 1 ∨ w = 2
  i : 0 ≤ i ∧ i < b.Map.Terrain.length
theorem mvG_ok {b : Gi_Board} (hb : BdLen b) {k w i : Int} (h : mvG b k w i = true) : MvOk b k w i := by
  simp only [mvG, Bool.and_eq_true, kIn_iff] at h
  exact ⟨⟨hb, h.1.1.1⟩, by omega, by omega, by omega⟩
theorem mover_i {b : Gi_Board} (hb : BdLen b) (k w i : Int) : Di_isMover b k w i = some (mvG b k w i) := by
  unfold Di_isMover Di_isKindOf mvG Di_isWeather Di_sizeOf
  rw [isBoard_i hb, Option.bind_some]
  by_cases c : bdG b = true
  · have ho := bdG_ok c
    have h1 := ho.n2
    have h2 := ho.r.k
    rw [if_pos c, c, isIndex_i (by omega), kin_i]
    simp only [Option.bind_some, Bool.true_and, isIndex_i (x := i) (n := (b.Map.Terrain.length : Int)) (by omega)]
    cases kIn k 0 (b.Rules.Kinds.length - 1) <;> cases kIn w 0 2 <;> simp
  · rw [if_neg c]
    simp only [Bool.not_eq_true] at c
    rw [c]; rfl
def wRd (w : Int) : Int := if w = 2 then 1 else 0
def stC (b : Gi_Board) (k w i d : Int) : Int :=
  if mpNext b.Map i d < 0 then 0 else if bdC b k (mpNext b.Map i d) = 0 then 0 else if hasB b.Map.Roads (mpEdge b.Map i d) = true then b.Rules.Road + wRd w
  else if hasB b.Map.Rivers (mpEdge b.Map i d) = true then bdC b k (mpNext b.Map i d) + w + b.Rules.River else bdC b k (mpNext b.Map i d) + w
theorem wRoad {w : Int} (h : w = 0 ∨ w = 1 ∨ w = 2) : Di_weatherCost w true = some (wRd w) ∧ Ds_csWeather w true = some (wRd w) := by
  rcases h with rfl | rfl | rfl <;> exact ⟨by simp only [Di_weatherCost, wRd]; decide, by simp only [Ds_csWeather, wRd]; decide⟩
theorem stC_b {b : Gi_Board} {k w i d : Int} (h : MvOk b k w i) : 0 ≤ stC b k w i d ∧ stC b k w i d ≤ 20 := by
  obtain ⟨e1, e2, e3, e4, e5⟩ := h.v.ok.r.e
  have hw := h.w
  have hr : 0 ≤ wRd w ∧ wRd w ≤ 1 := by unfold wRd; split <;> omega
  unfold stC
  by_cases c : mpNext b.Map i d < 0
  · rw [if_pos c]; omega
  · obtain ⟨_, _, g1, g2⟩ := bdC_b h.v.ok (k := k) (i := mpNext b.Map i d) h.k ⟨by omega, h.v.nlt (by omega)⟩
    rw [if_neg c]
    split
    · omega
    · split
      · omega
      · split <;> omega
theorem stC_n {b : Gi_Board} {k w i d : Int} (h : stC b k w i d ≠ 0) : 0 ≤ mpNext b.Map i d := by
  unfold stC at h
  by_cases c : mpNext b.Map i d < 0
  · rw [if_pos c] at h; exact absurd rfl h
  · omega
theorem stepCost_i {b : Gi_Board} {k w i : Int} (h : MvOk b k w i) {d : Int} (hd : 0 ≤ d ∧ d < 6) : Di_stepCost b k w i d = some (stC b k w i d) := by
  obtain ⟨e1, e2, e3, e4, e5⟩ := h.v.ok.r.e
  have hw := h.w
  have hr : 0 ≤ wRd w ∧ wRd w ≤ 1 := by unfold wRd; split <;> omega
  unfold Di_stepCost stC
  rw [(h.v.next h.i hd).1, Option.bind_some]
  by_cases c : mpNext b.Map i d < 0
  · rw [if_pos c, if_pos c]
  · obtain ⟨g0, _, g1, g2⟩ := bdC_b h.v.ok (k := k) (i := mpNext b.Map i d) h.k ⟨by omega, h.v.nlt (by omega)⟩
    rw [if_neg c, if_neg c, g0, Option.bind_some]
    by_cases c2 : bdC b k (mpNext b.Map i d) = 0
    · rw [if_pos c2, if_pos c2]
    · rw [if_neg c2, if_neg c2, (edge_BdV h.v h.i hd (by omega)).1, Option.bind_some, contains_i h.v.l.m.2.2, Option.bind_some, (wRoad hw).1, contains_i h.v.l.m.2.1]
      simp only [Option.bind_some, Di_weatherCost]
      rw [w64 (by omega), w64 (n := bdC b k (mpNext b.Map i d) + w) (by omega), w64 (by omega)]
      split
      · rfl
      · split <;> rfl
theorem cStep_s {b : Gi_Board} {k w i : Int} (h : MvOk b k w i) {d : Int} (hd : 0 ≤ d ∧ d < 6) : Ds_cStep b k i d w = some (stC b k w i d) := by
  obtain ⟨e1, e2, e3, e4, e5⟩ := h.v.ok.r.e
  have hw := h.w
  have hr : 0 ≤ wRd w ∧ wRd w ≤ 1 := by unfold wRd; split <;> omega
  unfold Ds_cStep stC
  rw [(h.v.next h.i hd).2, Option.bind_some]
  by_cases c : mpNext b.Map i d < 0
  · rw [if_pos c, if_pos c]
  · obtain ⟨_, g0, g1, g2⟩ := bdC_b h.v.ok (k := k) (i := mpNext b.Map i d) h.k ⟨by omega, h.v.nlt (by omega)⟩
    rw [if_neg c, if_neg c, g0, Option.bind_some]
    by_cases c2 : bdC b k (mpNext b.Map i d) = 0
    · rw [if_pos c2, if_pos c2]
    · unfold Ds_mRoad Ds_mRiver
      rw [if_neg c2, if_neg c2, (edge_BdV h.v h.i hd (by omega)).2, Option.bind_some, has_s h.v.l.m.2.2, Option.bind_some, Option.bind_some, (wRoad hw).2, Option.bind_some]
      simp only [Option.bind_some, Ds_csWeather, has_s h.v.l.m.2.1]
      rw [w64 (by omega), w64 (n := bdC b k (mpNext b.Map i d) + w) (by omega), w64 (by omega)]
      split
      · rfl
      · split <;> rfl
theorem MvOk.next {b : Gi_Board} {k w i : Int} (h : MvOk b k w i) {d : Int} (hn : 0 ≤ mpNext b.Map i d) : MvOk b k w (mpNext b.Map i d) := ⟨h.v, h.k, h.w, hn, h.v.nlt hn⟩
def r6 (d : Int) : Int := Int.tmod (d + 3) 6
theorem BdV.d100' {b : Gi_Board} (h : BdV b) : MpDim b.Map 100 := by
  have := h.ok.d
  unfold MpDim at this ⊢
  omega
/-- A way over the steps, with what it makes of the label. -/
inductive Wk (en : Nat → Nat → Bool) (tg : Nat → Nat → Int) (f : Nat → Nat → Int → Int) (s : Nat) (l0 : Int) : Nat → Int → Prop
  | nil : Wk en tg f s l0 s l0
  | step {k d : Nat} {l : Int} : Wk en tg f s l0 k l → d < 6 → en k d = true → Wk en tg f s l0 (tg k d).toNat (f k d l)
structure Gr (n : Nat) (en : Nat → Nat → Bool) (tg : Nat → Nat → Int) (f : Nat → Nat → Int → Int) : Prop where
  h100 : n ≤ 100
  t : ∀ k d, k < n → d < 6 → en k d = true → 0 ≤ tg k d ∧ tg k d < n ∧ (tg k d).toNat ≠ k
  b : ∀ k d x, k < n → d < 6 → en k d = true → 0 ≤ x → x < f k d x ∧ f k d x ≤ x + 1100
  m : ∀ k d x y, k < n → d < 6 → en k d = true → 0 ≤ x → x ≤ y → f k d x ≤ f k d y
def ClAt (en : Nat → Nat → Bool) (tg : Nat → Nat → Int) (f : Nat → Nat → Int → Int) (D : List Int) (k d : Nat) : Prop :=
  ∀ x, D[k]? = some x → 0 ≤ x → en k d = true → ∃ y, D[(tg k d).toNat]? = some y ∧ 0 ≤ y ∧ y ≤ f k d x
def Clo (n : Nat) (en : Nat → Nat → Bool) (tg : Nat → Nat → Int) (f : Nat → Nat → Int → Int) (D : List Int) : Prop := ∀ k d, k < n → d < 6 → ClAt en tg f D k d
structure RxS (n : Nat) (en : Nat → Nat → Bool) (tg : Nat → Nat → Int) (f : Nat → Nat → Int → Int) (s : Nat) (l0 : Int) (D : List Int) : Prop where
  len : D.length = n
  real : ∀ k x, D[k]? = some x → x = -1 ∨ 0 ≤ x ∧ Wk en tg f s l0 k x
  src : ∃ x, D[s]? = some x ∧ 0 ≤ x ∧ x ≤ l0
  bd : ∀ x ∈ D, x ≤ 10 + 1100 * ((n : Int) - negN D)
theorem Wk.low {n : Nat} {en : Nat → Nat → Bool} {tg : Nat → Nat → Int} {f : Nat → Nat → Int → Int} {s : Nat} {l0 : Int} (G : Gr n en tg f) {D : List Int} (h : D.length = n) (hs : ∃ x, D[s]? = some x ∧ 0 ≤ x ∧ x ≤ l0) (hc : Clo n en tg f D) {k : Nat} {l : Int} (w : Wk en tg f s l0 k l) : ∃ y, D[k]? = some y ∧ 0 ≤ y ∧ y ≤ l := by
  induction w with
  | nil => exact hs
  | step _ hd he ih =>
    obtain ⟨y, h1, h2, h3⟩ := ih
    have hk := (List.getElem?_eq_some_iff.1 h1).1
    rw [h] at hk
    obtain ⟨z, g1, g2, g3⟩ := hc _ _ hk hd y h1 h2 he
    exact ⟨z, g1, g2, Int.le_trans g3 (G.m _ _ _ _ hk hd he h2 h3)⟩
theorem RxS.uniq {n : Nat} {en : Nat → Nat → Bool} {tg : Nat → Nat → Int} {f : Nat → Nat → Int → Int} {s : Nat} {l0 : Int} (G : Gr n en tg f) {D D' : List Int} (h : RxS n en tg f s l0 D) (hc : Clo n en tg f D) (h' : RxS n en tg f s l0 D') (hc' : Clo n en tg f D') : D = D' := by
  refine List.ext_getElem? fun k => ?_
  by_cases hk : k < n
  · have e1 : D[k]? = some (D[k]'(by rw [h.len]; exact hk)) := List.getElem?_eq_getElem _
    have e2 : D'[k]? = some (D'[k]'(by rw [h'.len]; exact hk)) := List.getElem?_eq_getElem _
    generalize D[k]'(by rw [h.len]; exact hk) = x at e1
    generalize D'[k]'(by rw [h'.len]; exact hk) = y at e2
    rw [e1, e2]
    congr 1
    rcases h.real k x e1 with rfl | ⟨hx, w⟩
    · rcases h'.real k y e2 with rfl | ⟨hy, w'⟩
      · rfl
      · obtain ⟨z, g1, g2, _⟩ := w'.low G h.len h.src hc
        rw [e1] at g1
        cases g1
        omega
    · obtain ⟨z, g1, g2, g3⟩ := w.low G h'.len h'.src hc'
      rw [e2] at g1
      cases g1
      rcases h'.real k y e2 with rfl | ⟨hy, w'⟩
      · omega
      · obtain ⟨z, k1, k2, k3⟩ := w'.low G h.len h.src hc
        rw [e1] at k1
        cases k1
        omega
  · rw [List.getElem?_eq_none (by rw [h.len]; omega), List.getElem?_eq_none (by rw [h'.len]; omega)]
def phi : List Int → Nat
  | [] => 0
  | y :: l => (if y < 0 then 200000 else y.toNat) + phi l
theorem phi_set : ∀ {D : List Int} {i : Nat} {y v : Int}, D[i]? = some y → phi (D.set i v) + (if y < 0 then 200000 else y.toNat) = phi D + (if v < 0 then 200000 else v.toNat)
  | [], i, y, v, h => by simp at h
  | x :: l, 0, y, v, h => by
    simp only [List.getElem?_cons_zero, Option.some.injEq] at h
    subst h
    simp only [List.set_cons_zero, phi]
    omega
  | x :: l, i + 1, y, v, h => by
    have ih := phi_set (D := l) (i := i) (y := y) (v := v) (by simpa using h)
    simp only [List.set_cons_succ, phi]
    omega
theorem RxS.le {n : Nat} {en : Nat → Nat → Bool} {tg : Nat → Nat → Int} {f : Nat → Nat → Int → Int} {s : Nat} {l0 : Int} {D : List Int} (h : RxS n en tg f s l0 D) (hn : n ≤ 100) {x : Int} (hx : x ∈ D) : x ≤ 110010 := by
  have := h.bd x hx
  omega
theorem RxS.set {n : Nat} {en : Nat → Nat → Bool} {tg : Nat → Nat → Int} {f : Nat → Nat → Int → Int} {s : Nat} {l0 : Int} (G : Gr n en tg f) {D : List Int} (h : RxS n en tg f s l0 D) {k d : Nat} {x y : Int} (hk : D[k]? = some x) (hx : 0 ≤ x) (hd : d < 6) (he : en k d = true) (ht : D[(tg k d).toNat]? = some y) (hy : y < 0 ∨ f k d x < y) :
    RxS n en tg f s l0 (D.set (tg k d).toNat (f k d x)) ∧ phi (D.set (tg k d).toNat (f k d x)) < phi D := by
  have hkn : k < n := by rw [← h.len]; exact (List.getElem?_eq_some_iff.1 hk).1
  obtain ⟨b1, b2⟩ := G.b k d x hkn hd he hx
  have hn := G.h100
  have hxb := h.bd x (List.mem_of_getElem? hk)
  have hyb := h.bd y (List.mem_of_getElem? ht)
  have hnl := negN_le D
  have hlen := h.len
  refine ⟨⟨by simpa using h.len, fun j z hz => ?_, ?_, fun z hz => ?_⟩, ?_⟩
  · rw [List.getElem?_set] at hz
    split at hz
    · rename_i e
      split at hz
      · cases hz
        subst e
        refine .inr ⟨by omega, ?_⟩
        rcases h.real k x hk with e | ⟨_, w⟩
        · omega
        · exact .step w hd he
      · cases hz
    · exact h.real j z hz
  · obtain ⟨x0, h1, h2, h3⟩ := h.src
    by_cases e : (tg k d).toNat = s
    · rw [e] at ht ⊢
      rw [h1] at ht
      cases ht
      refine ⟨f k d x, ?_, by omega, by omega⟩
      rw [List.getElem?_set_self (by have := (List.getElem?_eq_some_iff.1 h1).1; omega)]
    · exact ⟨x0, by rw [List.getElem?_set_ne e]; exact h1, h2, h3⟩
  · have hneg : (negN (D.set (tg k d).toNat (f k d x)) : Int) ≤ negN D := by
      have := negN_set0 (l := D) (i := (tg k d).toNat) (v := f k d x) (by omega)
      omega
    rcases List.mem_or_eq_of_mem_set hz with hz | rfl
    · have := h.bd z hz
      omega
    · rcases hy with hy | hy
      · have := negN_set (v := f k d x) ht hy (by omega)
        omega
      · omega
  · have hp := phi_set (v := f k d x) ht
    rw [if_neg (by omega : ¬ f k d x < 0)] at hp
    rcases hy with hy | hy
    · rw [if_pos hy] at hp
      omega
    · rw [if_neg (by omega)] at hp
      omega
theorem RxS.start {n : Nat} {en : Nat → Nat → Bool} {tg : Nat → Nat → Int} {f : Nat → Nat → Int → Int} {s : Nat} {l0 : Int} (hn : n ≤ 100) (hs : s < n) (h0 : 0 ≤ l0 ∧ l0 ≤ 10) : RxS n en tg f s l0 ((List.replicate n (-1)).set s l0) := by
  refine ⟨by simp, fun k x hx => ?_, ⟨l0, by rw [List.getElem?_set_self (by simpa using hs)], h0.1, Int.le_refl _⟩, fun x hx => ?_⟩
  · rw [List.getElem?_set] at hx
    split at hx
    · rename_i e
      subst e
      split at hx
      · cases hx
        exact .inr ⟨h0.1, .nil⟩
      · cases hx
    · rw [List.getElem?_replicate] at hx
      split at hx
      · cases hx; exact .inl rfl
      · cases hx
  · have := negN_le ((List.replicate n (-1)).set s l0)
    simp only [List.length_set, List.length_replicate] at this
    rcases List.mem_or_eq_of_mem_set hx with hx | rfl
    · have := (List.mem_replicate.1 hx).2
      omega
    · omega
def rlx (en : Nat → Nat → Bool) (tg : Nat → Nat → Int) (f : Nat → Nat → Int → Int) (c : Bool × List Int) (k d : Nat) : Bool × List Int :=
  match c.2[k]?, c.2[(tg k d).toNat]? with
  | some x, some y => if en k d = true ∧ 0 ≤ x ∧ (y < 0 ∨ f k d x < y) then (true, c.2.set (tg k d).toNat (f k d x)) else c
  | _, _ => c
structure PassR (n : Nat) (en : Nat → Nat → Bool) (tg : Nat → Nat → Int) (f : Nat → Nat → Int → Int) (s : Nat) (l0 : Int) (D : List Int) (cg : Bool) (cl : Prop) (D' : List Int) (cg' : Bool) : Prop where
  rs : RxS n en tg f s l0 D'
  le : phi D' ≤ phi D
  up : cg' = true → cg = true ∨ phi D' < phi D
  no : cg' = false → D' = D ∧ cg = false ∧ cl
theorem rlx_one {n : Nat} {en : Nat → Nat → Bool} {tg : Nat → Nat → Int} {f : Nat → Nat → Int → Int} {s : Nat} {l0 : Int} (G : Gr n en tg f) {D : List Int} (h : RxS n en tg f s l0 D) {k d : Nat} (hk : k < n) (hd : d < 6) (cg : Bool) : PassR n en tg f s l0 D cg (ClAt en tg f D k d) (rlx en tg f (cg, D) k d).2 (rlx en tg f (cg, D) k d).1 := by
  have e1 : D[k]? = some (D[k]'(by rw [h.len]; exact hk)) := List.getElem?_eq_getElem _
  generalize D[k]'(by rw [h.len]; exact hk) = x at e1
  cases e2 : D[(tg k d).toNat]? with
  | none =>
    have e : rlx en tg f (cg, D) k d = (cg, D) := by simp only [rlx, e1, e2]
    rw [e]
    refine ⟨h, Nat.le_refl _, fun hc => .inl hc, fun hc => ⟨rfl, hc, fun x' _ _ he => ?_⟩⟩
    obtain ⟨t1, t2, _⟩ := G.t k d hk hd he
    rw [List.getElem?_eq_none_iff, h.len] at e2
    omega
  | some y =>
    by_cases c : en k d = true ∧ 0 ≤ x ∧ (y < 0 ∨ f k d x < y)
    · have e : rlx en tg f (cg, D) k d = (true, D.set (tg k d).toNat (f k d x)) := by simp only [rlx, e1, e2, if_pos c]
      rw [e]
      obtain ⟨r1, r2⟩ := h.set G e1 c.2.1 hd c.1 e2 c.2.2
      exact ⟨r1, Nat.le_of_lt r2, fun _ => .inr r2, fun hc => by cases hc⟩
    · have e : rlx en tg f (cg, D) k d = (cg, D) := by simp only [rlx, e1, e2, if_neg c]
      rw [e]
      refine ⟨h, Nat.le_refl _, fun hc => .inl hc, fun hc => ⟨rfl, hc, fun x' hx' h0 he => ?_⟩⟩
      rw [e1] at hx'
      cases hx'
      have hn2 : ¬ (y < 0 ∨ f k d x < y) := fun hh => c ⟨he, h0, hh⟩
      exact ⟨y, e2, by omega, by omega⟩
theorem PassR.seq {n : Nat} {en : Nat → Nat → Bool} {tg : Nat → Nat → Int} {f : Nat → Nat → Int → Int} {s : Nat} {l0 : Int} {D D1 D2 : List Int} {cg c1 c2 : Bool} {p q r : Prop} (a : PassR n en tg f s l0 D cg p D1 c1) (b : PassR n en tg f s l0 D1 c1 q D2 c2) (hr : D1 = D → p → q → r) : PassR n en tg f s l0 D cg r D2 c2 := by
  refine ⟨b.rs, Nat.le_trans b.le a.le, fun h => ?_, fun h => ?_⟩
  · rcases b.up h with h1 | h1
    · rcases a.up h1 with h2 | h2
      · exact .inl h2
      · exact .inr (Nat.lt_of_le_of_lt b.le h2)
    · exact .inr (Nat.lt_of_lt_of_le h1 a.le)
  · obtain ⟨e1, e2, e3⟩ := b.no h
    obtain ⟨g1, g2, g3⟩ := a.no e2
    exact ⟨e1.trans g1, g2, hr g1 g3 e3⟩
theorem pass4 {n : Nat} {en : Nat → Nat → Bool} {tg : Nat → Nat → Int} {f : Nat → Nat → Int → Int} {s : Nat} {l0 : Int} {σ ρ : Type} {Lp : σ → Option ρ} {S3 : Bool → Nat → List Int → σ} {S4 : Bool → Nat → Nat → List Int → σ} (G : Gr n en tg f) (e4 : ∀ cg k d D, k < n → d < 6 → RxS n en tg f s l0 D → Lp (S4 cg k d D) = Lp (S4 (rlx en tg f (cg, D) k d).1 k (d + 1) (rlx en tg f (cg, D) k d).2))
    (e6 : ∀ cg k D, k < n → RxS n en tg f s l0 D → Lp (S4 cg k 6 D) = Lp (S3 cg (k + 1) D)) {k : Nat} (hk : k < n) : ∀ (m d : Nat), d + m = 6 → ∀ cg D, RxS n en tg f s l0 D → ∃ cg' D', Lp (S4 cg k d D) = Lp (S3 cg' (k + 1) D') ∧ PassR n en tg f s l0 D cg (∀ d', d ≤ d' → d' < 6 → ClAt en tg f D k d') D' cg'
  | 0, d, h, cg, D, hR => by
    have : d = 6 := by omega
    subst this
    exact ⟨cg, D, e6 cg k D hk hR, hR, Nat.le_refl _, fun h => .inl h, fun h => ⟨rfl, h, fun d' h1 h2 => by omega⟩⟩
  | m + 1, d, h, cg, D, hR => by
    have o := rlx_one G hR hk (show d < 6 by omega) cg
    obtain ⟨c2, D2, p1, p2⟩ := pass4 G e4 e6 hk m (d + 1) (by omega) _ _ o.rs
    refine ⟨c2, D2, (e4 cg k d D hk (by omega) hR).trans p1, o.seq p2 fun e h1 h2 d' g1 g2 => ?_⟩
    by_cases hd : d' = d
    · rw [hd]; exact h1
    · rw [e] at h2
      exact h2 d' (by omega) g2
theorem pass3 {n : Nat} {en : Nat → Nat → Bool} {tg : Nat → Nat → Int} {f : Nat → Nat → Int → Int} {s : Nat} {l0 : Int} {σ ρ : Type} {Lp : σ → Option ρ} {S2 : Bool → List Int → σ} {S3 : Bool → Nat → List Int → σ} {S4 : Bool → Nat → Nat → List Int → σ} (G : Gr n en tg f) (e3 : ∀ cg k D, k < n → RxS n en tg f s l0 D → Lp (S3 cg k D) = Lp (S4 cg k 0 D)) (e3e : ∀ cg D, RxS n en tg f s l0 D → Lp (S3 cg n D) = Lp (S2 cg D))
    (e4 : ∀ cg k d D, k < n → d < 6 → RxS n en tg f s l0 D → Lp (S4 cg k d D) = Lp (S4 (rlx en tg f (cg, D) k d).1 k (d + 1) (rlx en tg f (cg, D) k d).2))
    (e6 : ∀ cg k D, k < n → RxS n en tg f s l0 D → Lp (S4 cg k 6 D) = Lp (S3 cg (k + 1) D)) : ∀ (m k : Nat), k + m = n → ∀ cg D, RxS n en tg f s l0 D → ∃ cg' D', Lp (S3 cg k D) = Lp (S2 cg' D') ∧ PassR n en tg f s l0 D cg (∀ k' d', k ≤ k' → k' < n → d' < 6 → ClAt en tg f D k' d') D' cg'
  | 0, k, h, cg, D, hR => by
    have : k = n := by omega
    subst this
    exact ⟨cg, D, e3e cg D hR, hR, Nat.le_refl _, fun h => .inl h, fun h => ⟨rfl, h, fun k' d' h1 h2 => by omega⟩⟩
  | m + 1, k, h, cg, D, hR => by
    obtain ⟨c1, D1, o1, o2⟩ := pass4 G e4 e6 (show k < n by omega) 6 0 rfl cg D hR
    obtain ⟨c2, D2, p1, p2⟩ := pass3 G e3 e3e e4 e6 m (k + 1) (by omega) c1 D1 o2.rs
    refine ⟨c2, D2, ((e3 cg k D (by omega) hR).trans o1).trans p1, o2.seq p2 fun e h1 h2 k' d' g1 g2 g3 => ?_⟩
    by_cases hk : k' = k
    · rw [hk]; exact h1 d' (Nat.zero_le _) g3
    · rw [e] at h2
      exact h2 k' d' (by omega) g2 g3
theorem rounds {n : Nat} {en : Nat → Nat → Bool} {tg : Nat → Nat → Int} {f : Nat → Nat → Int → Int} {s : Nat} {l0 : Int} {σ ρ : Type} {Lp : σ → Option ρ} {S2 : Bool → List Int → σ} {S3 : Bool → Nat → List Int → σ} {S4 : Bool → Nat → Nat → List Int → σ} {r : List Int → Option ρ} (G : Gr n en tg f) (e2t : ∀ D, RxS n en tg f s l0 D → Lp (S2 true D) = Lp (S3 false 0 D)) (e2f : ∀ D, RxS n en tg f s l0 D → Lp (S2 false D) = r D)
    (e3 : ∀ cg k D, k < n → RxS n en tg f s l0 D → Lp (S3 cg k D) = Lp (S4 cg k 0 D)) (e3e : ∀ cg D, RxS n en tg f s l0 D → Lp (S3 cg n D) = Lp (S2 cg D))
    (e4 : ∀ cg k d D, k < n → d < 6 → RxS n en tg f s l0 D → Lp (S4 cg k d D) = Lp (S4 (rlx en tg f (cg, D) k d).1 k (d + 1) (rlx en tg f (cg, D) k d).2))
    (e6 : ∀ cg k D, k < n → RxS n en tg f s l0 D → Lp (S4 cg k 6 D) = Lp (S3 cg (k + 1) D)) : ∀ (N : Nat) (D : List Int), phi D ≤ N → RxS n en tg f s l0 D → ∃ D', Lp (S2 true D) = r D' ∧ RxS n en tg f s l0 D' ∧ Clo n en tg f D' := by
  intro N
  induction N with
  | zero =>
    intro D h hR
    obtain ⟨c1, D1, o1, o2⟩ := pass3 G e3 e3e e4 e6 n 0 (by omega) false D hR
    cases c1 with
    | true =>
      rcases o2.up rfl with h1 | h1
      · cases h1
      · omega
    | false =>
      obtain ⟨g1, _, g3⟩ := o2.no rfl
      refine ⟨D1, ((e2t D hR).trans o1).trans (e2f D1 o2.rs), o2.rs, fun k d hk hd => ?_⟩
      rw [g1]
      exact g3 k d (Nat.zero_le _) hk hd
  | succ N ih =>
    intro D h hR
    obtain ⟨c1, D1, o1, o2⟩ := pass3 G e3 e3e e4 e6 n 0 (by omega) false D hR
    cases c1 with
    | true =>
      rcases o2.up rfl with h1 | h1
      · cases h1
      · obtain ⟨D2, p1, p2, p3⟩ := ih D1 (by omega) o2.rs
        exact ⟨D2, ((e2t D hR).trans o1).trans p1, p2, p3⟩
    | false =>
      obtain ⟨g1, _, g3⟩ := o2.no rfl
      refine ⟨D1, ((e2t D hR).trans o1).trans (e2f D1 o2.rs), o2.rs, fun k d hk hd => ?_⟩
      rw [g1]
      exact g3 k d (Nat.zero_le _) hk hd

def enR (b : Gi_Board) (kd w : Int) (av : List Int) (k d : Nat) : Bool := !decide (stC b kd w (k : Int) (d : Int) = 0) && !hasB av (mpNext b.Map (k : Int) (d : Int))
def tgR (b : Gi_Board) (k d : Nat) : Int := mpNext b.Map (k : Int) (d : Int)
def fR (b : Gi_Board) (kd w : Int) (k d : Nat) (x : Int) : Int := x + stC b kd w (k : Int) (d : Int)
theorem next_ne {m : Gi_Map} {i d : Int} (hd : 0 ≤ d ∧ d < 6) (h : 0 ≤ mpNext m i d) : mpNext m i d ≠ i := fun e => by
  have h1 := (mpNext_lt h).2
  rw [e] at h1
  have hq := congrArg Gi_Hex.Q h1
  have hr := congrArg Gi_Hex.R h1
  simp only [hexGo] at hq hr
  rcases sixDirs hd with rfl | rfl | rfl | rfl | rfl | rfl
  · rw [show dQ 0 = 1 from rfl] at hq; omega
  · rw [show dQ 1 = 1 from rfl] at hq; omega
  · rw [show dR 2 = -1 from rfl] at hr; omega
  · rw [show dQ 3 = -1 from rfl] at hq; omega
  · rw [show dQ 4 = -1 from rfl] at hq; omega
  · rw [show dR 5 = 1 from rfl] at hr; omega
theorem MvOk.at {b : Gi_Board} {kd w i : Int} (h : MvOk b kd w i) {k : Int} (hk : 0 ≤ k ∧ k < b.Map.Terrain.length) : MvOk b kd w k := ⟨h.v, h.k, h.w, hk⟩
theorem enR_iff {b : Gi_Board} {kd w : Int} {av : List Int} {k d : Nat} : enR b kd w av k d = true ↔ stC b kd w (k : Int) (d : Int) ≠ 0 ∧ hasB av (mpNext b.Map (k : Int) (d : Int)) = false := by
  unfold enR
  cases hasB av (mpNext b.Map (k : Int) (d : Int)) <;> simp
theorem grR {b : Gi_Board} {kd w i : Int} (h : MvOk b kd w i) (av : List Int) : Gr b.Map.Terrain.length (enR b kd w av) (tgR b) (fR b kd w) := by
  refine ⟨h.v.ok.n2.2, fun k d hk hd he => ?_, fun k d x hk hd he hx => ?_, fun k d x y hk hd he hx hxy => ?_⟩
  · have h1 := stC_n (enR_iff.1 he).1
    have h2 := next_ne (d := (d : Int)) (by omega) h1
    have h3 := h.v.nlt h1
    unfold tgR
    omega
  · have h1 := (enR_iff.1 he).1
    have h2 := stC_b (d := (d : Int)) (h.at (k := (k : Int)) (by omega))
    unfold fR
    omega
  · unfold fR
    omega
theorem rlx_no {en : Nat → Nat → Bool} {tg : Nat → Nat → Int} {f : Nat → Nat → Int → Int} {cg : Bool} {D : List Int} {k d : Nat} (h : ∀ x y, D[k]? = some x → D[(tg k d).toNat]? = some y → ¬ (en k d = true ∧ 0 ≤ x ∧ (y < 0 ∨ f k d x < y))) : rlx en tg f (cg, D) k d = (cg, D) := by
  unfold rlx
  cases e1 : D[k]? with
  | none => simp only [e1]
  | some x =>
    cases e2 : D[(tg k d).toNat]? with
    | none => simp only [e1, e2]
    | some y => simp only [e1, e2, if_neg (h x y e1 e2)]
theorem rlx_go {en : Nat → Nat → Bool} {tg : Nat → Nat → Int} {f : Nat → Nat → Int → Int} {cg : Bool} {D : List Int} {k d : Nat} {x y : Int} (h1 : D[k]? = some x) (h2 : D[(tg k d).toNat]? = some y) (h : en k d = true ∧ 0 ≤ x ∧ (y < 0 ∨ f k d x < y)) : rlx en tg f (cg, D) k d = (true, D.set (tg k d).toNat (f k d x)) := by
  unfold rlx
  simp only [h1, h2, if_pos h]
theorem get_rx {n : Nat} {en : Nat → Nat → Bool} {tg : Nat → Nat → Int} {f : Nat → Nat → Int → Int} {s : Nat} {l0 : Int} {D : List Int} (h : RxS n en tg f s l0 D) (hn : n ≤ 100) {k : Nat} (hk : k < n) : ∃ x, D[k]? = some x ∧ -1 ≤ x ∧ x ≤ 110010 := by
  have e : D[k]? = some (D[k]'(by rw [h.len]; exact hk)) := List.getElem?_eq_getElem _
  refine ⟨_, e, ?_, h.le hn (List.mem_of_getElem? e)⟩
  rcases h.real k _ e with e1 | e1 <;> omega
theorem relaxed_i {b : Gi_Board} {kd w i : Int} (h : MvOk b kd w i) {av : List Int} (ha : av.length ≤ 2000000) : ∃ D, Di_relaxed b kd w i false av = some D ∧ RxS b.Map.Terrain.length (enR b kd w av) (tgR b) (fR b kd w) i.toNat 0 D ∧ Clo b.Map.Terrain.length (enR b kd w av) (tgR b) (fR b kd w) D := by
  have hn := h.v.ok.n2
  have hi := h.i
  have G := grR h av
  obtain ⟨N, hN⟩ : ∃ N, N = b.Map.Terrain.length := ⟨_, rfl⟩
  have k1 := neg_goL (L := fun j m => loop Bi_relaxed (.h1 kd w i false av ((List.replicate N (0 : Int)).length : Int) (j : Int) b m)) (n := N) (r := fun m => loop Bi_relaxed (.h2 kd w false av true b (m.set i.toNat 0))) (fun j m hj hm => by
    have hx : m[j]? = some m[j] := List.getElem?_eq_getElem (by omega)
    rw [loop_eq]
    simp only [Bi_relaxed, List.length_replicate, ltc hj, nnc, if_true, Int.toNat_natCast, hx, Option.bind_some, wsucc (show j < 9223372036854775807 by omega), goOn]) (fun m hm => by
    have hx : m[i.toNat]? = some m[i.toNat] := List.getElem?_eq_getElem (by omega)
    rw [loop_eq]
    simp only [Bi_relaxed, List.length_replicate, nltc, if_false, if_pos hi.1, hx, Option.bind_some, goOn])
  have k2 := rounds (Lp := loop Bi_relaxed) (s := i.toNat) (l0 := 0) (S2 := fun cg D => .h2 kd w false av cg b D) (S3 := fun cg k D => .h3 kd w false av cg (b.Map.Terrain.length : Int) (k : Int) b D) (S4 := fun cg k d D => .h4 kd w false av cg (k : Int) (b.Map.Terrain.length : Int) (k : Int) (d : Int) b D) (r := some) G
    (fun D hR => by rw [loop_eq]; simp only [Bi_relaxed, hR.len, goOn]; rfl)
    (fun D hR => by rw [loop_eq]; simp only [Bi_relaxed, goOn])
    (fun cg k D hk hR => by rw [loop_eq]; simp only [Bi_relaxed, ltc hk, if_true, goOn]; rfl)
    (fun cg D hR => by rw [loop_eq]; simp only [Bi_relaxed, nltc, if_false, goOn])
    (fun cg k d D hk hd hR => by
      have hm := h.at (k := (k : Int)) (by omega)
      have hd' : (0 : Int) ≤ (d : Int) ∧ (d : Int) < 6 := by omega
      have hcb := stC_b (d := (d : Int)) hm
      obtain ⟨x, e1, x1, x2⟩ := get_rx hR hn.2 hk
      rw [loop_eq]
      simp only [Bi_relaxed, if_pos hd'.2, stepCost_i hm hd', Option.bind_some, wsucc (show d < 9223372036854775807 by omega)]
      by_cases c0 : stC b kd w (k : Int) (d : Int) = 0
      · rw [if_pos c0, rlx_no fun x y _ _ hh => (enR_iff.1 hh.1).1 c0]; rfl
      · have ht := stC_n c0
        have htl := h.v.nlt ht
        rw [if_neg c0, (h.v.next ⟨by omega, by omega⟩ hd').1, Option.bind_some, contains_i ha, Option.bind_some]
        cases c1 : hasB av (mpNext b.Map (k : Int) (d : Int)) with
        | true => rw [if_pos rfl, rlx_no fun x y _ _ hh => by have := (enR_iff.1 hh.1).2; rw [c1] at this; cases this]; rfl
        | false =>
          have he : enR b kd w av k d = true := enR_iff.2 ⟨c0, c1⟩
          obtain ⟨y, e2, y1, y2⟩ := get_rx hR hn.2 (k := (mpNext b.Map (k : Int) (d : Int)).toNat) (by omega)
          rw [if_neg (by decide), if_pos (show (0 : Int) ≤ (k : Int) by omega)]
          simp only [Int.toNat_natCast, e1, e2, Option.bind_some, if_pos ht, if_pos (show (0 : Int) ≤ (k : Int) by omega)]
          rw [w64 (by omega)]
          by_cases c2 : x ≥ 0
          · rw [if_pos c2]
            by_cases c3 : y < 0
            · rw [if_pos c3, rlx_go e1 e2 ⟨he, c2, .inl c3⟩]; rfl
            · rw [if_neg c3]
              by_cases c4 : x + stC b kd w (k : Int) (d : Int) < y
              · rw [if_pos c4, rlx_go e1 e2 ⟨he, c2, .inr c4⟩]; rfl
              · rw [if_neg c4, rlx_no fun x' y' g1 g2 hh => by
                  rw [e1] at g1; cases g1
                  have g2' : D[(mpNext b.Map (k : Int) (d : Int)).toNat]? = some y' := g2
                  rw [e2] at g2'; cases g2'
                  have := hh.2.2
                  unfold fR at this
                  omega]
                rfl
          · rw [if_neg c2, rlx_no fun x' y' g1 g2 hh => by
              rw [e1] at g1; cases g1
              exact c2 hh.2.1]
            rfl)
    (fun cg k D hk hR => by rw [loop_eq]; simp only [Bi_relaxed, show ¬ ((6 : Nat) : Int) < 6 by omega, if_false, goOn, wsucc (show k < 9223372036854775807 by omega)])
    _ _ (Nat.le_refl _) (RxS.start (n := b.Map.Terrain.length) hn.2 (s := i.toNat) (l0 := 0) (by omega) (by omega))
  obtain ⟨D, q1, q2, q3⟩ := k2
  refine ⟨D, ?_, q2, q3⟩
  unfold Di_relaxed Di_sizeOf
  rw [Option.bind_some, if_pos (by omega), Int.toNat_natCast, if_pos (by omega)]
  rw [← hN] at q1 ⊢
  exact k1.trans q1
structure DjS (n : Nat) (en : Nat → Nat → Bool) (tg : Nat → Nat → Int) (f : Nat → Nat → Int → Int) (s : Nat) (l0 : Int) (bst d : Nat) (D : List Int) (dn : List Bool) : Prop where
  rs : RxS n en tg f s l0 D
  dl : dn.length = n
  d1 : ∀ (k : Nat), dn[k]? = some true → ∃ x, D[k]? = some x ∧ 0 ≤ x
  d2 : ∀ (k j : Nat) (x y : Int), dn[k]? = some true → dn[j]? = some false → D[k]? = some x → D[j]? = some y → 0 ≤ y → x ≤ y
  d3 : ∀ (k d' : Nat), k < n → d' < 6 → dn[k]? = some true → (k ≠ bst ∨ d' < d) → ClAt en tg f D k d'
theorem dj_step {n : Nat} {en : Nat → Nat → Bool} {tg : Nat → Nat → Int} {f : Nat → Nat → Int → Int} {s : Nat} {l0 : Int} (G : Gr n en tg f) {D : List Int} {dn : List Bool} {bst d : Nat} (h : DjS n en tg f s l0 bst d D dn) (hd : d < 6) (hb : dn[bst]? = some true) (h4 : ∀ (k : Nat) (x xb : Int), dn[k]? = some true → D[k]? = some x → D[bst]? = some xb → x ≤ xb) (cg : Bool) :
    DjS n en tg f s l0 bst (d + 1) (rlx en tg f (cg, D) bst d).2 dn ∧ ∀ (k : Nat) (x xb : Int), dn[k]? = some true → (rlx en tg f (cg, D) bst d).2[k]? = some x → (rlx en tg f (cg, D) bst d).2[bst]? = some xb → x ≤ xb := by
  have hbn : bst < n := by rw [← h.dl]; exact (List.getElem?_eq_some_iff.1 hb).1
  obtain ⟨x, e1, hx⟩ := h.d1 bst hb
  have o := rlx_one G h.rs hbn hd cg
  by_cases c : en bst d = true ∧ ∃ y, D[(tg bst d).toNat]? = some y ∧ (y < 0 ∨ f bst d x < y)
  · obtain ⟨he, y, e2, hy⟩ := c
    have e := rlx_go (cg := cg) e1 e2 ⟨he, hx, hy⟩
    rw [e] at o ⊢
    simp only at o ⊢
    obtain ⟨b1, b2⟩ := G.b bst d x hbn hd he hx
    obtain ⟨t1, t2, t3⟩ := G.t bst d hbn hd he
    have hf : dn[(tg bst d).toNat]? = some false := by
      cases e3 : dn[(tg bst d).toNat]? with
      | none =>
        rw [List.getElem?_eq_none_iff, h.dl] at e3
        omega
      | some q =>
        cases q with
        | false => rfl
        | true =>
          obtain ⟨y', g1, g2⟩ := h.d1 _ e3
          rw [e2] at g1
          cases g1
          have := h4 _ _ _ e3 e2 e1
          omega
    have hne : ∀ k, dn[k]? = some true → (tg bst d).toNat ≠ k := fun k hk e => by rw [e, hk] at hf; cases hf
    have hget : ∀ k, dn[k]? = some true → (D.set (tg bst d).toNat (f bst d x))[k]? = D[k]? := fun k hk => List.getElem?_set_ne (hne k hk)
    have hself : (D.set (tg bst d).toNat (f bst d x))[(tg bst d).toNat]? = some (f bst d x) := List.getElem?_set_self (List.getElem?_eq_some_iff.1 e2).1
    refine ⟨⟨o.rs, h.dl, fun k hk => ?_, fun k j xk yj hk hj gk gj h0 => ?_, fun k d' hkn hd' hk hor => ?_⟩, fun k xk xb hk gk gb => ?_⟩
    · rw [hget k hk]; exact h.d1 k hk
    · rw [hget k hk] at gk
      by_cases ej : (tg bst d).toNat = j
      · subst ej
        rw [hself] at gj
        cases gj
        have := h4 _ _ _ hk gk e1
        omega
      · rw [List.getElem?_set_ne ej] at gj
        exact h.d2 k j xk yj hk hj gk gj h0
    · intro xk gk g0 gen
      rw [hget k hk] at gk
      by_cases hnew : k = bst ∧ d' = d
      · obtain ⟨rfl, rfl⟩ := hnew
        rw [e1] at gk
        cases gk
        exact ⟨_, hself, by omega, Int.le_refl _⟩
      · obtain ⟨y0, j1, j2, j3⟩ := h.d3 k d' hkn hd' hk (by omega) xk gk g0 gen
        by_cases ej : (tg bst d).toNat = (tg k d').toNat
        · rw [← ej] at j1 ⊢
          rw [e2] at j1
          cases j1
          exact ⟨_, hself, by omega, by omega⟩
        · exact ⟨y0, by rw [List.getElem?_set_ne ej]; exact j1, j2, j3⟩
    · rw [hget k hk] at gk
      rw [hget bst hb] at gb
      exact h4 k xk xb hk gk gb
  · have e : rlx en tg f (cg, D) bst d = (cg, D) := rlx_no fun x' y' g1 g2 hh => by
      rw [e1] at g1
      cases g1
      exact c ⟨hh.1, y', g2, hh.2.2⟩
    rw [e]
    refine ⟨⟨h.rs, h.dl, h.d1, h.d2, fun k d' hkn hd' hk hor => ?_⟩, h4⟩
    by_cases hnew : k = bst ∧ d' = d
    · obtain ⟨rfl, rfl⟩ := hnew
      intro xk gk g0 gen
      rw [e1] at gk
      cases gk
      obtain ⟨t1, t2, t3⟩ := G.t k d' hbn hd gen
      have e2 : D[(tg k d').toNat]? = some (D[(tg k d').toNat]'(by rw [h.rs.len]; omega)) := List.getElem?_eq_getElem _
      generalize D[(tg k d').toNat]'(by rw [h.rs.len]; omega) = y at e2
      have hn2 : ¬ (y < 0 ∨ f k d' x < y) := fun hh => c ⟨gen, y, e2, hh⟩
      exact ⟨y, e2, by omega, by omega⟩
    · exact h.d3 k d' hkn hd' hk (by omega)
def cF : List Bool → Nat
  | [] => 0
  | x :: l => (if x then 0 else 1) + cF l
theorem cF_set : ∀ {l : List Bool} {i : Nat}, l[i]? = some false → cF (l.set i true) + 1 = cF l
  | [], i, h => by simp at h
  | x :: l, 0, h => by
    simp only [List.getElem?_cons_zero, Option.some.injEq] at h
    subst h
    simp [cF, Nat.add_comm]
  | x :: l, i + 1, h => by
    have ih := cF_set (l := l) (i := i) (by simpa using h)
    simp only [List.set_cons_succ, cF]
    omega
/-- The best place below i, of those that wait. -/
def BtJ (D : List Int) (dn : List Bool) (i : Nat) (best : Int) : Prop :=
  (best = -1 ∧ ∀ j x, j < i → D[j]? = some x → 0 ≤ x → dn[j]? = some true) ∨
  ∃ c : Nat, best = (c : Int) ∧ c < i ∧ dn[c]? = some false ∧ ∃ x, D[c]? = some x ∧ 0 ≤ x ∧ ∀ j y, j < i → D[j]? = some y → 0 ≤ y → dn[j]? = some false → x ≤ y
theorem bt_skip {D : List Int} {dn : List Bool} {i : Nat} {best : Int} (h : BtJ D dn i best) (hs : ∀ x, D[i]? = some x → 0 ≤ x → dn[i]? = some true) : BtJ D dn (i + 1) best := by
  rcases h with ⟨rfl, h⟩ | ⟨c, rfl, hc, hd, x, h1, h2, h3⟩
  · refine .inl ⟨rfl, fun j x hj hx h0 => ?_⟩
    by_cases e : j = i
    · rw [e] at hx ⊢; exact hs x hx h0
    · exact h j x (by omega) hx h0
  · refine .inr ⟨c, rfl, by omega, hd, x, h1, h2, fun j y hj hy h0 hdj => ?_⟩
    by_cases e : j = i
    · rw [e] at hy hdj
      rw [hs y hy h0] at hdj
      cases hdj
    · exact h3 j y (by omega) hy h0 hdj
theorem bt_new {D : List Int} {dn : List Bool} {i : Nat} {best x : Int} (h : BtJ D dn i best) (hx : D[i]? = some x) (h0 : 0 ≤ x) (hd : dn[i]? = some false) (hb : best < 0 ∨ ∃ xb, D[best.toNat]? = some xb ∧ x < xb) : BtJ D dn (i + 1) (i : Int) := by
  refine .inr ⟨i, rfl, by omega, hd, x, hx, h0, fun j y hj hy hy0 hdj => ?_⟩
  by_cases e : j = i
  · rw [e, hx] at hy; cases hy; omega
  · rcases h with ⟨rfl, h⟩ | ⟨c, rfl, hc, hdc, x', h1, h2, h3⟩
    · rw [h j y (by omega) hy hy0] at hdj; cases hdj
    · rcases hb with hb | ⟨xb, g1, g2⟩
      · omega
      · rw [Int.toNat_natCast, h1] at g1
        cases g1
        have := h3 j y (by omega) hy hy0 hdj
        omega
theorem bt_keep {D : List Int} {dn : List Bool} {i : Nat} {best x xb : Int} (h : BtJ D dn i best) (hx : D[i]? = some x) (hb : 0 ≤ best) (hxb : D[best.toNat]? = some xb) (hl : ¬ x < xb) : BtJ D dn (i + 1) best := by
  rcases h with ⟨rfl, h⟩ | ⟨c, rfl, hc, hdc, x', h1, h2, h3⟩
  · omega
  · rw [Int.toNat_natCast, h1] at hxb
    cases hxb
    refine .inr ⟨c, rfl, by omega, hdc, xb, h1, h2, fun j y hj hy hy0 hdj => ?_⟩
    by_cases e : j = i
    · rw [e, hx] at hy; cases hy; omega
    · exact h3 j y (by omega) hy hy0 hdj
theorem pFrom_best {b : Gi_Board} {kd w : Int} {av : List Int} {D : List Int} {dn : List Bool} {n : Nat} (hn : n ≤ 100) (hD : D.length = n) (hdn : dn.length = n) : ∀ (m i : Nat) (best : Int), i + m = n → BtJ D dn i best → ∃ best', BtJ D dn n best' ∧
    loop Bs_pFrom (.h3 kd w av best (n : Int) (i : Int) b D dn) = if best' < 0 then some D else loop Bs_pFrom (.h4 kd w av best' 0 b D (dn.set best'.toNat true))
  | 0, i, best, h, hB => by
    have : i = n := by omega
    subst this
    refine ⟨best, hB, ?_⟩
    rw [loop_eq]
    simp only [Bs_pFrom, nltc, if_false]
    rcases hB with ⟨rfl, _⟩ | ⟨c, rfl, hc, hdc, _⟩
    · rfl
    · rw [if_neg (show ¬ (c : Int) < 0 by omega), if_neg (show ¬ (c : Int) < 0 by omega), if_pos (show (0 : Int) ≤ (c : Int) by omega), Int.toNat_natCast, hdc, Option.bind_some]; rfl
  | m + 1, i, best, h, hB => by
    have hi : i < n := by omega
    have e1 : D[i]? = some (D[i]'(by omega)) := List.getElem?_eq_getElem _
    have e2 : dn[i]? = some (dn[i]'(by omega)) := List.getElem?_eq_getElem _
    generalize D[i]'(by omega) = x at e1
    generalize dn[i]'(by omega) = q at e2
    rw [loop_eq]
    simp only [Bs_pFrom, ltc hi, nnc, if_true, Int.toNat_natCast, e1, e2, Option.bind_some, wsucc (show i < 9223372036854775807 by omega)]
    by_cases c1 : x ≥ 0
    · rw [if_pos c1]
      cases q with
      | true =>
        rw [if_pos rfl]
        exact pFrom_best hn hD hdn m (i + 1) best (by omega) (bt_skip hB fun _ _ _ => e2)
      | false =>
        rw [if_neg (by decide)]
        by_cases c2 : best < 0
        · rw [if_pos c2]
          exact pFrom_best hn hD hdn m (i + 1) (i : Int) (by omega) (bt_new hB e1 c1 e2 (.inl c2))
        · rw [if_neg c2, if_pos (by omega)]
          have e3 : ∃ xb, D[best.toNat]? = some xb := by
            rcases hB with ⟨rfl, _⟩ | ⟨c, rfl, _, _, x', h1, _⟩
            · omega
            · exact ⟨x', by rw [Int.toNat_natCast]; exact h1⟩
          obtain ⟨xb, e3⟩ := e3
          rw [e3, Option.bind_some]
          by_cases c3 : x < xb
          · rw [if_pos c3]
            exact pFrom_best hn hD hdn m (i + 1) (i : Int) (by omega) (bt_new hB e1 c1 e2 (.inr ⟨xb, e3, c3⟩))
          · rw [if_neg c3]
            exact pFrom_best hn hD hdn m (i + 1) best (by omega) (bt_keep hB e1 (by omega) e3 c3)
    · rw [if_neg c1]
      exact pFrom_best hn hD hdn m (i + 1) best (by omega) (bt_skip hB fun x' hx' h0 => by rw [e1] at hx'; cases hx'; omega)
theorem pFrom_4 {b : Gi_Board} {kd w i : Int} (h : MvOk b kd w i) {av : List Int} (ha : av.length ≤ 2000000) {s : Nat} {bst : Nat} : ∀ (m d : Nat) (D : List Int) (dn : List Bool), d + m = 6 → dn[bst]? = some true → (∀ (k : Nat) (x xb : Int), dn[k]? = some true → D[k]? = some x → D[bst]? = some xb → x ≤ xb) → DjS b.Map.Terrain.length (enR b kd w av) (tgR b) (fR b kd w) s 0 bst d D dn →
    ∃ D', loop Bs_pFrom (.h4 kd w av (bst : Int) (d : Int) b D dn) = loop Bs_pFrom (.h2 kd w av b D' dn) ∧ DjS b.Map.Terrain.length (enR b kd w av) (tgR b) (fR b kd w) s 0 bst 6 D' dn
  | 0, d, D, dn, hm, hb, h4, hJ => by
    have : d = 6 := by omega
    subst this
    refine ⟨D, ?_, hJ⟩
    rw [loop_eq]
    simp only [Bs_pFrom, show ¬ ((6 : Nat) : Int) < 6 by omega, if_false, goOn]
  | m + 1, d, D, dn, hm, hb, h4, hJ => by
    have hn := h.v.ok.n2
    have hbn : bst < b.Map.Terrain.length := by rw [← hJ.dl]; exact (List.getElem?_eq_some_iff.1 hb).1
    have G := grR h av
    obtain ⟨s1, s2⟩ := dj_step G hJ (show d < 6 by omega) hb h4 true
    obtain ⟨D', p1, p2⟩ := pFrom_4 h ha m (d + 1) _ dn (by omega) hb s2 s1
    refine ⟨D', Eq.trans ?_ p1, p2⟩
    have hmv := h.at (k := (bst : Int)) (by omega)
    have hd' : (0 : Int) ≤ (d : Int) ∧ (d : Int) < 6 := by omega
    have hcb := stC_b (d := (d : Int)) hmv
    obtain ⟨x, e1, x1, x2⟩ := get_rx hJ.rs hn.2 hbn
    obtain ⟨x', g1, g2⟩ := hJ.d1 bst hb
    rw [e1] at g1
    cases g1
    rw [loop_eq]
    simp only [Bs_pFrom, if_pos hd'.2, cStep_s hmv hd', Option.bind_some, wsucc (show d < 9223372036854775807 by omega)]
    by_cases c0 : stC b kd w (bst : Int) (d : Int) = 0
    · rw [if_pos c0, rlx_no fun x y _ _ hh => (enR_iff.1 hh.1).1 c0]; rfl
    · have ht := stC_n c0
      have htl := h.v.nlt ht
      rw [if_neg c0, (h.v.next ⟨by omega, by omega⟩ hd').2, Option.bind_some, if_pos (show (0 : Int) ≤ (bst : Int) by omega)]
      simp only [Int.toNat_natCast, e1, Option.bind_some, has_s ha]
      cases c1 : hasB av (mpNext b.Map (bst : Int) (d : Int)) with
      | true => rw [if_pos rfl, rlx_no fun x y _ _ hh => by have := (enR_iff.1 hh.1).2; rw [c1] at this; cases this]; rfl
      | false =>
        have he : enR b kd w av bst d = true := enR_iff.2 ⟨c0, c1⟩
        obtain ⟨y, e2, y1, y2⟩ := get_rx hJ.rs hn.2 (k := (mpNext b.Map (bst : Int) (d : Int)).toNat) (by omega)
        rw [if_neg (by decide)]
        simp only [e2, Option.bind_some, if_pos ht]
        rw [w64 (by omega)]
        by_cases c3 : y < 0
        · rw [if_pos c3, rlx_go e1 e2 ⟨he, g2, .inl c3⟩]; rfl
        · rw [if_neg c3]
          by_cases c4 : x + stC b kd w (bst : Int) (d : Int) < y
          · rw [if_pos c4, rlx_go e1 e2 ⟨he, g2, .inr c4⟩]; rfl
          · rw [if_neg c4, rlx_no fun x' y' k1 k2 hh => by
              rw [e1] at k1; cases k1
              have k2' : D[(mpNext b.Map (bst : Int) (d : Int)).toNat]? = some y' := k2
              rw [e2] at k2'; cases k2'
              have := hh.2.2
              unfold fR at this
              omega]
            rfl
theorem pFrom_2 {b : Gi_Board} {kd w i : Int} (h : MvOk b kd w i) {av : List Int} (ha : av.length ≤ 2000000) {s : Nat} : ∀ (N : Nat) (D : List Int) (dn : List Bool), cF dn ≤ N → DjS b.Map.Terrain.length (enR b kd w av) (tgR b) (fR b kd w) s 0 0 6 D dn →
    ∃ D', loop Bs_pFrom (.h2 kd w av b D dn) = some D' ∧ RxS b.Map.Terrain.length (enR b kd w av) (tgR b) (fR b kd w) s 0 D' ∧ Clo b.Map.Terrain.length (enR b kd w av) (tgR b) (fR b kd w) D' := by
  have hn := h.v.ok.n2
  have G := grR h av
  have main : ∀ (D : List Int) (dn : List Bool), DjS b.Map.Terrain.length (enR b kd w av) (tgR b) (fR b kd w) s 0 0 6 D dn →
      (∃ D', loop Bs_pFrom (.h2 kd w av b D dn) = some D' ∧ RxS b.Map.Terrain.length (enR b kd w av) (tgR b) (fR b kd w) s 0 D' ∧ Clo b.Map.Terrain.length (enR b kd w av) (tgR b) (fR b kd w) D') ∨
      ∃ D' dn', loop Bs_pFrom (.h2 kd w av b D dn) = loop Bs_pFrom (.h2 kd w av b D' dn') ∧ cF dn' + 1 = cF dn ∧ DjS b.Map.Terrain.length (enR b kd w av) (tgR b) (fR b kd w) s 0 0 6 D' dn' := by
    intro D dn hJ
    obtain ⟨best, B1, B2⟩ := pFrom_best (b := b) (kd := kd) (w := w) (av := av) hn.2 hJ.rs.len hJ.dl _ 0 (-1) (Nat.zero_add _) (.inl ⟨rfl, fun j x hj => by omega⟩)
    have e0 : loop Bs_pFrom (.h2 kd w av b D dn) = loop Bs_pFrom (.h3 kd w av (-1) (b.Map.Terrain.length : Int) ((0 : Nat) : Int) b D dn) := by
      rw [loop_eq]
      simp only [Bs_pFrom, goOn, hJ.rs.len]; rfl
    rcases B1 with ⟨rfl, hB⟩ | ⟨c, rfl, hc, hdc, xc, g1, g2, g3⟩
    · refine .inl ⟨D, e0.trans (B2.trans (if_pos (by decide))), hJ.rs, fun k d hk hd x hx h0 he => ?_⟩
      exact hJ.d3 k d hk hd (hB k x hk hx h0) (.inr hd) x hx h0 he
    · right
      have hcl : c < dn.length := (List.getElem?_eq_some_iff.1 hdc).1
      have hset : ∀ j, j ≠ c → (dn.set c true)[j]? = dn[j]? := fun j hj => List.getElem?_set_ne (fun e => hj e.symm)
      have hself : (dn.set c true)[c]? = some true := List.getElem?_set_self hcl
      have hJ2 : DjS b.Map.Terrain.length (enR b kd w av) (tgR b) (fR b kd w) s 0 c 0 D (dn.set c true) := by
        refine ⟨hJ.rs, by simpa using hJ.dl, fun k hk => ?_, fun k j x y hk hj hx hy h0 => ?_, fun k d' hkn hd' hk hor => ?_⟩
        · by_cases e : k = c
          · rw [e]; exact ⟨xc, g1, g2⟩
          · rw [hset k e] at hk; exact hJ.d1 k hk
        · have hjc : j ≠ c := fun e => by rw [e, hself] at hj; cases hj
          rw [hset j hjc] at hj
          have hjn : j < b.Map.Terrain.length := by rw [← hJ.dl]; exact (List.getElem?_eq_some_iff.1 hj).1
          by_cases e : k = c
          · rw [e, g1] at hx
            cases hx
            exact g3 j y hjn hy h0 hj
          · rw [hset k e] at hk
            exact hJ.d2 k j x y hk hj hx hy h0
        · have hkc : k ≠ c := by omega
          rw [hset k hkc] at hk
          exact hJ.d3 k d' hkn hd' hk (.inr hd')
      have h4 : ∀ (k : Nat) (x xb : Int), (dn.set c true)[k]? = some true → D[k]? = some x → D[c]? = some xb → x ≤ xb := fun k x xb hk hx hxb => by
        by_cases e : k = c
        · rw [e, hxb] at hx; cases hx; exact Int.le_refl _
        · rw [hset k e] at hk
          rw [g1] at hxb
          cases hxb
          exact hJ.d2 k c x xc hk hdc hx g1 g2
      obtain ⟨D', p1, p2⟩ := pFrom_4 h ha 6 0 D (dn.set c true) rfl hself h4 hJ2
      refine ⟨D', dn.set c true, e0.trans (B2.trans ((if_neg (by omega)).trans ?_)), cF_set hdc, ⟨p2.rs, p2.dl, p2.d1, p2.d2, fun k d' hkn hd' hk _ => p2.d3 k d' hkn hd' hk (.inr hd')⟩⟩
      rw [Int.toNat_natCast]
      exact p1
  intro N
  induction N with
  | zero =>
    intro D dn hN hJ
    rcases main D dn hJ with h1 | ⟨D', dn', h1, h2, h3⟩
    · exact h1
    · omega
  | succ N ih =>
    intro D dn hN hJ
    rcases main D dn hJ with h1 | ⟨D', dn', h1, h2, h3⟩
    · exact h1
    · obtain ⟨D2, q1, q2⟩ := ih D' dn' (by omega) h3
      exact ⟨D2, h1.trans q1, q2⟩
theorem pFrom_s {b : Gi_Board} {kd w i : Int} (h : MvOk b kd w i) {av : List Int} (ha : av.length ≤ 2000000) : ∃ D, Ds_pFrom b kd w i av = some D ∧ RxS b.Map.Terrain.length (enR b kd w av) (tgR b) (fR b kd w) i.toNat 0 D ∧ Clo b.Map.Terrain.length (enR b kd w av) (tgR b) (fR b kd w) D := by
  have hn := h.v.ok.n2
  have hnn := h.v.ok.n
  have hi := h.i
  obtain ⟨N, hN⟩ : ∃ N, N = b.Map.Terrain.length := ⟨_, rfl⟩
  have k1 := neg_goL (L := fun j m => loop Bs_pFrom (.h1 kd w i av ((List.replicate N (0 : Int)).length : Int) (j : Int) b m (List.replicate N false))) (n := N) (r := fun m => loop Bs_pFrom (.h2 kd w av b (m.set i.toNat 0) (List.replicate N false))) (fun j m hj hm => by
    have hx : m[j]? = some m[j] := List.getElem?_eq_getElem (by omega)
    rw [loop_eq]
    simp only [Bs_pFrom, List.length_replicate, ltc hj, nnc, if_true, Int.toNat_natCast, hx, Option.bind_some, wsucc (show j < 9223372036854775807 by omega), goOn]) (fun m hm => by
    have hx : m[i.toNat]? = some m[i.toNat] := List.getElem?_eq_getElem (by omega)
    rw [loop_eq]
    simp only [Bs_pFrom, List.length_replicate, nltc, if_false, if_pos hi.1, hx, Option.bind_some, goOn])
  have nf : ∀ k : Nat, (List.replicate N false)[k]? ≠ some true := fun k e => by
    have := List.mem_of_getElem? e
    simp at this
  obtain ⟨D, q1, q2, q3⟩ := pFrom_2 h ha (s := i.toNat) _ ((List.replicate N (-1)).set i.toNat 0) (List.replicate N false) (Nat.le_refl _) ⟨by rw [hN]; exact RxS.start hn.2 (by omega) (by omega), by rw [hN]; simp, fun k hk => absurd hk (nf k), fun k j x y hk => absurd hk (nf k), fun k d' _ _ hk => absurd hk (nf k)⟩
  refine ⟨D, ?_, q2, q3⟩
  unfold Ds_pFrom
  rw [mSize_s h.v.ok.d (by decide), ← hnn, Option.bind_some, if_pos (by omega), Int.toNat_natCast, if_pos (by omega), ← hN]
  simp only [List.length_replicate, Int.toNat_natCast]
  rw [if_pos (by omega)]
  have e : (N : Int) = ((List.replicate N (0 : Int)).length : Int) := by rw [List.length_replicate]
  rw [e]
  exact k1.trans q1
theorem relaxed_pFrom {b : Gi_Board} {kd w i : Int} (h : MvOk b kd w i) {av : List Int} (ha : av.length ≤ 2000000) : ∃ D, Di_relaxed b kd w i false av = some D ∧ Ds_pFrom b kd w i av = some D ∧ RxS b.Map.Terrain.length (enR b kd w av) (tgR b) (fR b kd w) i.toNat 0 D ∧ Clo b.Map.Terrain.length (enR b kd w av) (tgR b) (fR b kd w) D := by
  obtain ⟨D, h1, h2, h3⟩ := relaxed_i h ha
  obtain ⟨D', g1, g2, g3⟩ := pFrom_s h ha
  have e := h2.uniq (grR h av) h3 g2 g3
  subst e
  exact ⟨D, h1, g1, g2, g3⟩

def enT (b : Gi_Board) (kd w mv : Int) (k d : Nat) : Bool := !decide (stC b kd w (k : Int) (d : Int) = 0) && decide (stC b kd w (k : Int) (d : Int) ≤ mv)
def tfI (b : Gi_Board) (kd w mv : Int) (k d : Nat) (x : Int) : Int := if x % 100 + stC b kd w (k : Int) (d : Int) > mv then (x / 100 + 1) * 100 + stC b kd w (k : Int) (d : Int) else x + stC b kd w (k : Int) (d : Int)
def tfS (b : Gi_Board) (kd w mv : Int) (k d : Nat) (x : Int) : Int := if x % 1000 + stC b kd w (k : Int) (d : Int) > mv then x - x % 1000 + 1000 + stC b kd w (k : Int) (d : Int) else x + stC b kd w (k : Int) (d : Int)
theorem enT_iff {b : Gi_Board} {kd w mv : Int} {k d : Nat} : enT b kd w mv k d = true ↔ stC b kd w (k : Int) (d : Int) ≠ 0 ∧ stC b kd w (k : Int) (d : Int) ≤ mv := by
  unfold enT
  simp
theorem grTI {b : Gi_Board} {kd w i : Int} (h : MvOk b kd w i) (mv : Int) : Gr b.Map.Terrain.length (enT b kd w mv) (tgR b) (tfI b kd w mv) := by
  refine ⟨h.v.ok.n2.2, fun k d hk hd he => ?_, fun k d x hk hd he hx => ?_, fun k d x y hk hd he hx hxy => ?_⟩
  · have h1 := stC_n (enT_iff.1 he).1
    have h2 := next_ne (d := (d : Int)) (by omega) h1
    have h3 := h.v.nlt h1
    unfold tgR
    omega
  · have h1 := (enT_iff.1 he).1
    have h2 := stC_b (d := (d : Int)) (h.at (k := (k : Int)) (by omega))
    unfold tfI
    generalize stC b kd w (k : Int) (d : Int) = c at h1 h2 ⊢
    split <;> omega
  · have h2 := stC_b (d := (d : Int)) (h.at (k := (k : Int)) (by omega))
    unfold tfI
    generalize stC b kd w (k : Int) (d : Int) = c at h2 ⊢
    split <;> split <;> omega
theorem grTS {b : Gi_Board} {kd w i : Int} (h : MvOk b kd w i) (mv : Int) : Gr b.Map.Terrain.length (enT b kd w mv) (tgR b) (tfS b kd w mv) := by
  refine ⟨h.v.ok.n2.2, fun k d hk hd he => ?_, fun k d x hk hd he hx => ?_, fun k d x y hk hd he hx hxy => ?_⟩
  · have h1 := stC_n (enT_iff.1 he).1
    have h2 := next_ne (d := (d : Int)) (by omega) h1
    have h3 := h.v.nlt h1
    unfold tgR
    omega
  · have h1 := (enT_iff.1 he).1
    have h2 := stC_b (d := (d : Int)) (h.at (k := (k : Int)) (by omega))
    unfold tfS
    generalize stC b kd w (k : Int) (d : Int) = c at h1 h2 ⊢
    split <;> omega
  · have h2 := stC_b (d := (d : Int)) (h.at (k := (k : Int)) (by omega))
    unfold tfS
    generalize stC b kd w (k : Int) (d : Int) = c at h2 ⊢
    split <;> split <;> omega
def mvN (b : Gi_Board) (k : Int) : Int := match b.Rules.Kinds[k.toNat]? with
  | some x => x.Moves
  | none => 0
theorem mvN_b {b : Gi_Board} (h : BdV b) {k : Int} (hk : 0 ≤ k ∧ k < b.Rules.Kinds.length) : ∃ x, b.Rules.Kinds[k.toNat]? = some x ∧ x.Moves = mvN b k ∧ 0 ≤ mvN b k ∧ mvN b k ≤ 9 := by
  have h1 : b.Rules.Kinds[k.toNat]? = some b.Rules.Kinds[k.toNat] := List.getElem?_eq_getElem (by omega)
  have h2 := h.ok.r.ks _ (List.mem_of_getElem? h1)
  have e : mvN b k = b.Rules.Kinds[k.toNat].Moves := by unfold mvN; rw [h1]
  exact ⟨_, h1, e.symm, by rw [e]; omega, by rw [e]; omega⟩
theorem turnsTo_i {b : Gi_Board} {kd w i : Int} (h : MvOk b kd w i) : ∃ D, Di_turnsTo b kd w i = some D ∧ RxS b.Map.Terrain.length (enT b kd w (mvN b kd)) (tgR b) (tfI b kd w (mvN b kd)) i.toNat (mvN b kd) D ∧ Clo b.Map.Terrain.length (enT b kd w (mvN b kd)) (tgR b) (tfI b kd w (mvN b kd)) D := by
  have hn := h.v.ok.n2
  have hi := h.i
  obtain ⟨xk, hxk, hmv, m0, m9⟩ := mvN_b h.v h.k
  have G := grTI h (mvN b kd)
  generalize mvN b kd = mv at *
  obtain ⟨N, hN⟩ : ∃ N, N = b.Map.Terrain.length := ⟨_, rfl⟩
  have k1 := neg_goL (L := fun j m => loop Bi_turnsTo (.h1 kd w i mv ((List.replicate N (0 : Int)).length : Int) (j : Int) b m)) (n := N) (r := fun m => loop Bi_turnsTo (.h2 kd w mv true b (m.set i.toNat mv))) (fun j m hj hm => by
    have hx : m[j]? = some m[j] := List.getElem?_eq_getElem (by omega)
    rw [loop_eq]
    simp only [Bi_turnsTo, List.length_replicate, ltc hj, nnc, if_true, Int.toNat_natCast, hx, Option.bind_some, wsucc (show j < 9223372036854775807 by omega), goOn]) (fun m hm => by
    have hx : m[i.toNat]? = some m[i.toNat] := List.getElem?_eq_getElem (by omega)
    rw [loop_eq]
    simp only [Bi_turnsTo, List.length_replicate, nltc, if_false, if_pos hi.1, hx, Option.bind_some, goOn])
  have k2 := rounds (Lp := loop Bi_turnsTo) (s := i.toNat) (l0 := mv) (S2 := fun cg D => .h2 kd w mv cg b D) (S3 := fun cg k D => .h3 kd w mv cg (b.Map.Terrain.length : Int) (k : Int) b D) (S4 := fun cg k d D => .h4 kd w mv cg (k : Int) (D[k]?.getD 0) (b.Map.Terrain.length : Int) (k : Int) (d : Int) b D) (r := some) G
    (fun D hR => by rw [loop_eq]; simp only [Bi_turnsTo, hR.len, goOn]; rfl)
    (fun D hR => by rw [loop_eq]; simp only [Bi_turnsTo, goOn])
    (fun cg k D hk hR => by
      obtain ⟨x, e1, _⟩ := get_rx hR hn.2 hk
      rw [loop_eq]
      simp only [Bi_turnsTo, ltc hk, nnc, if_true, Int.toNat_natCast, e1, Option.bind_some, Option.getD_some, goOn]; rfl)
    (fun cg D hR => by rw [loop_eq]; simp only [Bi_turnsTo, nltc, if_false, goOn])
    (fun cg k d D hk hd hR => by
      have hm := h.at (k := (k : Int)) (by omega)
      have hd' : (0 : Int) ≤ (d : Int) ∧ (d : Int) < 6 := by omega
      have hcb := stC_b (d := (d : Int)) hm
      obtain ⟨x, e1, x1, x2⟩ := get_rx hR hn.2 hk
      rw [loop_eq]
      simp only [Bi_turnsTo, if_pos hd'.2, stepCost_i hm hd', Option.bind_some, e1, Option.getD_some, wsucc (show d < 9223372036854775807 by omega)]
      by_cases c2 : x < 0
      · rw [if_pos c2, rlx_no fun x' y' g1 g2 hh => by
          rw [e1] at g1; cases g1
          have := hh.2.1
          omega]
        simp only [e1, Option.getD_some, goOn]
      · rw [if_neg c2]
        have t1 : Int.tmod x 100 = x % 100 := Int.tmod_eq_emod_of_nonneg (by omega)
        have t2 : Int.tdiv x 100 = x / 100 := Int.tdiv_eq_ediv_of_nonneg (by omega)
        by_cases c0 : stC b kd w (k : Int) (d : Int) = 0
        · rw [if_pos c0, rlx_no fun x y _ _ hh => (enT_iff.1 hh.1).1 c0]
          simp only [e1, Option.getD_some, goOn]
        · have ht := stC_n c0
          have htl := h.v.nlt ht
          have htn := next_ne (d := (d : Int)) hd' ht
          rw [if_neg c0]
          by_cases c1 : stC b kd w (k : Int) (d : Int) > mv
          · rw [if_pos c1, rlx_no fun x y _ _ hh => by have := (enT_iff.1 hh.1).2; omega]
            simp only [e1, Option.getD_some, goOn]
          · have he : enT b kd w mv k d = true := enT_iff.2 ⟨c0, by omega⟩
            obtain ⟨y, e2, y1, y2⟩ := get_rx hR hn.2 (k := (mpNext b.Map (k : Int) (d : Int)).toNat) (by omega)
            have hset : ∀ v : Int, (D.set (mpNext b.Map (k : Int) (d : Int)).toNat v)[k]? = some x := fun v => by
              rw [List.getElem?_set_ne (by omega)]; exact e1
            have hfx : tfI b kd w mv k d x = if x % 100 + stC b kd w (k : Int) (d : Int) > mv then (x / 100 + 1) * 100 + stC b kd w (k : Int) (d : Int) else x + stC b kd w (k : Int) (d : Int) := rfl
            have hgo : ∀ v : Int, tfI b kd w mv k d x = v → (y < 0 ∨ v < y) → rlx (enT b kd w mv) (tgR b) (tfI b kd w mv) (cg, D) k d = (true, D.set (mpNext b.Map (k : Int) (d : Int)).toNat v) := fun v ev hv => by
              rw [rlx_go e1 e2 ⟨he, by omega, by rw [ev]; exact hv⟩, ev]; rfl
            have hno : ∀ v : Int, tfI b kd w mv k d x = v → ¬ (y < 0 ∨ v < y) → rlx (enT b kd w mv) (tgR b) (tfI b kd w mv) (cg, D) k d = (cg, D) := fun v ev hv => rlx_no fun x' y' g1 g2 hh => by
              rw [e1] at g1; cases g1
              have g2' : D[(mpNext b.Map (k : Int) (d : Int)).toNat]? = some y' := g2
              rw [e2] at g2'; cases g2'
              exact hv (by rw [← ev]; exact hh.2.2)
            rw [if_neg c1, t1, t2, w64 (n := x % 100 + stC b kd w (k : Int) (d : Int)) (by omega), (h.v.next ⟨by omega, by omega⟩ hd').1]
            simp only [Option.bind_some, if_pos ht, e2]
            rw [w64 (n := x / 100) (by omega), w64 (n := x / 100 + 1) (by omega), w64 (n := (x / 100 + 1) * 100) (by omega), w64 (n := (x / 100 + 1) * 100 + stC b kd w (k : Int) (d : Int)) (by omega), w64 (n := x + stC b kd w (k : Int) (d : Int)) (by omega)]
            by_cases c5 : x % 100 + stC b kd w (k : Int) (d : Int) > mv
            · rw [if_pos c5] at hfx ⊢
              by_cases c3 : y < 0
              · rw [if_pos c3, hgo _ hfx (.inl c3)]
                simp only [hset, Option.getD_some, goOn]
              · rw [if_neg c3]
                by_cases c4 : (x / 100 + 1) * 100 + stC b kd w (k : Int) (d : Int) < y
                · rw [if_pos c4, hgo _ hfx (.inr c4)]
                  simp only [hset, Option.getD_some, goOn]
                · rw [if_neg c4, hno _ hfx (by omega)]
                  simp only [e1, Option.getD_some, goOn]
            · rw [if_neg c5] at hfx ⊢
              by_cases c3 : y < 0
              · rw [if_pos c3, hgo _ hfx (.inl c3)]
                simp only [hset, Option.getD_some, goOn]
              · rw [if_neg c3]
                by_cases c4 : x + stC b kd w (k : Int) (d : Int) < y
                · rw [if_pos c4, hgo _ hfx (.inr c4)]
                  simp only [hset, Option.getD_some, goOn]
                · rw [if_neg c4, hno _ hfx (by omega)]
                  simp only [e1, Option.getD_some, goOn])
    (fun cg k D hk hR => by rw [loop_eq]; simp only [Bi_turnsTo, show ¬ ((6 : Nat) : Int) < 6 by omega, if_false, goOn, wsucc (show k < 9223372036854775807 by omega)])
    _ _ (Nat.le_refl _) (RxS.start (n := b.Map.Terrain.length) hn.2 (s := i.toNat) (l0 := mv) (by omega) (by omega))
  obtain ⟨D, q1, q2, q3⟩ := k2
  refine ⟨D, ?_, q2, q3⟩
  unfold Di_turnsTo Di_sizeOf
  rw [if_pos h.k.1, hxk, Option.bind_some, Option.bind_some, if_pos (by omega), Int.toNat_natCast, if_pos (by omega), hmv]
  rw [← hN] at q1 ⊢
  exact k1.trans q1
theorem pTurns_s {b : Gi_Board} {kd w i : Int} (h : MvOk b kd w i) : ∃ D, Ds_pTurns b kd w i = some D ∧ RxS b.Map.Terrain.length (enT b kd w (mvN b kd)) (tgR b) (tfS b kd w (mvN b kd)) i.toNat 0 D ∧ Clo b.Map.Terrain.length (enT b kd w (mvN b kd)) (tgR b) (tfS b kd w (mvN b kd)) D := by
  have hn := h.v.ok.n2
  have hnn := h.v.ok.n
  have hi := h.i
  obtain ⟨xk, hxk, hmv, m0, m9⟩ := mvN_b h.v h.k
  have G := grTS h (mvN b kd)
  generalize mvN b kd = mv at *
  obtain ⟨N, hN⟩ : ∃ N, N = b.Map.Terrain.length := ⟨_, rfl⟩
  have k1 := neg_goL (L := fun j m => loop Bs_pTurns (.h1 kd w i mv ((List.replicate N (0 : Int)).length : Int) (j : Int) b m)) (n := N) (r := fun m => loop Bs_pTurns (.h2 kd w mv true b (m.set i.toNat 0))) (fun j m hj hm => by
    have hx : m[j]? = some m[j] := List.getElem?_eq_getElem (by omega)
    rw [loop_eq]
    simp only [Bs_pTurns, List.length_replicate, ltc hj, nnc, if_true, Int.toNat_natCast, hx, Option.bind_some, wsucc (show j < 9223372036854775807 by omega), goOn]) (fun m hm => by
    have hx : m[i.toNat]? = some m[i.toNat] := List.getElem?_eq_getElem (by omega)
    rw [loop_eq]
    simp only [Bs_pTurns, List.length_replicate, nltc, if_false, if_pos hi.1, hx, Option.bind_some, goOn])
  have k2 := rounds (Lp := loop Bs_pTurns) (s := i.toNat) (l0 := 0) (S2 := fun cg D => .h2 kd w mv cg b D) (S3 := fun cg k D => .h3 kd w mv cg (b.Map.Terrain.length : Int) (k : Int) b D) (S4 := fun cg k d D => .h4 kd w mv cg (k : Int) (d : Int) (b.Map.Terrain.length : Int) (k : Int) b D) (r := some) G
    (fun D hR => by rw [loop_eq]; simp only [Bs_pTurns, hR.len, goOn]; rfl)
    (fun D hR => by rw [loop_eq]; simp only [Bs_pTurns, goOn])
    (fun cg k D hk hR => by rw [loop_eq]; simp only [Bs_pTurns, ltc hk, if_true, goOn]; rfl)
    (fun cg D hR => by rw [loop_eq]; simp only [Bs_pTurns, nltc, if_false, goOn])
    (fun cg k d D hk hd hR => by
      have hm := h.at (k := (k : Int)) (by omega)
      have hd' : (0 : Int) ≤ (d : Int) ∧ (d : Int) < 6 := by omega
      have hcb := stC_b (d := (d : Int)) hm
      obtain ⟨x, e1, x1, x2⟩ := get_rx hR hn.2 hk
      by_cases c2 : x ≥ 0
      · rw [loop_eq]
        simp only [Bs_pTurns, nnc, if_true, Int.toNat_natCast, e1, Option.bind_some, if_pos c2, if_pos hd'.2, cStep_s hm hd', wsucc (show d < 9223372036854775807 by omega)]
        have t1 : Int.tmod x 1000 = x % 1000 := Int.tmod_eq_emod_of_nonneg (by omega)
        by_cases c0 : stC b kd w (k : Int) (d : Int) = 0
        · rw [if_pos c0, rlx_no fun x y _ _ hh => (enT_iff.1 hh.1).1 c0]; rfl
        · have ht := stC_n c0
          have htl := h.v.nlt ht
          rw [if_neg c0]
          by_cases c1 : stC b kd w (k : Int) (d : Int) > mv
          · rw [if_pos c1, rlx_no fun x y _ _ hh => by have := (enT_iff.1 hh.1).2; omega]; rfl
          · have he : enT b kd w mv k d = true := enT_iff.2 ⟨c0, by omega⟩
            obtain ⟨y, e2, y1, y2⟩ := get_rx hR hn.2 (k := (mpNext b.Map (k : Int) (d : Int)).toNat) (by omega)
            have hfx : tfS b kd w mv k d x = if x % 1000 + stC b kd w (k : Int) (d : Int) > mv then x - x % 1000 + 1000 + stC b kd w (k : Int) (d : Int) else x + stC b kd w (k : Int) (d : Int) := rfl
            have hgo : ∀ v : Int, tfS b kd w mv k d x = v → (y < 0 ∨ v < y) → rlx (enT b kd w mv) (tgR b) (tfS b kd w mv) (cg, D) k d = (true, D.set (mpNext b.Map (k : Int) (d : Int)).toNat v) := fun v ev hv => by
              rw [rlx_go e1 e2 ⟨he, by omega, by rw [ev]; exact hv⟩, ev]; rfl
            have hno : ∀ v : Int, tfS b kd w mv k d x = v → ¬ (y < 0 ∨ v < y) → rlx (enT b kd w mv) (tgR b) (tfS b kd w mv) (cg, D) k d = (cg, D) := fun v ev hv => rlx_no fun x' y' g1 g2 hh => by
              rw [e1] at g1; cases g1
              have g2' : D[(mpNext b.Map (k : Int) (d : Int)).toNat]? = some y' := g2
              rw [e2] at g2'; cases g2'
              exact hv (by rw [← ev]; exact hh.2.2)
            rw [if_neg c1, t1, w64 (n := x % 1000 + stC b kd w (k : Int) (d : Int)) (by omega), (h.v.next ⟨by omega, by omega⟩ hd').2]
            simp only [Option.bind_some, if_pos ht, e2]
            rw [w64 (n := x - x % 1000) (by omega), w64 (n := x - x % 1000 + 1000) (by omega), w64 (n := x - x % 1000 + 1000 + stC b kd w (k : Int) (d : Int)) (by omega), w64 (n := x + stC b kd w (k : Int) (d : Int)) (by omega)]
            by_cases c5 : x % 1000 + stC b kd w (k : Int) (d : Int) > mv
            · rw [if_pos c5] at hfx ⊢
              by_cases c3 : y < 0
              · rw [if_pos c3, hgo _ hfx (.inl c3)]; rfl
              · rw [if_neg c3]
                by_cases c4 : x - x % 1000 + 1000 + stC b kd w (k : Int) (d : Int) < y
                · rw [if_pos c4, hgo _ hfx (.inr c4)]; rfl
                · rw [if_neg c4, hno _ hfx (by omega)]; rfl
            · rw [if_neg c5] at hfx ⊢
              by_cases c3 : y < 0
              · rw [if_pos c3, hgo _ hfx (.inl c3)]; rfl
              · rw [if_neg c3]
                by_cases c4 : x + stC b kd w (k : Int) (d : Int) < y
                · rw [if_pos c4, hgo _ hfx (.inr c4)]; rfl
                · rw [if_neg c4, hno _ hfx (by omega)]; rfl
      · rw [rlx_no fun x' y' g1 g2 hh => by
          rw [e1] at g1; cases g1
          exact c2 hh.2.1]
        rw [loop_eq]
        conv => rhs; rw [loop_eq]
        simp only [Bs_pTurns, nnc, if_true, Int.toNat_natCast, e1, Option.bind_some, if_neg c2])
    (fun cg k D hk hR => by
      obtain ⟨x, e1, x1, x2⟩ := get_rx hR hn.2 hk
      rw [loop_eq]
      simp only [Bs_pTurns, nnc, if_true, Int.toNat_natCast, e1, Option.bind_some, show ¬ ((6 : Nat) : Int) < 6 by omega, if_false, wsucc (show k < 9223372036854775807 by omega)]
      split <;> rfl)
    _ _ (Nat.le_refl _) (RxS.start (n := b.Map.Terrain.length) hn.2 (s := i.toNat) (l0 := 0) (by omega) (by omega))
  obtain ⟨D, q1, q2, q3⟩ := k2
  refine ⟨D, ?_, q2, q3⟩
  unfold Ds_pTurns
  rw [if_pos h.k.1, hxk, Option.bind_some, mSize_s h.v.ok.d (by decide), ← hnn, Option.bind_some, if_pos (by omega), Int.toNat_natCast, if_pos (by omega), hmv]
  rw [← hN] at q1 ⊢
  exact k1.trans q1
def psi (y : Int) : Int := (y / 1000 + 1) * 100 + y % 1000
theorem wk_si {b : Gi_Board} {kd w mv : Int} {n : Nat} (G : Gr n (enT b kd w mv) (tgR b) (tfS b kd w mv)) (hm : 0 ≤ mv ∧ mv ≤ 9) (hc : ∀ k d : Nat, 0 ≤ stC b kd w (k : Int) (d : Int)) {s : Nat} {k : Nat} {y : Int} (h : Wk (enT b kd w mv) (tgR b) (tfS b kd w mv) s 0 k y) :
    (0 ≤ y ∧ y % 1000 ≤ mv) ∧ ((k = s ∧ y = 0) ∨ Wk (enT b kd w mv) (tgR b) (tfI b kd w mv) s mv k (psi y)) := by
  induction h with
  | nil => exact ⟨⟨Int.le_refl _, hm.1⟩, .inl ⟨rfl, rfl⟩⟩
  | @step k' d l _ hd he ih =>
    obtain ⟨⟨i1, i2⟩, ih⟩ := ih
    have h1 := enT_iff.1 he
    have h0 := hc k' d
    have e2 : tfS b kd w mv k' d l = if l % 1000 + stC b kd w (k' : Int) (d : Int) > mv then l - l % 1000 + 1000 + stC b kd w (k' : Int) (d : Int) else l + stC b kd w (k' : Int) (d : Int) := rfl
    refine ⟨?_, .inr ?_⟩
    · rw [e2]
      generalize stC b kd w (k' : Int) (d : Int) = c at *
      split <;> omega
    · have step : ∀ x, Wk (enT b kd w mv) (tgR b) (tfI b kd w mv) s mv k' x → tfI b kd w mv k' d x = psi (tfS b kd w mv k' d l) → Wk (enT b kd w mv) (tgR b) (tfI b kd w mv) s mv (tgR b k' d).toNat (psi (tfS b kd w mv k' d l)) := fun x hx e => by
        rw [← e]; exact .step hx hd he
      rcases ih with ⟨rfl, rfl⟩ | ih
      · refine step mv .nil ?_
        rw [e2]
        unfold tfI psi
        generalize stC b kd w (k' : Int) (d : Int) = c at *
        rw [if_pos (by omega), if_neg (by omega)]
        omega
      · refine step _ ih ?_
        rw [e2]
        unfold tfI psi
        generalize stC b kd w (k' : Int) (d : Int) = c at *
        by_cases c5 : l % 1000 + c > mv
        · rw [if_pos (by omega), if_pos c5]
          omega
        · rw [if_neg (by omega), if_neg c5]
          omega
theorem wk_is {b : Gi_Board} {kd w mv : Int} (hm : 0 ≤ mv ∧ mv ≤ 9) (hc : ∀ k d : Nat, 0 ≤ stC b kd w (k : Int) (d : Int)) {s : Nat} {k : Nat} {x : Int} (h : Wk (enT b kd w mv) (tgR b) (tfI b kd w mv) s mv k x) :
    (k = s ∧ x = mv) ∨ ∃ l, Wk (enT b kd w mv) (tgR b) (tfS b kd w mv) s 0 k l ∧ x = psi l ∧ 0 ≤ l ∧ l % 1000 ≤ mv := by
  induction h with
  | nil => exact .inl ⟨rfl, rfl⟩
  | @step k' d x' _ hd he ih =>
    have h1 := enT_iff.1 he
    have h0 := hc k' d
    have e1 : tfI b kd w mv k' d x' = if x' % 100 + stC b kd w (k' : Int) (d : Int) > mv then (x' / 100 + 1) * 100 + stC b kd w (k' : Int) (d : Int) else x' + stC b kd w (k' : Int) (d : Int) := rfl
    right
    rcases ih with ⟨rfl, rfl⟩ | ⟨l, hw, rfl, l1, l2⟩
    · refine ⟨tfS b kd w x' k' d 0, .step .nil hd he, ?_⟩
      rw [e1]
      unfold tfS psi
      generalize stC b kd w (k' : Int) (d : Int) = c at *
      rw [if_pos (by omega), if_neg (by omega)]
      omega
    · refine ⟨tfS b kd w mv k' d l, .step hw hd he, ?_⟩
      rw [e1]
      unfold tfS psi
      generalize stC b kd w (k' : Int) (d : Int) = c at *
      by_cases c5 : l % 1000 + c > mv
      · rw [if_pos (by omega), if_pos c5]
        omega
      · rw [if_neg (by omega), if_neg c5]
        omega
theorem turns_b {b : Gi_Board} {kd w i : Int} (h : MvOk b kd w i) {D D' : List Int} (h1 : RxS b.Map.Terrain.length (enT b kd w (mvN b kd)) (tgR b) (tfI b kd w (mvN b kd)) i.toNat (mvN b kd) D) (c1 : Clo b.Map.Terrain.length (enT b kd w (mvN b kd)) (tgR b) (tfI b kd w (mvN b kd)) D)
    (h2 : RxS b.Map.Terrain.length (enT b kd w (mvN b kd)) (tgR b) (tfS b kd w (mvN b kd)) i.toNat 0 D') (c2 : Clo b.Map.Terrain.length (enT b kd w (mvN b kd)) (tgR b) (tfS b kd w (mvN b kd)) D') {k : Nat} {x y : Int} (hx : D[k]? = some x) (hy : D'[k]? = some y) :
    (x < 0 ∧ y < 0) ∨ (0 ≤ x ∧ 0 ≤ y ∧ x ≤ 110010 ∧ y ≤ 110010 ∧ ((k : Int) = i → x / 100 = 0) ∧ ((k : Int) ≠ i → x / 100 = y / 1000 + 1)) := by
  have hn := h.v.ok.n2
  have hi := h.i
  obtain ⟨m0, m9⟩ : 0 ≤ mvN b kd ∧ mvN b kd ≤ 9 := by
    obtain ⟨_, _, _, m0, m9⟩ := mvN_b h.v h.k
    exact ⟨m0, m9⟩
  have GI := grTI h (mvN b kd)
  have GS := grTS h (mvN b kd)
  generalize mvN b kd = mv at *
  have bx := h1.le hn.2 (List.mem_of_getElem? hx)
  have bby := h2.le hn.2 (List.mem_of_getElem? hy)
  by_cases ek : (k : Int) = i
  · have e : i.toNat = k := by omega
    obtain ⟨x0, g1, g2, g3⟩ := h1.src
    obtain ⟨y0, g4, g5, g6⟩ := h2.src
    rw [e] at g1 g4
    rw [hx] at g1
    rw [hy] at g4
    cases g1
    cases g4
    exact .inr ⟨g2, g5, bx, bby, fun _ => by omega, fun hne => absurd ek hne⟩
  · have hc : ∀ k d : Nat, enT b kd w mv k d = true → k < b.Map.Terrain.length → 0 ≤ stC b kd w (k : Int) (d : Int) := fun k d _ hk => (stC_b (d := (d : Int)) (h.at (k := (k : Int)) (by omega))).1
    have hc' : ∀ k d : Nat, 0 ≤ stC b kd w (k : Int) (d : Int) := fun k d => by
      by_cases hk : k < b.Map.Terrain.length
      · exact (stC_b (d := (d : Int)) (h.at (k := (k : Int)) (by omega))).1
      · by_cases z : stC b kd w (k : Int) (d : Int) = 0
        · omega
        · unfold stC
          have ez := h.v.ok.r.e
          have hw := h.w
          have hr : 0 ≤ wRd w ∧ wRd w ≤ 1 := by unfold wRd; split <;> omega
          by_cases c : mpNext b.Map (k : Int) (d : Int) < 0
          · rw [if_pos c]; omega
          · obtain ⟨_, _, q1, q2⟩ := bdC_b h.v.ok (k := kd) (i := mpNext b.Map (k : Int) (d : Int)) h.k ⟨by omega, h.v.nlt (by omega)⟩
            rw [if_neg c]
            split
            · omega
            · split
              · omega
              · split <;> omega
    have up : 0 ≤ y → ∃ z, D[k]? = some z ∧ 0 ≤ z ∧ z ≤ psi y := fun h0 => by
      rcases h2.real k y hy with rfl | ⟨_, hw⟩
      · omega
      · obtain ⟨_, hh | hh⟩ := wk_si GS ⟨m0, m9⟩ hc' hw
        · omega
        · exact hh.low GI h1.len h1.src c1
    have down : 0 ≤ x → ∃ l, x = psi l ∧ 0 ≤ l ∧ l % 1000 ≤ mv ∧ ∃ z, D'[k]? = some z ∧ 0 ≤ z ∧ z ≤ l := fun h0 => by
      clear up
      rcases h1.real k x hx with rfl | ⟨_, hw⟩
      · omega
      · rcases wk_is ⟨m0, m9⟩ hc' hw with hh | ⟨l, l1, l2, l3, l4⟩
        · omega
        · exact ⟨l, l2, l3, l4, l1.low GS h2.len h2.src c2⟩
    by_cases hx0 : 0 ≤ x
    · obtain ⟨l, l1, l2, l3, z, z1, z2, z3⟩ := down hx0
      rw [hy] at z1
      cases z1
      obtain ⟨z', u1, u2, u3⟩ := up z2
      rw [hx] at u1
      cases u1
      clear up down
      rcases h2.real k y hy with rfl | ⟨_, hw⟩
      · omega
      · have hr := (wk_si GS ⟨m0, m9⟩ hc' hw).1
        refine .inr ⟨hx0, z2, bx, bby, fun e => absurd e ek, fun _ => ?_⟩
        unfold psi at l1 u3
        omega
    · refine .inl ⟨Int.not_le.1 hx0, Int.not_le.1 fun hy0 => ?_⟩
      obtain ⟨z', u1, u2, u3⟩ := up hy0
      rw [hx] at u1
      cases u1
      exact hx0 u2

theorem trAsk_s {b : Gi_Board} (hb : BdLen b) (k w i : Int) : Ds_pAsked b k w i = some (mvG b k w i) := by
  unfold Ds_pAsked mvG
  rw [bAt_s hb, Option.bind_some, kin_s]
  cases bdG b <;> cases kIn k 0 (b.Rules.Kinds.length - 1) <;> cases kIn w 0 2 <;> cases kIn i 0 (b.Map.Terrain.length - 1) <;> rfl
theorem trip_i {b : Gi_Board} (hb : BdLen b) (k w i j : Int) : Di_isTrip b k w i j = some (mvG b k w i && mvG b k w j) := by
  have hm := hb.m.1
  unfold Di_isTrip Di_sizeOf
  rw [mover_i hb, Option.bind_some, Option.bind_some, isIndex_i (by omega), Option.bind_some]
  by_cases c : mvG b k w i = true
  · rw [if_pos c, c, Bool.true_and]
    have c' := c
    simp only [mvG, Bool.and_eq_true] at c'
    unfold mvG
    rw [c'.1.1.1, c'.1.1.2, c'.1.2]
    rfl
  · rw [if_neg c]
    simp only [Bool.not_eq_true] at c
    rw [c]; rfl
def rcB (D : List Int) (mv : Int) (k : Nat) : Bool := match D[k]? with
  | some x => kIn x 0 mv
  | none => false
def rcL (D : List Int) (mv : Int) (n : Nat) : List Int := (List.range n).filterMap fun (k : Nat) => if rcB D mv k = true then some (k : Int) else none
theorem rcL_len (D : List Int) (mv : Int) (n : Nat) : (rcL D mv n).length ≤ n := fm_len _ _
theorem rcL_up {D : List Int} {mv : Int} {n : Nat} {x : Int} (h : x ∈ rcL D mv n) : x ∈ rcL D (mv + 1) n := by
  unfold rcL at h ⊢
  rw [List.mem_filterMap] at h ⊢
  obtain ⟨k, hk, h⟩ := h
  refine ⟨k, hk, ?_⟩
  by_cases c : rcB D mv k = true
  · rw [if_pos c] at h
    rw [if_pos]
    · exact h
    · unfold rcB at c ⊢
      cases e : D[k]? with
      | none => rw [e] at c; cases c
      | some y =>
        rw [e] at c
        simp only [kIn_iff] at c ⊢
        omega
  · rw [if_neg c] at h
    cases h
theorem reach_i {b : Gi_Board} (h : BdV b) {D : List Int} (hD : D.length = b.Map.Terrain.length) (mv : Int) : Di_hexesThat_i_ReachOf_1 b D mv = some (rcL D mv b.Map.Terrain.length) := by
  have hn := h.ok.n2
  unfold Di_hexesThat_i_ReachOf_1 rcL
  refine fm_goL (L := loop Bi_hexesThat_i_ReachOf_1) (S := fun k acc => .h1 D mv (b.Map.Terrain.length : Int) (k : Int) acc) (r := some) (fun k acc hk ha => ?_) fun acc ha => ?_
  · have hx : D[k]? = some D[k] := List.getElem?_eq_getElem (by omega)
    have hq : Di_ReachOf_1 (k : Int) D mv = some (rcB D mv k) := by
      unfold Di_ReachOf_1 rcB
      rw [if_pos (by omega), Int.toNat_natCast, hx, Option.bind_some, kin_i]; rfl
    rw [loop_eq]
    simp only [Bi_hexesThat_i_ReachOf_1, ltc hk, if_true, hq, Option.bind_some, if8 (show acc.length ≤ 3000000 by omega), wsucc (show k < 9223372036854775807 by omega)]
    by_cases c : rcB D mv k = true
    · rw [if_pos c, if_pos c]; rfl
    · rw [if_neg c, if_neg c]; rfl
  · rw [loop_eq]
    simp only [Bi_hexesThat_i_ReachOf_1, nltc, if_false, goOn]
theorem reach_s {D : List Int} {n : Nat} (hn : n ≤ 100) (hD : D.length = n) (mv : Int) : loop Bs_ReachOf (.h1 mv (n : Int) 0 [] D) = some (rcL D mv n, true) := by
  unfold rcL
  refine fm_goL (L := loop Bs_ReachOf) (S := fun k acc => .h1 mv (n : Int) (k : Int) acc D) (r := fun l => some (l, true)) (fun k acc hk ha => ?_) fun acc ha => ?_
  · have hx : D[k]? = some D[k] := List.getElem?_eq_getElem (by omega)
    have hq : Ds_l1In D[k] 0 mv = some (rcB D mv k) := by
      unfold rcB
      rw [hx, kin_s]
    rw [loop_eq]
    simp only [Bs_ReachOf, ltc hk, nnc, if_true, Int.toNat_natCast, hx, hq, Option.bind_some, if8 (show acc.length ≤ 3000000 by omega), wsucc (show k < 9223372036854775807 by omega)]
    by_cases c : rcB D mv k = true
    · rw [if_pos c, if_pos c]; rfl
    · rw [if_neg c, if_neg c]; rfl
  · rw [loop_eq]
    simp only [Bs_ReachOf, nltc, if_false, goOn]
/-- What is within reach: one list, and what is asked of it. -/
theorem reachOf_b {b : Gi_Board} (hb : BdLen b) (k w i : Int) : (mvG b k w i = false ∧ ∀ mv, Di_ReachOf b k w i mv = some ([], false) ∧ Ds_ReachOf b k w i mv = some ([], false)) ∨
    ∃ (D : List Int) (n : Nat), n ≤ 100 ∧ ∀ mv, Di_ReachOf b k w i mv = some (if kIn mv 0 1000 = true then (rcL D mv n, true) else ([], false)) ∧ Ds_ReachOf b k w i mv = some (if kIn mv 0 1000 = true then (rcL D mv n, true) else ([], false)) := by
  by_cases c : mvG b k w i = true
  · right
    have hm := mvG_ok hb c
    have hn := hm.v.ok.n2
    obtain ⟨D, e1, e2, h1, _⟩ := relaxed_pFrom hm (av := []) (by simp)
    refine ⟨D, b.Map.Terrain.length, hn.2, fun mv => ⟨?_, ?_⟩⟩
    · unfold Di_ReachOf
      rw [mover_i hb, Option.bind_some, if_pos c, kin_i, Option.bind_some, e1, Option.bind_some, reach_i hm.v h1.len]
      split <;> rfl
    · unfold Ds_ReachOf
      rw [trAsk_s hb, Option.bind_some, if_pos c, kin_s, Option.bind_some, e2, Option.bind_some, h1.len, reach_s hn.2 h1.len]
      split <;> rfl
  · left
    simp only [Bool.not_eq_true] at c
    refine ⟨c, fun mv => ⟨?_, ?_⟩⟩
    · unfold Di_ReachOf
      rw [mover_i hb, Option.bind_some, c]; rfl
    · unfold Ds_ReachOf
      rw [trAsk_s hb, Option.bind_some, c]; rfl
theorem contains_det {b : Gi_Board} (h : BdOk b) {l : List Int} (hl : l.length ≤ 2000000) : Dslices_ContainsFunc_int_i_DetourCost_1 l b = some (!(alli (fun _ x => kIn x 0 (b.Map.Terrain.length - 1)) l)) := by
  have hn := h.n2
  rw [← ifNB]
  have := all_goL (L := fun s => (loop Bslices_IndexFunc_int_i_DetourCost_1 s).map fun r => decide (r ≥ 0)) (S := fun i => .h1 l b (l.length : Int) (i : Int)) (l := l) (q := fun _ x => kIn x 0 (b.Map.Terrain.length - 1)) (f := true) (r := some false) (fun i x hx hi _ => by
    rw [loop_eq]
    simp only [Bslices_IndexFunc_int_i_DetourCost_1, ltc hi, nnc, if_true, Int.toNat_natCast, hx, Option.bind_some, Di_DetourCost_1, Di_sizeOf, isIndex_i (x := x) (n := (b.Map.Terrain.length : Int)) (by omega), wsucc (show i < 9223372036854775807 by omega)]
    cases kIn x 0 (b.Map.Terrain.length - 1) <;> simp [goOn]) fun _ => by
    rw [loop_eq]
    simp only [Bslices_IndexFunc_int_i_DetourCost_1, nltc, if_false]
    rfl
  refine Eq.trans ?_ this
  unfold Dslices_ContainsFunc_int_i_DetourCost_1 Dslices_IndexFunc_int_i_DetourCost_1
  cases loop Bslices_IndexFunc_int_i_DetourCost_1 (.h1 l b (l.length : Int) 0) <;> rfl
def avG (b : Gi_Board) (k w i j : Int) (av : List Int) : Bool := mvG b k w i && mvG b k w j && (rising av && alli (fun _ x => kIn x 0 (b.Map.Terrain.length - 1)) av)
theorem detour_none {b : Gi_Board} (hb : BdLen b) {k w i j : Int} {av : List Int} (ha : av.length ≤ 2000000) (hc : avG b k w i j av = false) : Di_DetourCost b k w i j av = some (0, false) ∧ Ds_DetourCost b k w i j av = some (0, false) := by
  unfold avG at hc
  by_cases c : (mvG b k w i && mvG b k w j) = true
  · rw [c, Bool.true_and] at hc
    have c' := c
    simp only [Bool.and_eq_true] at c'
    have hm := mvG_ok hb c'.1
    have hn := hm.v.ok.n
    have hn2 := hm.v.ok.n2
    refine ⟨?_, ?_⟩
    · unfold Di_DetourCost
      rw [trip_i hb, Option.bind_some, if_pos c, increasing_i ha, Option.bind_some, contains_det hm.v.ok ha, Option.bind_some]
      cases er : rising av with
      | false => rfl
      | true =>
        rw [er, Bool.true_and] at hc
        rw [hc]; rfl
    · unfold Ds_DetourCost
      rw [trAsk_s hb, Option.bind_some, if_pos c'.1, trAsk_s hb, Option.bind_some, if_pos c'.2, mSize_s hm.v.ok.d (by decide), Option.bind_some, ← hn, w64 (by omega), rise_g ha, Option.bind_some, hc]; rfl
  · simp only [Bool.not_eq_true] at c
    refine ⟨?_, ?_⟩
    · unfold Di_DetourCost
      rw [trip_i hb, Option.bind_some, c]; rfl
    · unfold Ds_DetourCost
      rw [trAsk_s hb, Option.bind_some]
      cases c1 : mvG b k w i with
      | false => rfl
      | true =>
        rw [c1, Bool.true_and] at c
        rw [if_pos rfl, trAsk_s hb, Option.bind_some, c]; rfl
theorem detour_some {b : Gi_Board} (hb : BdLen b) {k w i j : Int} {av : List Int} (ha : av.length ≤ 2000000) (hc : avG b k w i j av = true) : ∃ D x, D[j.toNat]? = some x ∧ RxS b.Map.Terrain.length (enR b k w av) (tgR b) (fR b k w) i.toNat 0 D ∧ Clo b.Map.Terrain.length (enR b k w av) (tgR b) (fR b k w) D ∧
    Di_DetourCost b k w i j av = some (if x < 0 then (0, false) else (x, true)) ∧ Ds_DetourCost b k w i j av = some (if x < 0 then (0, false) else (x, true)) := by
  unfold avG at hc
  simp only [Bool.and_eq_true] at hc
  obtain ⟨⟨c1, c2⟩, c3, c4⟩ := hc
  have hm := mvG_ok hb c1
  have hm2 := mvG_ok hb c2
  have hj := hm2.i
  have hn := hm.v.ok.n
  have hn2 := hm.v.ok.n2
  obtain ⟨D, e1, e2, h1, h2⟩ := relaxed_pFrom hm (av := av) ha
  have hx : D[j.toNat]? = some (D[j.toNat]'(by rw [h1.len]; omega)) := List.getElem?_eq_getElem _
  generalize D[j.toNat]'(by rw [h1.len]; omega) = x at hx
  refine ⟨D, x, hx, h1, h2, ?_, ?_⟩
  · unfold Di_DetourCost
    rw [trip_i hb, Option.bind_some, c1, c2, if_pos (by rfl), increasing_i ha, Option.bind_some, if_pos c3, contains_det hm.v.ok ha, Option.bind_some, c4, e1, if_neg (by decide), Option.bind_some, if_pos hj.1, hx, Option.bind_some, if_pos hj.1, Option.bind_some]
    split <;> rfl
  · unfold Ds_DetourCost
    rw [trAsk_s hb, Option.bind_some, if_pos c1, trAsk_s hb, Option.bind_some, if_pos c2, mSize_s hm.v.ok.d (by decide), Option.bind_some, ← hn, w64 (by omega), rise_g ha, Option.bind_some, c3, c4, if_pos (by rfl), e2, Option.bind_some, if_pos hj.1, hx, Option.bind_some]
    split <;> rfl
theorem wk_free {b : Gi_Board} {k w : Int} {av : List Int} {s j : Nat} {x : Int} (h : Wk (enR b k w av) (tgR b) (fR b k w) s 0 j x) : Wk (enR b k w []) (tgR b) (fR b k w) s 0 j x := by
  induction h with
  | nil => exact .nil
  | step _ hd he ih => exact .step ih hd (enR_iff.2 ⟨(enR_iff.1 he).1, rfl⟩)
/-- A way that avoids nothing is no longer. -/
theorem detour_free {b : Gi_Board} (hb : BdLen b) {k w i j : Int} {av : List Int} (ha : av.length ≤ 2000000) {n : Int} (h : Di_DetourCost b k w i j av = some (n, true)) : ∃ m, Di_DetourCost b k w i j [] = some (m, true) ∧ m ≤ n := by
  cases c : avG b k w i j av with
  | false =>
    rw [(detour_none hb ha c).1] at h
    cases h
  | true =>
    obtain ⟨D, x, hx, h1, h2, e1, _⟩ := detour_some hb ha c
    rw [e1] at h
    have hx0 : ¬ x < 0 := fun hh => by rw [if_pos hh] at h; cases h
    rw [if_neg hx0] at h
    cases h
    have c0 : avG b k w i j [] = true := by
      unfold avG at c ⊢
      simp only [Bool.and_eq_true] at c ⊢
      exact ⟨c.1, rfl, rfl⟩
    obtain ⟨D0, x0, hx0', g1, g2, e0, _⟩ := detour_some hb (av := []) (by simp) c0
    have hm : MvOk b k w i := by
      unfold avG at c
      simp only [Bool.and_eq_true] at c
      exact mvG_ok hb c.1.1
    rcases h1.real _ _ hx with rfl | ⟨_, hw⟩
    · omega
    · obtain ⟨y, q1, q2, q3⟩ := (wk_free hw).low (grR hm []) g1.len g1.src g2
      rw [hx0'] at q1
      cases q1
      exact ⟨x0, by rw [e0, if_neg (by omega)], q3⟩
theorem meet_b {D1 D2 : List Int} {n : Nat} (hn : n ≤ 100) (l1 : D1.length = n) (l2 : D2.length = n) (b1 : ∀ x ∈ D1, -1 ≤ x ∧ x ≤ 110010) (b2 : ∀ x ∈ D2, -1 ≤ x ∧ x ≤ 110010) : ∀ (m i : Nat) (best : Int), i + m = n → (best = -1 ∨ 0 ≤ best ∧ best < i) → ∃ v, loop Bi_MeetingHex (.h1 best (n : Int) (i : Int) D1 D2) = some v ∧ loop Bs_MeetingHex (.h1 best (n : Int) (i : Int) D1 D2) = some v
  | 0, i, best, h, hb => by
    have : i = n := by omega
    subst this
    refine ⟨if best < 0 then (0, false) else (best, true), ?_, ?_⟩
    · rw [loop_eq]
      simp only [Bi_MeetingHex, nltc, if_false]
      split <;> rfl
    · rw [loop_eq]
      simp only [Bs_MeetingHex, nltc, if_false]
      split <;> rfl
  | m + 1, i, best, h, hb => by
    have hi : i < n := by omega
    have e1 : D1[i]? = some (D1[i]'(by omega)) := List.getElem?_eq_getElem _
    have e2 : D2[i]? = some (D2[i]'(by omega)) := List.getElem?_eq_getElem _
    have x1 := b1 _ (List.mem_of_getElem? e1)
    have x2 := b2 _ (List.mem_of_getElem? e2)
    generalize D1[i]'(by omega) = x at e1 x1
    generalize D2[i]'(by omega) = y at e2 x2
    have keep := meet_b hn l1 l2 b1 b2 m (i + 1) best (by omega) (by omega)
    have new := meet_b hn l1 l2 b1 b2 m (i + 1) (i : Int) (by omega) (by omega)
    conv => arg 1; ext v; rw [loop_eq, loop_eq (B := Bs_MeetingHex)]
    simp only [Bi_MeetingHex, Bs_MeetingHex, ltc hi, nnc, if_true, Int.toNat_natCast, e1, e2, Option.bind_some, wsucc (show i < 9223372036854775807 by omega)]
    by_cases c1 : x < 0
    · simp only [if_pos c1, goOn]; exact keep
    · simp only [if_neg c1]
      by_cases c2 : y < 0
      · simp only [if_pos c2, goOn]; exact keep
      · simp only [if_neg c2]
        by_cases c3 : best < 0
        · simp only [if_pos c3, goOn]; exact new
        · have hb0 : 0 ≤ best := by omega
          have e3 : D1[best.toNat]? = some (D1[best.toNat]'(by omega)) := List.getElem?_eq_getElem _
          have e4 : D2[best.toNat]? = some (D2[best.toNat]'(by omega)) := List.getElem?_eq_getElem _
          have x3 := b1 _ (List.mem_of_getElem? e3)
          have x4 := b2 _ (List.mem_of_getElem? e4)
          generalize D1[best.toNat]'(by omega) = u at e3 x3
          generalize D2[best.toNat]'(by omega) = v at e4 x4
          have m1 : Ds_l1Most x y = some (if x < y then y else x) := by unfold Ds_l1Most; split <;> split <;> first | rfl | (congr 1; omega)
          have m2 : Ds_l1Most u v = some (if u < v then v else u) := by unfold Ds_l1Most; split <;> split <;> first | rfl | (congr 1; omega)
          simp only [if_neg c3, if_pos hb0, e3, e4, m1, m2, Option.bind_some]
          generalize (if x < y then y else x) = p
          generalize (if u < v then v else u) = q
          by_cases c4 : p < q
          · simp only [if_pos c4, goOn]; exact new
          · simp only [if_neg c4]
            by_cases c5 : p = q
            · simp only [if_pos c5]
              by_cases c6 : IntKind.wrap .i64 (x + y) < IntKind.wrap .i64 (u + v)
              · simp only [if_pos c6, goOn]; exact new
              · simp only [if_neg c6, goOn]; exact keep
            · simp only [if_neg c5, goOn]; exact keep
theorem rx_bds {n : Nat} {en : Nat → Nat → Bool} {tg : Nat → Nat → Int} {f : Nat → Nat → Int → Int} {s : Nat} {l0 : Int} {D : List Int} (h : RxS n en tg f s l0 D) (hn : n ≤ 100) : ∀ x ∈ D, -1 ≤ x ∧ x ≤ 110010 := fun x hx => by
  obtain ⟨k, hk⟩ := List.getElem?_of_mem hx
  have := h.le hn hx
  rcases h.real k x hk with e | e <;> omega
theorem meeting_b {b : Gi_Board} (hb : BdLen b) (k w i j : Int) : ∃ v, Di_MeetingHex b k w i j = some v ∧ Ds_MeetingHex b k w i j = some v := by
  unfold Di_MeetingHex Ds_MeetingHex
  rw [trip_i hb, trAsk_s hb, trAsk_s hb]
  simp only [Option.bind_some]
  cases c1 : mvG b k w i with
  | false => exact ⟨_, rfl, rfl⟩
  | true =>
    cases c2 : mvG b k w j with
    | false => exact ⟨_, rfl, rfl⟩
    | true =>
      have hm := mvG_ok hb c1
      have hm2 := mvG_ok hb c2
      have hn := hm.v.ok.n2
      obtain ⟨D1, e1, e2, h1, _⟩ := relaxed_pFrom hm (av := []) (by simp)
      obtain ⟨D2, e3, e4, h2, _⟩ := relaxed_pFrom hm2 (av := []) (by simp)
      simp only [e1, e2, e3, e4, Option.bind_some, Bool.and_self, if_true, h1.len]
      exact meet_b hn.2 h1.len h2.len (rx_bds h1 hn.2) (rx_bds h2 hn.2) _ 0 (-1) (Nat.zero_add _) (.inl rfl)
theorem turns_need {b : Gi_Board} (hb : BdLen b) (k w i j : Int) : ∃ v, Di_TurnsNeeded b k w i j = some v ∧ Ds_TurnsNeeded b k w i j = some v := by
  unfold Di_TurnsNeeded Ds_TurnsNeeded
  rw [trip_i hb, trAsk_s hb, trAsk_s hb]
  simp only [Option.bind_some]
  cases c1 : mvG b k w i with
  | false => exact ⟨_, rfl, rfl⟩
  | true =>
    cases c2 : mvG b k w j with
    | false => exact ⟨_, rfl, rfl⟩
    | true =>
      have hm := mvG_ok hb c1
      have hj := (mvG_ok hb c2).i
      have hn := hm.v.ok.n2
      obtain ⟨D, e1, h1, g1⟩ := turnsTo_i hm
      obtain ⟨D', e2, h2, g2⟩ := pTurns_s hm
      have hx : D[j.toNat]? = some (D[j.toNat]'(by rw [h1.len]; omega)) := List.getElem?_eq_getElem _
      have hy : D'[j.toNat]? = some (D'[j.toNat]'(by rw [h2.len]; omega)) := List.getElem?_eq_getElem _
      generalize D[j.toNat]'(by rw [h1.len]; omega) = x at hx
      generalize D'[j.toNat]'(by rw [h2.len]; omega) = y at hy
      simp only [e1, e2, Option.bind_some, Bool.and_self, if_true, if_pos hj.1, hx, hy]
      rcases turns_b hm h1 g1 h2 g2 hx hy with ⟨q1, q2⟩ | ⟨q1, q2, q3, q4, q5, q6⟩
      · rw [if_pos q1, if_pos q2]
        exact ⟨_, rfl, rfl⟩
      · rw [if_neg (by omega), if_neg (by omega), Int.tdiv_eq_ediv_of_nonneg q1, Int.tdiv_eq_ediv_of_nonneg q2, w64 (n := x / 100) (by omega), w64 (n := y / 1000) (by omega), w64 (n := y / 1000 + 1) (by omega)]
        by_cases e : i = j
        · rw [if_pos e, q5 (by omega)]
          exact ⟨_, rfl, rfl⟩
        · rw [if_neg e, q6 (by omega)]
          exact ⟨_, rfl, rfl⟩
def SzOk (m : Gi_Map) : Prop := ∃ s, Ds_mSize m = some s ∧ s ≤ 200
theorem szDim {m : Gi_Map} (h : MpDim m 10) : SzOk m := ⟨_, mSize_s h (by decide), by have := mpSize h; omega⟩
theorem szAnyMap {c : Gs_l1Cur} {k : Int} (h : Cu c k) (hk : k + 1100 ≤ 1099511627776) : Ok (Ds_l1Cur_anyMap c) fun r => SzOk r.1 := by
  unfold Ds_l1Cur_anyMap
  refine Ok.bind (okMapOf h (by omega) 6) fun r1 h1 => Ok.bind (okPick h1.2 (by omega) 30) fun r2 h2 => ?_
  have d := h1.1.dim
  have d' := d
  unfold MpDim at d'
  have ht1 := h1.1.t1
  have hr := h1.1.r
  have ho := h1.1.o
  refine Ok.ite (fun _ => ?_) fun _ => Ok.ite (fun _ => ?_) fun _ => Ok.ite (fun _ => ?_) fun _ => Ok.ite (fun _ => ?_) fun _ => Ok.ret (szDim d)
  · refine Ok.bind (okAmong h2.2 (by omega) _ (by simp)) fun r4 h4 => Ok.ret ?_
    have hv : 0 ≤ r4.1 ∧ r4.1 ≤ 11 := by
      have := h4.1
      rw [w64 (by omega)] at this
      simp only [List.mem_cons, List.not_mem_nil, or_false] at this
      omega
    have hm := mulB (x := r4.1) (y := r1.1.Height) (M := 11) (N := 10) hv (by omega)
    exact ⟨r4.1 * r1.1.Height, by simp only [Ds_mSize]; rw [w64 (by omega)], by omega⟩
  · exact Ok.bind (okAmong h2.2 (by omega) _ (by simp)) fun r4 h4 => Ok.get (by omega) fun x _ _ => Ok.ret (szDim d)
  · exact Ok.eq (mSize_s d (by decide)) (Ok.eq (mSize_s d (by decide)) (Ok.bind (okAmong h2.2 (by omega) _ (by simp)) fun r4 h4 => Ok.chk (by simp only [List.length_append, List.length_singleton]; omega) (Ok.ret (szDim d))))
  · exact Ok.chk (by simp only [List.length_append, List.length_singleton]; omega) (Ok.ret (szDim d))
theorem Ok.and' {α : Type} {o : Option α} {P Q : α → Prop} (h : Ok o P) (g : Ok o Q) : Ok o fun a => P a ∧ Q a := by
  obtain ⟨a, e, p⟩ := h
  obtain ⟨a', e', q⟩ := g
  rw [e] at e'
  cases e'
  exact ⟨a, e, p, q⟩
theorem okAnyBoardS {c : Gs_l1Cur} {k : Int} (h : Cu c k) (hk : k + 2500 ≤ 1099511627776) : Ok (Ds_l1Cur_anyBoard c) fun r => (BdD r.1 ∧ Cu r.2 (k + 2500)) ∧ SzOk r.1.Map := by
  refine Ok.and' (okAnyBoard h hk) ?_
  have hB : Ok (Ds_l1Cur_board c) fun r => MpDim r.1.Map 10 := by
    unfold Ds_l1Cur_board
    exact Ok.bind (okRules h (by omega)) fun r1 h1 => Ok.bind (okMapOf h1.2 (by omega) _) fun r2 h2 => Ok.ret h2.1.dim
  unfold Ds_l1Cur_anyBoard
  refine Ok.bind (Ok.and' (okBoard h (by omega)) hB) fun r1 h1 => Ok.bind (okPick h1.1.2 (by omega) 24) fun r2 h2 => Ok.ite (fun _ => ?_) fun _ => Ok.ite (fun _ => ?_) fun _ => Ok.ret (szDim h1.2)
  · exact Ok.bind (okAnyRules h2.2 (by omega)) fun r4 h4 => Ok.ret (szDim h1.2)
  · exact Ok.bind (szAnyMap h2.2 (by omega)) fun r4 h4 => Ok.ret h4
theorem okTrek {c : Gs_l1Cur} {k : Int} (h : Cu c k) (hk : k + 4000 ≤ 1099511627776) : Ok (Ds_l1Cur_trek c) fun r => (BdD r.1 ∧ SzOk r.1.Map) ∧ Cu r.2.2.2.2.2 (k + 4000) := by
  unfold Ds_l1Cur_trek
  exact Ok.bind (okAnyBoardS h (by omega)) fun r1 h1 => Ok.bind (okKindOf h1.1.2 (by omega) _) fun r2 h2 => Ok.bind (okPick h2 (by omega) _) fun r3 h3 => Ok.bind (okPick h3.2 (by omega) _) fun r4 h4 => Ok.bind (okPick h4.2 (by omega) _) fun r5 h5 => Ok.bind (okPlace h5.2 (by omega) _) fun r6 h6 => Ok.bind (okPlace h6 (by omega) _) fun r7 h7 => Ok.ret ⟨⟨h1.1.1, h1.2⟩, h7.mono (by omega) (by omega)⟩
def dtI (b : Gi_Board) (k s : Int) : Ss_DrawDetourCost → Prop
  | .h1 _ _ _ _ x _ _ _ _ _ _ _ c b' l => 0 ≤ x ∧ (x = 0 ∨ x ≤ s) ∧ Cu c (k + 2 * x) ∧ b' = b ∧ (l.length : Int) ≤ x
def dtM (s : Int) : Ss_DrawDetourCost → Nat
  | .h1 _ _ _ _ x .. => (s - x).toNat
theorem okDetour {more : List Int} (hm : more.length < 9223372036854775808) (h2 : ∀ x ∈ more, 0 ≤ x ∧ x < 256) : Ok (Ds_DrawDetourCost more) fun r => BdD r.1 ∧ r.2.2.2.2.2.length ≤ 1000 := by
  unfold Ds_DrawDetourCost
  refine Ok.bind (okTrek (cu1 h2 hm) (by omega)) fun r1 h1 => ?_
  obtain ⟨⟨hb, s, hs, hs2⟩, hcu⟩ := h1
  refine Ok.loop (dtI r1.1 _ s) (dtM s) (fun st hI => ?_) ⟨Int.le_refl _, .inl rfl, by simpa using hcu, rfl, by simp⟩
  match st, hI with
  | .h1 a1 a2 a3 a4 x a5 a6 a7 a8 a9 a10 a11 c b' l, hI =>
    obtain ⟨g1, g2, g3, rfl, g4⟩ := hI
    simp only [Bs_DrawDetourCost]
    refine Ok.eq hs (Ok.ite (fun cx => Ok.bind (okOne g3 (by omega) 5) fun r3 h3 => Ok.ite (fun _ => Ok.chk (by simp; omega) (Ok.ret ?_)) fun _ => Ok.ret ?_) fun cx => Ok.bind (okOne g3 (by omega) 20) fun r3 h3 => Ok.ite (fun _ => Ok.eq hs (Ok.chk (by simp; omega) (Ok.ret ?_))) fun _ => Ok.ret ?_)
    · rw [w64 (n := x + 1) (by omega)]
      exact ⟨⟨by omega, .inr (by omega), h3.mono (by omega) (by omega), rfl, by simp; omega⟩, by simp only [dtM]; omega⟩
    · rw [w64 (n := x + 1) (by omega)]
      exact ⟨⟨by omega, .inr (by omega), h3.mono (by omega) (by omega), rfl, by omega⟩, by simp only [dtM]; omega⟩
    · exact ⟨hb, by simp only [List.length_append, List.length_singleton]; omega⟩
    · exact ⟨hb, by simp only; omega⟩
theorem treks_1 {more : List Int} {L M : List Int} (hL : L.length ≤ 1000) (hM : M.length ≤ 1000) (hs : ∀ x ∈ L, x ∈ M) : loop Bw_FnTreks (.h1 more (L.length : Int) 0 M L) = loop Bw_FnTreks (.h2 more) := by
  have key : ∀ (n j : Nat), j + n = L.length → loop Bw_FnTreks (.h1 more (L.length : Int) (j : Int) M L) = loop Bw_FnTreks (.h2 more) := by
    intro n
    induction n with
    | zero =>
      intro j h
      have : j = L.length := by omega
      subst this
      conv => lhs; rw [loop_eq]
      simp only [Bw_FnTreks, nltc, if_false, goOn]
    | succ n ih =>
      intro j h
      have hj : j < L.length := by omega
      have hx : L[j]? = some L[j] := List.getElem?_eq_getElem hj
      conv => lhs; rw [loop_eq]
      simp only [Bw_FnTreks, ltc hj, nnc, if_true, Int.toNat_natCast, hx, Option.bind_some, eQHas (show M.length ≤ 2000000 by omega), hasB_iff.2 (hs _ (List.mem_of_getElem? hx)), wsucc (show j < 9223372036854775807 by omega), goOn]
      exact ih (j + 1) (by omega)
  exact key L.length 0 (by omega)
theorem treks_3 {b : Gi_Board} (hb : BdLen b) (k w i j : Int) : loop Bw_FnTreks (.h3 k w i j b) = some true := by
  obtain ⟨v1, e1, e2⟩ := meeting_b hb k w i j
  obtain ⟨v2, e3, e4⟩ := turns_need hb k w i j
  rw [loop_eq]
  simp only [Bw_FnTreks, e1, e2, e3, e4, Option.bind_some, beq_self_eq_true, if_true, goOn]
theorem treks_2 {more : List Int} (hm : more.length < 9223372036854775808) (h2 : ∀ x ∈ more, 0 ≤ x ∧ x < 256) : loop Bw_FnTreks (.h2 more) = some true := by
  obtain ⟨r1, e1, hb, hl⟩ := okDetour hm h2
  rw [loop_eq]
  simp only [Bw_FnTreks, e1, Option.bind_some]
  cases c : avG r1.1 r1.2.1 r1.2.2.1 r1.2.2.2.1 r1.2.2.2.2.1 r1.2.2.2.2.2 with
  | false =>
    obtain ⟨d1, d2⟩ := detour_none hb.len (by omega) c
    simp only [d1, d2, Option.bind_some]
    exact treks_3 hb.len _ _ _ _
  | true =>
    obtain ⟨D, x, _, _, _, d1, d2⟩ := detour_some hb.len (by omega) c
    by_cases hx : x < 0
    · rw [if_pos hx] at d1 d2
      simp only [d1, d2, Option.bind_some]
      exact treks_3 hb.len _ _ _ _
    · rw [if_neg hx] at d1 d2
      obtain ⟨m, f1, f2⟩ := detour_free hb.len (by omega) d1
      simp only [d1, d2, f1, Option.bind_some, if_true]
      rw [if_neg (by simp), if_neg (by omega)]
      exact treks_3 hb.len _ _ _ _
theorem lawTreks (code more : List Int) (hc : code.length < 9223372036854775808) (hm : more.length < 9223372036854775808) (h1 : ∀ x ∈ code, 0 ≤ x ∧ x < 256) (h2 : ∀ x ∈ more, 0 ≤ x ∧ x < 256) : Dw_FnTreks code more = some true := Ok.isTrue <| by
  unfold Dw_FnTreks
  have d1 : Ok (Ds_DrawReachOf code) fun r => BdD r.1 ∧ r.2.2.2.2 ∈ [0, 1, 2, 4, 9, 1000, 1001, (-1)] := by
    unfold Ds_DrawReachOf
    exact Ok.bind (okTrek (cu1 h1 hc) (by omega)) fun r hr => Ok.bind (okAmong hr.2 (by omega) _ (by decide)) fun q hq => Ok.ret ⟨hr.1.1, hq.1⟩
  refine Ok.eq (eBig code more hc hm) (Ok.ite (fun _ => Ok.ret rfl) fun _ => Ok.bind d1 fun r3 hr3 => ?_)
  obtain ⟨hb, hmv⟩ := hr3
  have hmv' : -1 ≤ r3.2.2.2.2 ∧ r3.2.2.2.2 ≤ 1001 := by
    simp only [List.mem_cons, List.not_mem_nil, or_false] at hmv
    omega
  have t2 := treks_2 hm h2
  rcases reachOf_b hb.len r3.2.1 r3.2.2.1 r3.2.2.2.1 with ⟨_, hn⟩ | ⟨D, n, hn100, hr⟩
  · obtain ⟨e1, e2⟩ := hn r3.2.2.2.2
    refine Ok.eq e1 (Ok.els (by decide) (Ok.eq e2 (Ok.els (by decide) (Ok.eq (eSameInts [] (by simp)) (Ok.chk rfl ⟨true, t2, rfl⟩)))))
  · obtain ⟨e1, e2⟩ := hr r3.2.2.2.2
    by_cases ck : kIn r3.2.2.2.2 0 1000 = true
    · rw [if_pos ck] at e1 e2
      have hl := rcL_len D r3.2.2.2.2 n
      have ck' := kIn_iff.1 ck
      refine Ok.eq e1 (Ok.chk rfl (Ok.eq e2 (Ok.els (by simp) (Ok.eq (eSameInts _ (show (rcL D r3.2.2.2.2 n).length ≤ _ by omega)) (Ok.chk rfl (Ok.ite (fun c => ?_) fun _ => ⟨true, t2, rfl⟩))))))
      rw [w64 (by omega)]
      obtain ⟨e3, _⟩ := hr (r3.2.2.2.2 + 1)
      rw [if_pos (kIn_iff.2 (by omega))] at e3
      have hl2 := rcL_len D (r3.2.2.2.2 + 1) n
      refine Ok.eq e3 (Ok.chk rfl ⟨true, (treks_1 (by omega) (by omega) fun x hx => rcL_up hx).trans t2, rfl⟩)
    · rw [if_neg ck] at e1 e2
      refine Ok.eq e1 (Ok.els (by decide) (Ok.eq e2 (Ok.els (by decide) (Ok.eq (eSameInts [] (by simp)) (Ok.chk rfl ⟨true, t2, rfl⟩)))))

end Go.Proofs.YtakcjcjfcignjaaDoor.Ab
