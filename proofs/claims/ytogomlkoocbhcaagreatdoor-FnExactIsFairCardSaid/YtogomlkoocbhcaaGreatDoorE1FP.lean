/- Part of the proof of FnExactIsFairCard: no condition of its own. -/
import Derived.Test.YtogomlkoocbhcaaGreatDoorE1FD
import Derived.Test.YtogomlkoocbhcaaGreatDoorPuA
set_option linter.unusedVariables false
set_option linter.unusedSimpArgs false
open Go
namespace Go.Proofs.YtogomlkoocbhcaaGreatDoor.Ab
def md (x m : Int) : Int := Int.tmod (IntKind.wrap .i64 (Int.tmod x m + m)) m
def mx (x : Int) (s : Int × Int) : Int × Int :=
 (Int.tmod (IntKind.wrap .i64 (IntKind.wrap .i64 (IntKind.wrap .i64 (16807 * s.1) + md x 2147483647) + s.2)) 2147483647,
  Int.tmod (IntKind.wrap .i64 (IntKind.wrap .i64 (IntKind.wrap .i64 (39373 * s.2) + md x 2147483629) + Int.tmod (IntKind.wrap .i64 (IntKind.wrap .i64 (IntKind.wrap .i64 (16807 * s.1) + md x 2147483647) + s.2)) 2147483647)) 2147483629)
def mixR (l : List Int) : Int × Int := mx 1 (mx 1 (mx 1 (l.foldl (fun s x => mx x s) (7, (l.length : Int) + 1))))

def below (s k n : Int) : Int := Int.tmod (mixR [s, k, n]).1 n
theorem mulb {a b A B : Int} (ha : -A ≤ a ∧ a ≤ A) (hb : -B ≤ b ∧ b ≤ B) : -(A * B) ≤ a * b ∧ a * b ≤ A * B := by
 have h1 : a.natAbs ≤ A.natAbs := by omega
 have h2 : b.natAbs ≤ B.natAbs := by omega
 have h3 := Nat.mul_le_mul h1 h2
 rw [← Int.natAbs_mul, ← Int.natAbs_mul] at h3
 have : 0 ≤ A * B := Int.mul_nonneg (by omega) (by omega)
 omega

def hd (A B : Gi_Hex) : Int := ((B.Q - A.Q).natAbs + (B.R - A.R).natAbs + (B.Q - A.Q + (B.R - A.R)).natAbs : Nat) / 2

theorem side {A B : Gi_Hex} {n i q r : Int} (hn : 0 < n) (e : n = hd A B) (eq : q = A.Q * n + (B.Q - A.Q) * i) (er : r = A.R * n + (B.R - A.R) * i) : q % n = 0 ∨ r % n = 0 ∨ q % n + r % n = n := by
 have h : B.Q - A.Q = n ∨ B.Q - A.Q = -n ∨ B.R - A.R = n ∨ B.R - A.R = -n ∨ B.Q - A.Q + (B.R - A.R) = n ∨ B.Q - A.Q + (B.R - A.R) = -n := by
  unfold hd at e
  omega
 have z : ∀ k x y : Int, x = y * n + k * i → (k = n ∨ k = -n) → x % n = 0 := by
  intro k x y h1 h2
  apply Int.emod_eq_zero_of_dvd
  rcases h2 with h2 | h2
  ·exact ⟨y + i, by subst h2; subst h1; grind⟩
  ·exact ⟨y - i, by subst h2; subst h1; grind⟩
 rcases h with h | h | h | h | h | h
 ·exact .inl (z _ _ _ eq (.inl h))
 ·exact .inl (z _ _ _ eq (.inr h))
 ·exact .inr (.inl (z _ _ _ er (.inl h)))
 ·exact .inr (.inl (z _ _ _ er (.inr h)))
 all_goals
  have hs : (q + r) % n = 0 := z (B.Q - A.Q + (B.R - A.R)) (q + r) (A.Q + A.R) (by subst eq; subst er; grind) (by omega)
  rw [Int.add_emod] at hs
  have q3 := Int.emod_nonneg q (b := n) (by omega)
  have q4 := Int.emod_lt_of_pos q hn
  have r3 := Int.emod_nonneg r (b := n) (by omega)
  have r4 := Int.emod_lt_of_pos r hn
  rcases Int.lt_or_le (q % n + r % n) n with c | c
  ·rw [Int.emod_eq_of_lt (by omega) c] at hs
   omega
  ·have := Int.emod_add_mul_ediv (q % n + r % n - n) n
   have e2 : (q % n + r % n) % n = (q % n + r % n - n) % n := (Int.sub_emod_right ..).symm
   rw [e2, Int.emod_eq_of_lt (by omega) (by omega)] at hs
   omega

def dQ (d : Int) : Int := if d = 0 then 1 else if d = 1 then 1 else if d = 2 then 0 else if d = 3 then -1 else if d = 4 then -1 else 0
def dR (d : Int) : Int := if d = 0 then 0 else if d = 1 then -1 else if d = 2 then -1 else if d = 3 then 0 else 1
def hexGo (h : Gi_Hex) (d n : Int) : Gi_Hex := ⟨h.Q + n * dQ d, h.R + n * dR d⟩
def HexMid (h : Gi_Hex) : Prop := -10000 ≤ h.Q ∧ h.Q ≤ 10000 ∧ -10000 ≤ h.R ∧ h.R ≤ 10000

theorem sixDirs {d : Int} (h : 0 ≤ d ∧ d < 6) : d = 0 ∨ d = 1 ∨ d = 2 ∨ d = 3 ∨ d = 4 ∨ d = 5 := by omega
theorem dirGet {d : Int} (h : 0 ≤ d ∧ d < 6) : gv0[d.toNat]? = some ⟨dQ d, dR d⟩ := by
 rcases sixDirs h with rfl | rfl | rfl | rfl | rfl | rfl <;> rfl
theorem dirQ {d : Int} (h : 0 ≤ d ∧ d < 6) : [1, 1, 0, (-1), (-1), 0][d.toNat]? = some (dQ d) := by
 rcases sixDirs h with rfl | rfl | rfl | rfl | rfl | rfl <;> rfl
theorem dirR {d : Int} (h : 0 ≤ d ∧ d < 6) : [0, (-1), (-1), 0, 1, 1][d.toNat]? = some (dR d) := by
 rcases sixDirs h with rfl | rfl | rfl | rfl | rfl | rfl <;> rfl
theorem dirB {d : Int} (h : 0 ≤ d ∧ d < 6) (n : Int) : (n * dQ d = n ∨ n * dQ d = 0 ∨ n * dQ d = -n) ∧ (n * dR d = n ∨ n * dR d = 0 ∨ n * dR d = -n) := by
 rcases sixDirs h with rfl | rfl | rfl | rfl | rfl | rfl <;> simp [dQ, dR] <;> omega
theorem dirBack {d : Int} (h : 0 ≤ d ∧ d < 6) : 0 ≤ Int.tmod (d + 3) 6 ∧ Int.tmod (d + 3) 6 < 6 ∧ dQ (Int.tmod (d + 3) 6) = - dQ d ∧ dR (Int.tmod (d + 3) 6) = - dR d := by
 rcases sixDirs h with rfl | rfl | rfl | rfl | rfl | rfl <;> decide

theorem stepBy_i {h : Gi_Hex} {d n : Int} (hd : 0 ≤ d ∧ d < 6) (hh : HexMid h) (hn : -10000 ≤ n ∧ n ≤ 10000) : Di_stepBy h d n = some (hexGo h d n) := by
 obtain ⟨b1, b2⟩ := dirB hd n
 unfold HexMid at hh
 unfold Di_stepBy hexGo
 rw [if_pos hd.1, dirGet hd, Option.bind_some, if_pos hd.1, Option.bind_some]
 rw [w64 (n := n * dQ d) (by omega), w64 (n := n * dR d) (by omega), w64 (by omega), w64 (by omega)]
theorem hStep_s {h : Gi_Hex} {d : Int} (hd : 0 ≤ d ∧ d < 6) (hh : HexMid h) : Ds_hStep h d = some (hexGo h d 1) := by
 obtain ⟨b1, b2⟩ := dirB hd 1
 unfold HexMid at hh
 unfold Ds_hStep hexGo
 rw [if_pos hd.1, dirQ hd, Option.bind_some, if_pos hd.1, dirR hd, Option.bind_some]
 simp only [Int.one_mul] at b1 b2 ⊢
 rw [w64 (by omega), w64 (by omega)]
theorem hexBack (A : Gi_Hex) {d : Int} (h : 0 ≤ d ∧ d < 6) : hexGo (hexGo A d 1) (Int.tmod (d + 3) 6) 1 = A := by
 obtain ⟨k1, k2, k3, k4⟩ := dirBack h
 cases A
 simp only [hexGo, k3, k4, Int.one_mul]
 congr 1 <;> omega

def MpDim (m : Gi_Map) (b : Int) : Prop := 1 ≤ m.Width ∧ m.Width ≤ b ∧ 1 ≤ m.Height ∧ m.Height ≤ b
def mpHex (m : Gi_Map) (i : Int) : Gi_Hex := ⟨i % m.Width, i / m.Width⟩
theorem mpDiv {i w : Int} (hi : 0 ≤ i) (hw : 1 ≤ w) : 0 ≤ i / w ∧ i / w ≤ i ∧ 0 ≤ i % w ∧ i % w < w := ⟨Int.ediv_nonneg hi (by omega), Int.ediv_le_self _ hi, Int.emod_nonneg _ (by omega), Int.emod_lt_of_pos _ (by omega)⟩
theorem hexOf_b {m : Gi_Map} {i : Int} (hw : 1 ≤ m.Width) (hi : 0 ≤ i ∧ i ≤ 10000) : Di_hexOf m i = some (mpHex m i) ∧ Ds_mHex m i = some (mpHex m i) := by
 obtain ⟨d1, d2, d3, d4⟩ := mpDiv hi.1 hw
 have h0 : ¬ m.Width = 0 := by omega
 unfold Di_hexOf Ds_mHex mpHex
 rw [if_pos h0, if_pos h0, Int.tmod_eq_emod_of_nonneg hi.1, Int.tdiv_eq_ediv_of_nonneg hi.1, w64 (by omega)]
 exact ⟨rfl, rfl⟩
theorem mpHex_mid {m : Gi_Map} {i : Int} (hw : 1 ≤ m.Width ∧ m.Width ≤ 100) (hi : 0 ≤ i ∧ i ≤ 10000) : HexMid (mpHex m i) := by
 obtain ⟨d1, d2, d3, d4⟩ := mpDiv hi.1 hw.1
 unfold HexMid mpHex
 simp only
 omega
def mpIdx (m : Gi_Map) (h : Gi_Hex) : Int := if 0 ≤ h.Q ∧ h.Q ≤ m.Width - 1 ∧ 0 ≤ h.R ∧ h.R ≤ m.Height - 1 then h.R * m.Width + h.Q else -1
theorem indexOf_b {m : Gi_Map} {h : Gi_Hex} (hd : MpDim m 100) : Di_indexOf m h = some (mpIdx m h) ∧ Ds_mIndex m h = some (mpIdx m h) := by
 unfold MpDim at hd
 unfold Di_indexOf Ds_mIndex Di_isIndex Di_inRange Ds_l1In mpIdx
 rw [w64 (n := m.Width - 1) (by omega), w64 (n := m.Height - 1) (by omega)]
 by_cases c1 : 0 ≤ h.Q
 ·by_cases c2 : h.Q ≤ m.Width - 1
  ·by_cases c3 : 0 ≤ h.R
   ·by_cases c4 : h.R ≤ m.Height - 1
    ·have hm := mulb (a := h.R) (b := m.Width) (A := 100) (B := 100) (by omega) (by omega)
     simp only [c1, c2, c3, c4, if_true, Option.bind_some, decide_true, ge_iff_le, and_self]
     rw [w64 (n := h.R * m.Width) (by omega), w64 (by omega)]
    ·simp [c1, c2, c3, c4]
   ·simp [c1, c2, c3]
  ·simp [c1, c2]
 ·simp [c1]
def mpNext (m : Gi_Map) (i d : Int) : Int := mpIdx m (hexGo (mpHex m i) d 1)
theorem next_b {m : Gi_Map} {i d : Int} (hd : MpDim m 100) (hi : 0 ≤ i ∧ i ≤ 10000) (h6 : 0 ≤ d ∧ d < 6) : Di_nextTo m i d = some (mpNext m i d) ∧ Ds_mNext m i d = some (mpNext m i d) := by
 have hd' := hd
 unfold MpDim at hd'
 have hm := mpHex_mid (m := m) (i := i) ⟨hd'.1, hd'.2.1⟩ hi
 obtain ⟨a1, a2⟩ := hexOf_b (m := m) hd'.1 hi
 obtain ⟨b1, b2⟩ := indexOf_b (h := hexGo (mpHex m i) d 1) hd
 unfold Di_nextTo Ds_mNext
 rw [a1, a2, Option.bind_some, Option.bind_some, stepBy_i h6 hm (by decide), hStep_s h6 hm, Option.bind_some, Option.bind_some, b1, b2]
 exact ⟨rfl, rfl⟩
theorem mpMul {w h r q : Int} (hq : 0 ≤ q ∧ q ≤ w - 1) (hr : 0 ≤ r ∧ r ≤ h - 1) : 0 ≤ r * w + q ∧ r * w + q < w * h := by
 have h1 : r * w ≤ (h - 1) * w := Int.mul_le_mul_of_nonneg_right hr.2 (by omega)
 have h2 : 0 ≤ r * w := Int.mul_nonneg hr.1 (by omega)
 rw [Int.sub_mul, Int.one_mul, Int.mul_comm h w] at h1
 omega
theorem mpIdx_hex {m : Gi_Map} {h : Gi_Hex} (hk : 0 ≤ mpIdx m h) : mpHex m (mpIdx m h) = h ∧ mpIdx m h < m.Width * m.Height := by
 unfold mpIdx at hk ⊢
 by_cases c : 0 ≤ h.Q ∧ h.Q ≤ m.Width - 1 ∧ 0 ≤ h.R ∧ h.R ≤ m.Height - 1
 ·rw [if_pos c]
  have e := (Int.ediv_emod_unique (a := h.R * m.Width + h.Q) (b := m.Width) (r := h.Q) (q := h.R) (by omega)).2 ⟨by rw [Int.mul_comm]; omega, c.1, by omega⟩
  refine ⟨?_, (mpMul ⟨c.1, c.2.1⟩ c.2.2).2⟩
  unfold mpHex
  rw [e.1, e.2]
 ·rw [if_neg c] at hk
  omega
theorem mpHex_idx {m : Gi_Map} {i : Int} (hd : MpDim m 100) (hi : 0 ≤ i ∧ i < m.Width * m.Height) : mpIdx m (mpHex m i) = i := by
 unfold MpDim at hd
 obtain ⟨d1, d2, d3, d4⟩ := mpDiv hi.1 hd.1
 have d5 : i / m.Width < m.Height := Int.ediv_lt_of_lt_mul (by omega) (by rw [Int.mul_comm]; exact hi.2)
 unfold mpIdx mpHex
 simp only
 rw [if_pos ⟨d3, by omega, d1, by omega⟩, Int.mul_comm]
 exact Int.mul_ediv_add_emod i m.Width
theorem mpSize {m : Gi_Map} {b : Int} (hd : MpDim m b) : 1 ≤ m.Width * m.Height ∧ m.Width * m.Height ≤ b * b := by
 unfold MpDim at hd
 constructor
 ·have := Int.mul_le_mul hd.1 hd.2.2.1 (by decide) (by omega)
  omega
 ·exact Int.mul_le_mul hd.2.1 hd.2.2.2 (by omega) (by omega)
theorem mSize_s {m : Gi_Map} {b : Int} (hd : MpDim m b) (hb : b * b ≤ 2000000) : Ds_mSize m = some (m.Width * m.Height) := by
 have := mpSize hd
 unfold Ds_mSize
 rw [w64 (by omega)]

def mpEdgeOk (m : Gi_Map) (e : Int) : Bool := decide (0 ≤ e) && decide (e ≤ 3 * (m.Width * m.Height) - 1) && decide (0 ≤ mpNext m (e / 3) (e % 3))
theorem mpEdge_iff {m : Gi_Map} {e : Int} : mpEdgeOk m e = true ↔ 0 ≤ e ∧ e ≤ 3 * (m.Width * m.Height) - 1 ∧ 0 ≤ mpNext m (e / 3) (e % 3) := by
 simp [mpEdgeOk, and_assoc]
theorem isEdge_i {m : Gi_Map} {e : Int} (hd : MpDim m 10) : Di_isEdge m e = some (mpEdgeOk m e) := by
 have hs := mpSize hd
 have hd1 : MpDim m 100 := by unfold MpDim at hd ⊢; omega
 have hd' := hd
 unfold MpDim at hd'
 unfold Di_isEdge Di_inRange mpEdgeOk
 have e1 : 3 * m.Width * m.Height = 3 * (m.Width * m.Height) := Int.mul_assoc _ _ _
 rw [w64 (n := 3 * m.Width) (by omega), e1, w64 (n := 3 * (m.Width * m.Height)) (by omega), w64 (n := 3 * (m.Width * m.Height) - 1) (by omega)]
 by_cases c1 : 0 ≤ e
 ·by_cases c2 : e ≤ 3 * (m.Width * m.Height) - 1
  ·have h3 : 0 ≤ e / 3 ∧ e / 3 ≤ 10000 := by omega
   simp only [c1, c2, if_true, Option.bind_some, decide_true, Bool.true_and]
   rw [Int.tdiv_eq_ediv_of_nonneg c1, Int.tmod_eq_emod_of_nonneg c1, w64 (by omega), (next_b hd1 h3 (by omega)).1]
   rfl
  ·simp [c1, c2]
 ·simp [c1]
def rsB (l : List Int) : Nat → Nat → Bool
 | 0, _ => true
 | n + 1, i => (match l[i - 1]?, l[i]? with
  | some x, some y => decide (x < y)
  | _, _ => true) && rsB l n (i + 1)
def rising (l : List Int) : Bool := rsB l (l.length - 1) 1
theorem incr_i {l : List Int} (hl : l.length ≤ 2000000) : ∀ (n i : Nat), 1 ≤ i → (i + n = l.length ∨ n = 0 ∧ l.length ≤ i ∧ i ≤ 1) → loop Bi_increasing (.h1 l (i : Int)) = some (rsB l n i)
 | 0, i, h1, h => by
  rw [loop_eq]
  simp only [Bi_increasing]
  rw [if_neg (by omega)]
  rfl
 | n + 1, i, h1, h => by
  have hx : l[i - 1]? = some l[i - 1] := List.getElem?_eq_getElem (by omega)
  have hy : l[i]? = some l[i] := List.getElem?_eq_getElem (by omega)
  have ih := incr_i hl n (i + 1) (by omega) (by omega)
  have e : IntKind.wrap .i64 ((i : Int) - 1) = ((i - 1 : Nat) : Int) := by rw [w64 (by omega)]; omega
  rw [loop_eq]
  simp only [Bi_increasing, rsB, e, Int.toNat_natCast, hx, hy, Option.bind_some]
  rw [if_pos (by omega), if_pos (by omega), if_pos (by omega), wsucc (by omega)]
  by_cases c : l[i - 1] < l[i]
  ·rw [if_neg (by omega), decide_eq_true c, Bool.true_and]
   exact ih
  ·rw [if_pos (by omega), decide_eq_false c, Bool.false_and]
   rfl
theorem increasing_i {l : List Int} (hl : l.length ≤ 2000000) : Di_increasing l = some (rising l) := incr_i hl (l.length - 1) 1 (Nat.le_refl _) (by omega)
theorem in_b {x lo hi : Int} : Ds_l1In x lo hi = some (decide (lo ≤ x) && decide (x ≤ hi)) := by
 unfold Ds_l1In
 by_cases c : lo ≤ x <;> simp [c]
theorem rise_s {l : List Int} {hi : Int} (hl : l.length ≤ 2000000) (ha : ∀ x ∈ l, 0 ≤ x ∧ x ≤ hi) : ∀ (n i : Nat), 1 ≤ i → (i + n = l.length) → loop Bs_l1Rising (.h1 l 0 hi l (l.length : Int) (i : Int)) = some (rsB l n i)
 | 0, i, h1, h => by
  rw [loop_eq]
  simp only [Bs_l1Rising]
  rw [if_neg (by omega)]
  rfl
 | n + 1, i, h1, h => by
  have hx : l[i - 1]? = some l[i - 1] := List.getElem?_eq_getElem (by omega)
  have hy : l[i]? = some l[i] := List.getElem?_eq_getElem (by omega)
  have ih := rise_s hl ha n (i + 1) (by omega) (by omega)
  obtain ⟨a1, a2⟩ := ha l[i] (List.getElem_mem (by omega))
  have e : IntKind.wrap .i64 ((i : Int) - 1) = ((i - 1 : Nat) : Int) := by rw [w64 (by omega)]; omega
  rw [loop_eq]
  simp only [Bs_l1Rising, rsB, e, Int.toNat_natCast, hx, hy, Option.bind_some, in_b, a1, a2, decide_true, Bool.and_self, if_true]
  rw [if_pos (by omega), if_pos (by omega), if_pos (by omega), if_pos (by omega), wsucc (by omega)]
  by_cases c : l[i - 1] < l[i]
  ·rw [if_neg (by omega), decide_eq_true c, Bool.true_and]
   exact ih
  ·rw [if_pos (by omega), decide_eq_false c, Bool.false_and]
   rfl
theorem rising_s {l : List Int} {hi : Int} (hl : l.length ≤ 2000000) (ha : ∀ x ∈ l, 0 ≤ x ∧ x ≤ hi) : Ds_l1Rising l 0 hi = some (rising l) := by
 unfold Ds_l1Rising rising
 by_cases z : l.length = 0
 ·have : l = [] := List.length_eq_zero_iff.1 z
  subst this
  rw [loop_eq]
  rfl
 ·have hy : l[0]? = some l[0] := List.getElem?_eq_getElem (by omega)
  obtain ⟨a1, a2⟩ := ha l[0] (List.getElem_mem (by omega))
  have := rise_s hl ha (l.length - 1) 1 (Nat.le_refl _) (by omega)
  rw [loop_eq]
  have e0 : l[Int.toNat 0]? = some l[0] := hy
  simp only [Bs_l1Rising, e0, Option.bind_some, in_b, a1, a2, decide_true, Bool.and_self, if_true]
  rw [if_pos (by omega), if_pos (by decide), if_neg (by decide)]
  exact this
def mpList (m : Gi_Map) (l : List Int) : Bool := l.all (mpEdgeOk m) && rising l
theorem edgesGo_s {m : Gi_Map} (hd : MpDim m 10) {l : List Int} (hl : l.length ≤ 2000000) : ∀ (n i : Nat), i + n = l.length → (∀ x ∈ l.take i, mpEdgeOk m x = true) → loop Bs_mEdges (.h1 l l (l.length : Int) (i : Int) m) = some ((l.drop i).all (mpEdgeOk m) && rising l)
 | 0, i, h, hb => by
  have hs := mpSize hd
  rw [List.take_of_length_le (by omega)] at hb
  rw [loop_eq, List.drop_of_length_le (by omega)]
  simp only [Bs_mEdges]
  rw [if_neg (by omega), mSize_s hd (by decide), Option.bind_some, w64 (n := 3 * (m.Width * m.Height)) (by omega), w64 (by omega), rising_s hl (fun x hx => by
   have := mpEdge_iff.1 (hb x hx)
   omega)]
  rfl
 | n + 1, i, h, hb => by
  have hs := mpSize hd
  have hd1 : MpDim m 100 := by unfold MpDim at hd ⊢; omega
  have hx : l[i]? = some l[i] := List.getElem?_eq_getElem (by omega)
  rw [loop_eq, List.drop_eq_getElem_cons (by omega), List.all_cons]
  simp only [Bs_mEdges]
  rw [if_pos (by omega), if_pos (by omega), Int.toNat_natCast, hx, Option.bind_some, mSize_s hd (by decide), Option.bind_some, w64 (n := 3 * (m.Width * m.Height)) (by omega), w64 (n := 3 * (m.Width * m.Height) - 1) (by omega), in_b, Option.bind_some, wsucc (by omega)]
  by_cases c : 0 ≤ l[i] ∧ l[i] ≤ 3 * (m.Width * m.Height) - 1
  ·rw [if_pos (by simp [c.1, c.2])]
   have h3 : 0 ≤ l[i] / 3 ∧ l[i] / 3 ≤ 10000 := by omega
   rw [Int.tdiv_eq_ediv_of_nonneg c.1, Int.tmod_eq_emod_of_nonneg c.1, w64 (by omega), (next_b hd1 h3 (by omega)).2, Option.bind_some]
   by_cases c3 : 0 ≤ mpNext m (l[i] / 3) (l[i] % 3)
   ·have hok : mpEdgeOk m l[i] = true := mpEdge_iff.2 ⟨c.1, c.2, c3⟩
    rw [if_neg (by omega), hok, Bool.true_and]
    refine edgesGo_s hd hl n (i + 1) (by omega) fun x hx' => ?_
    rw [List.take_add_one, hx] at hx'
    rcases List.mem_append.1 hx' with hx' | hx'
    ·exact hb x hx'
    ·simp at hx'; subst hx'; exact hok
   ·have hok : mpEdgeOk m l[i] = false := by
     cases hh : mpEdgeOk m l[i] with
     | false => rfl
     | true => exact absurd (mpEdge_iff.1 hh).2.2 c3
    rw [if_pos (by omega), hok, Bool.false_and, Bool.false_and]
    rfl
  ·have hok : mpEdgeOk m l[i] = false := by
    cases hh : mpEdgeOk m l[i] with
    | false => rfl
    | true => exact absurd ⟨(mpEdge_iff.1 hh).1, (mpEdge_iff.1 hh).2.1⟩ c
   rw [if_neg (by simp only [Bool.and_eq_true, decide_eq_true_eq]; exact c), hok, Bool.false_and, Bool.false_and]
   rfl
theorem edges_s {m : Gi_Map} (hd : MpDim m 10) {l : List Int} (hl : l.length ≤ 2000000) : Ds_mEdges m l = some (mpList m l) := by
 have := edgesGo_s hd hl l.length 0 (by omega) (fun x hx => by simp at hx)
 rw [List.drop_zero] at this
 exact this
def terrOk (x : Int) : Bool := decide (0 ≤ x) && decide (x ≤ 5)
theorem terr_s {l : List Int} (hl : l.length ≤ 2000000) : ∀ (n i : Nat), i + n = l.length → loop Bs_l1All (.h1 0 5 l (l.length : Int) (i : Int)) = some ((l.drop i).all terrOk)
 | 0, i, h => by
  rw [loop_eq, List.drop_of_length_le (by omega)]
  simp only [Bs_l1All]
  rw [if_neg (by omega)]
  rfl
 | n + 1, i, h => by
  have hx : l[i]? = some l[i] := List.getElem?_eq_getElem (by omega)
  have ih := terr_s hl n (i + 1) (by omega)
  rw [loop_eq, List.drop_eq_getElem_cons (by omega), List.all_cons]
  simp only [Bs_l1All]
  rw [if_pos (by omega), if_pos (by omega), Int.toNat_natCast, hx, Option.bind_some, in_b, Option.bind_some, wsucc (by omega)]
  by_cases c : terrOk l[i] = true
  ·have c' := c
   unfold terrOk at c'
   rw [if_pos c', c, Bool.true_and]
   exact ih
  ·have c' := c
   unfold terrOk at c'
   rw [if_neg c']
   simp only [Bool.not_eq_true] at c
   rw [c, Bool.false_and]
   rfl
theorem edgeLoop_i {m : Gi_Map} (hd : MpDim m 10) {l : List Int} (hl : l.length ≤ 2000000) {t0 t1 : Int} {L : List (List Int)} : ∀ (n i : Nat), i + n = l.length →
  loop Bi_IsMap (.h3 t0 t1 l (l.length : Int) (i : Int) m L) = if (l.drop i).all (mpEdgeOk m) = true then loop Bi_IsMap (.h2 t0 (IntKind.wrap .i64 (t1 + 1)) m L) else some false
 | 0, i, h => by
  rw [loop_eq, List.drop_of_length_le (by omega)]
  simp only [Bi_IsMap]
  rw [if_neg (by omega), if_pos (by rfl)]
  rfl
 | n + 1, i, h => by
  have hx : l[i]? = some l[i] := List.getElem?_eq_getElem (by omega)
  have ih := edgeLoop_i hd hl (t0 := t0) (t1 := t1) (L := L) n (i + 1) (by omega)
  rw [loop_eq, List.drop_eq_getElem_cons (by omega), List.all_cons]
  simp only [Bi_IsMap]
  rw [if_pos (by omega), if_pos (by omega), Int.toNat_natCast, hx, Option.bind_some, isEdge_i hd, Option.bind_some, wsucc (by omega)]
  by_cases c : mpEdgeOk m l[i] = true
  ·rw [if_pos c, c, Bool.true_and]
   exact ih
  ·rw [if_neg c]
   simp only [Bool.not_eq_true] at c
   rw [c, Bool.false_and, if_neg (by decide)]
   rfl
theorem lists_i {m : Gi_Map} (hd : MpDim m 10) (hr : m.Rivers.length ≤ 2000000) (ho : m.Roads.length ≤ 2000000) : loop Bi_IsMap (.h2 2 0 m [m.Rivers, m.Roads]) = some (mpList m m.Rivers && mpList m m.Roads) := by
 have i1 := edgeLoop_i hd hr (t0 := 2) (t1 := 0) (L := [m.Rivers, m.Roads]) m.Rivers.length 0 (by omega)
 have i2 := edgeLoop_i hd ho (t0 := 2) (t1 := 1) (L := [m.Rivers, m.Roads]) m.Roads.length 0 (by omega)
 rw [List.drop_zero, show IntKind.wrap .i64 (0 + 1) = 1 from by decide] at i1
 rw [List.drop_zero, show IntKind.wrap .i64 (1 + 1) = 2 from by decide] at i2
 have e3 : loop Bi_IsMap (.h2 2 2 m [m.Rivers, m.Roads]) = some true := by rw [loop_eq]; rfl
 have e2 : loop Bi_IsMap (.h2 2 1 m [m.Rivers, m.Roads]) = some (mpList m m.Roads) := by
  rw [loop_eq]
  simp only [Bi_IsMap]
  rw [if_pos (by decide), if_pos (by decide), show [m.Rivers, m.Roads][Int.toNat 1]? = some m.Roads from rfl, Option.bind_some, increasing_i ho, Option.bind_some]
  unfold mpList
  by_cases c : rising m.Roads = true
  ·rw [if_pos c, c, Bool.and_true]
   refine (show _ = _ from i2).trans ?_
   rw [e3]
   by_cases c2 : m.Roads.all (mpEdgeOk m) = true
   ·rw [if_pos c2, c2]
   ·rw [if_neg c2]
    simp only [Bool.not_eq_true] at c2
    rw [c2]
  ·rw [if_neg c]
   simp only [Bool.not_eq_true] at c
   rw [c, Bool.and_false]
   rfl
 rw [loop_eq]
 simp only [Bi_IsMap]
 rw [if_pos (by decide), if_pos (by decide), show [m.Rivers, m.Roads][Int.toNat 0]? = some m.Rivers from rfl, Option.bind_some, increasing_i hr, Option.bind_some]
 by_cases c : rising m.Rivers = true
 ·rw [if_pos c]
  refine (show _ = _ from i1).trans ?_
  rw [e2]
  unfold mpList
  rw [c, Bool.and_true]
  by_cases c2 : m.Rivers.all (mpEdgeOk m) = true
  ·rw [if_pos c2, c2, Bool.true_and]
  ·rw [if_neg c2]
   simp only [Bool.not_eq_true] at c2
   rw [c2, Bool.false_and]
 ·rw [if_neg c]
  simp only [Bool.not_eq_true] at c
  unfold mpList
  rw [c, Bool.and_false, Bool.false_and]
  rfl
theorem terr_i {m : Gi_Map} {l : List Int} (hl : l.length ≤ 2000000) : ∀ (n i : Nat), i + n = l.length → loop Bi_IsMap (.h1 l (l.length : Int) (i : Int) m) = if (l.drop i).all terrOk = true then loop Bi_IsMap (.h2 2 0 m [m.Rivers, m.Roads]) else some false
 | 0, i, h => by
  rw [loop_eq, List.drop_of_length_le (by omega)]
  simp only [Bi_IsMap]
  rw [if_neg (by omega), if_pos (by rfl)]
  rfl
 | n + 1, i, h => by
  have hx : l[i]? = some l[i] := List.getElem?_eq_getElem (by omega)
  have ih := terr_i hl (m := m) n (i + 1) (by omega)
  have e : Di_isIndex l[i] 6 = some (terrOk l[i]) := by
   unfold Di_isIndex Di_inRange terrOk
   rw [show IntKind.wrap .i64 (6 - 1) = 5 from by decide]
   by_cases c : 0 ≤ l[i] <;> simp [c]
  rw [loop_eq, List.drop_eq_getElem_cons (by omega), List.all_cons]
  simp only [Bi_IsMap]
  rw [if_pos (by omega), if_pos (by omega), Int.toNat_natCast, hx, Option.bind_some, e, Option.bind_some, wsucc (by omega)]
  by_cases c : terrOk l[i] = true
  ·rw [if_pos c, c, Bool.true_and]
   exact ih
  ·rw [if_neg c]
   simp only [Bool.not_eq_true] at c
   rw [c, Bool.false_and, if_neg (by decide)]
   rfl
def MpLen (m : Gi_Map) : Prop := m.Terrain.length ≤ 2000000 ∧ m.Rivers.length ≤ 2000000 ∧ m.Roads.length ≤ 2000000
def mpGood (m : Gi_Map) : Bool := decide (1 ≤ m.Width) && decide (m.Width ≤ 10) && decide (1 ≤ m.Height) && decide (m.Height ≤ 10) && decide ((m.Terrain.length : Int) = m.Width * m.Height) && m.Terrain.all terrOk && mpList m m.Rivers && mpList m m.Roads
theorem mpGood_dim {m : Gi_Map} (h : mpGood m = true) : MpDim m 10 ∧ (m.Terrain.length : Int) = m.Width * m.Height ∧ mpList m m.Rivers = true ∧ mpList m m.Roads = true := by
 simp only [mpGood, Bool.and_eq_true, decide_eq_true_eq] at h
 exact ⟨⟨h.1.1.1.1.1.1.1, h.1.1.1.1.1.1.2, h.1.1.1.1.1.2, h.1.1.1.1.2⟩, h.1.1.1.2, h.1.2, h.2⟩
theorem isMap_i {m : Gi_Map} (hl : MpLen m) : Di_IsMap m = some (mpGood m) := by
 unfold Di_IsMap Di_inRange mpGood
 by_cases c1 : 1 ≤ m.Width
 ·by_cases c2 : m.Width ≤ 10
  ·by_cases c3 : 1 ≤ m.Height
   ·by_cases c4 : m.Height ≤ 10
    ·have hd : MpDim m 10 := ⟨c1, c2, c3, c4⟩
     have hs := mpSize hd
     have t := terr_i hl.1 (m := m) m.Terrain.length 0 (by omega)
     rw [List.drop_zero, lists_i hd hl.2.1 hl.2.2] at t
     simp only [c1, c2, c3, c4, if_true, Option.bind_some, decide_true, Bool.true_and]
     rw [w64 (by omega)]
     by_cases c5 : (m.Terrain.length : Int) = m.Width * m.Height
     ·rw [if_pos c5]
      refine (show _ = _ from t).trans ?_
      simp only [c5, decide_true, Bool.true_and]
      by_cases c6 : m.Terrain.all terrOk = true
      ·rw [if_pos c6, c6, Bool.true_and]
      ·rw [if_neg c6]
       simp only [Bool.not_eq_true] at c6
       rw [c6]
       rfl
     ·rw [if_neg c5]
      simp [c5]
    ·simp [c1, c2, c3, c4]
   ·simp [c1, c2, c3]
  ·simp [c1, c2]
 ·simp [c1]
theorem good_m {m : Gi_Map} (hl : MpLen m) : Ds_mGood m = some (mpGood m) := by
 unfold Ds_mGood mpGood
 rw [in_b, in_b]
 by_cases c1 : 1 ≤ m.Width
 ·by_cases c2 : m.Width ≤ 10
  ·by_cases c3 : 1 ≤ m.Height
   ·by_cases c4 : m.Height ≤ 10
    ·have hd : MpDim m 10 := ⟨c1, c2, c3, c4⟩
     have t := terr_s hl.1 m.Terrain.length 0 (by omega)
     rw [List.drop_zero] at t
     have t' : Ds_l1All m.Terrain 0 5 = some (m.Terrain.all terrOk) := t
     simp only [c1, c2, c3, c4, if_true, Option.bind_some, decide_true, Bool.true_and, mSize_s hd (by decide), edges_s hd hl.2.1, edges_s hd hl.2.2, t']
     by_cases c5 : (m.Terrain.length : Int) = m.Width * m.Height
     ·simp only [c5, decide_true, Bool.true_and, if_true]
      by_cases c6 : m.Terrain.all terrOk = true
      ·rw [if_pos c6, c6, Bool.true_and]
       by_cases c7 : mpList m m.Rivers = true
       ·rw [if_pos c7, c7, Bool.true_and]
       ·rw [if_neg c7]
        simp only [Bool.not_eq_true] at c7
        rw [c7, Bool.false_and]
      ·rw [if_neg c6]
       simp only [Bool.not_eq_true] at c6
       rw [c6]
       rfl
     ·simp [c5]
    ·simp [c1, c2, c3, c4]
   ·simp [c1, c2, c3]
  ·simp [c1, c2]
 ·simp [c1]


def mpOn (m : Gi_Map) (i : Int) : Bool := mpGood m && (decide (0 ≤ i) && decide (i ≤ m.Width * m.Height - 1))
theorem mpOn_iff {m : Gi_Map} {i : Int} : mpOn m i = true ↔ mpGood m = true ∧ 0 ≤ i ∧ i < m.Width * m.Height := by
 simp only [mpOn, Bool.and_eq_true, decide_eq_true_eq]
 exact ⟨fun h => ⟨h.1, h.2.1, by omega⟩, fun h => ⟨h.1, h.2.1, by omega⟩⟩
theorem mpOn_dim {m : Gi_Map} {i : Int} (h : mpOn m i = true) : MpDim m 10 ∧ MpDim m 100 ∧ 0 ≤ i ∧ i ≤ 10000 ∧ i < m.Width * m.Height := by
 obtain ⟨h1, h2, h3⟩ := mpOn_iff.1 h
 have hd := (mpGood_dim h1).1
 have hs := mpSize hd
 refine ⟨hd, ?_, h2, by omega, h3⟩
 unfold MpDim at hd ⊢
 omega
theorem mpNext_lt {m : Gi_Map} {i d : Int} (h : 0 ≤ mpNext m i d) : mpNext m i d < m.Width * m.Height ∧ mpHex m (mpNext m i d) = hexGo (mpHex m i) d 1 := by
 obtain ⟨h1, h2⟩ := mpIdx_hex (m := m) (h := hexGo (mpHex m i) d 1) h
 exact ⟨h2, h1⟩
def kIn (x lo hi : Int) : Bool := decide (lo ≤ x) && decide (x ≤ hi)
theorem kIn_iff {x lo hi : Int} : kIn x lo hi = true ↔ lo ≤ x ∧ x ≤ hi := by simp [kIn]
theorem kin_i (x lo hi : Int) : Di_inRange x lo hi = some (kIn x lo hi) := by
 unfold Di_inRange kIn
 by_cases c : lo ≤ x <;> simp [c]
theorem kin_s (x lo hi : Int) : Ds_l1In x lo hi = some (kIn x lo hi) := by
 unfold Ds_l1In kIn
 by_cases c : lo ≤ x
 ·rw [if_pos c]; simp [c]
 ·rw [if_neg c]; simp [c]
theorem ifB (b : Bool) : (if b = true then some true else some false) = some b := by cases b <;> rfl
theorem ifNB (b : Bool) : (if b = true then some false else some true) = some (!b) := by cases b <;> rfl

theorem all_goL {σ α ρ : Type} {L : σ → Option ρ} {S : Nat → σ} {l : List α} {q : Nat → α → Bool} {f : ρ} {r : Option ρ}
  (hs : ∀ i x, l[i]? = some x → i < l.length → (∀ j y, j < i → l[j]? = some y → q j y = true) → L (S i) = if q i x = true then L (S (i + 1)) else some f)
  (he : (∀ j y, l[j]? = some y → q j y = true) → L (S l.length) = r) : L (S 0) = if alli q l = true then r else some f := by
 have key : ∀ (k i : Nat), i + k = l.length → (∀ j x, j < i → l[j]? = some x → q j x = true) → L (S i) = if alli q l = true then r else some f := by
  intro k
  induction k with
  | zero =>
   intro i h hb
   have : i = l.length := by omega
   subst this
   have hall : ∀ j y, l[j]? = some y → q j y = true := fun j x hj => hb j x (List.getElem?_eq_some_iff.1 hj).1 hj
   rw [he hall, if_pos (alli_iff.2 hall)]
  | succ k ih =>
   intro i h hb
   have hlt : i < l.length := by omega
   have hx := List.getElem?_eq_getElem hlt
   rw [hs i l[i] hx hlt hb]
   by_cases hp : q i l[i] = true
   ·rw [if_pos hp]
    refine ih (i + 1) (by omega) fun j x hj hx' => ?_
    by_cases hji : j = i
    ·subst hji
     rw [hx] at hx'
     cases hx'
     exact hp
    ·exact hb j x (by omega) hx'
   ·rw [if_neg hp, if_neg fun h => hp (alli_iff.1 h i _ hx)]
 exact key l.length 0 (by omega) fun j x h => by omega

theorem l1All_s {l : List Int} (hl : l.length ≤ 2000000) (lo hi : Int) : Ds_l1All l lo hi = some (alli (fun _ x => kIn x lo hi) l) := by
 rw [← ifB]
 exact all_goL (L := loop Bs_l1All) (S := fun i => .h1 lo hi l (l.length : Int) (i : Int)) (fun i x hx hlt _ => by
  rw [loop_eq]
  simp only [Bs_l1All]
  rw [if_pos (by omega), if_pos (by omega), Int.toNat_natCast, hx, Option.bind_some, kin_s, Option.bind_some, wsucc (by omega)]
  by_cases c : kIn x lo hi = true
  ·rw [if_pos c, if_pos c]; rfl
  ·rw [if_neg c, if_neg c]; rfl) fun _ => by
  rw [loop_eq]
  simp only [Bs_l1All]
  rw [if_neg (by omega)]
  rfl
theorem bad_i (x : Int) : Di_IsCombatTable_1 x = some (!(kIn x 0 7)) := by
 unfold Di_IsCombatTable_1 Di_isResult
 rw [kin_i]
 rfl
theorem contains_bad {l : List Int} (hl : l.length ≤ 2000000) : Dslices_ContainsFunc_int_i_IsCombatTable_1 l = some (!(alli (fun _ x => kIn x 0 7) l)) := by
 rw [← ifNB]
 have := all_goL (L := fun s => (loop Bslices_IndexFunc_int_i_IsCombatTable_1 s).map fun r => decide (r ≥ 0)) (S := fun i => .h1 l (l.length : Int) (i : Int)) (l := l) (q := fun _ x => kIn x 0 7) (f := true) (r := some false) (fun i x hx hlt _ => by
  rw [loop_eq]
  simp only [Bslices_IndexFunc_int_i_IsCombatTable_1]
  rw [if_pos (by omega), if_pos (by omega), Int.toNat_natCast, hx, Option.bind_some, bad_i, Option.bind_some, wsucc (by omega)]
  by_cases c : kIn x 0 7 = true
  ·rw [if_pos c, c, if_neg (by decide)]; rfl
  ·rw [if_neg c, if_pos (by simpa using c)]; simp [goOn]) fun _ => by
  rw [loop_eq]
  simp only [Bslices_IndexFunc_int_i_IsCombatTable_1]
  rw [if_neg (by omega)]
  rfl
 refine Eq.trans ?_ this
 unfold Dslices_ContainsFunc_int_i_IsCombatTable_1 Dslices_IndexFunc_int_i_IsCombatTable_1
 cases loop Bslices_IndexFunc_int_i_IsCombatTable_1 (.h1 l (l.length : Int) 0) <;> rfl

def kCol (cs : List Gi_Odds) (i : Nat) (x : Gi_Odds) : Bool := kIn x.Num 1 20 && kIn x.Den 1 20 && (decide (i = 0) || match cs[i - 1]? with
 | some p => !decide (IntKind.wrap .i64 (p.Num * x.Den) ≥ IntKind.wrap .i64 (x.Num * p.Den))
 | none => false)
def kRow (cs : List Gi_Odds) (x : List Int) : Bool := decide (x.length = cs.length) && alli (fun _ y => kIn y 0 7) x
def kG (t : Gi_CombatTable) : Bool := kIn t.Columns.length 1 8 && kIn t.Dice 1 2 && decide ((t.Results.length : Int) = 5 * t.Dice + 1) && alli (kCol t.Columns) t.Columns && alli (fun _ x => kRow t.Columns x) t.Results

theorem rows_i {t : Gi_CombatTable} (hc : t.Columns.length ≤ 8) (hr : t.Results.length ≤ 100) : loop Bi_IsCombatTable (.h2 t.Results (t.Results.length : Int) 0 t) = some (alli (fun _ x => kRow t.Columns x) t.Results) := by
 rw [← ifB]
 exact all_goL (L := loop Bi_IsCombatTable) (S := fun i => .h2 t.Results (t.Results.length : Int) (i : Int) t) (fun i x hx hlt _ => by
  rw [loop_eq]
  simp only [Bi_IsCombatTable]
  rw [if_pos (by omega), if_pos (by omega), Int.toNat_natCast, hx, Option.bind_some, wsucc (by omega)]
  by_cases c : x.length = t.Columns.length
  ·rw [if_pos (by omega), contains_bad (by omega), Option.bind_some]
   by_cases c2 : alli (fun _ y => kIn y 0 7) x = true
   ·rw [c2, if_neg (by decide), if_pos (by simp [kRow, c, c2])]; rfl
   ·rw [if_pos (by simpa using c2), if_neg (by simp [kRow, c2])]; rfl
  ·rw [if_neg (by omega), if_neg (by simp [kRow, c])]; rfl) fun _ => by
  rw [loop_eq]
  simp only [Bi_IsCombatTable]
  rw [if_neg (by omega)]
  rfl
theorem rows_s {t : Gi_CombatTable} (hc : t.Columns.length ≤ 8) (hr : t.Results.length ≤ 100) : loop Bs_kGood (.h2 t.Results (t.Results.length : Int) 0 t) = some (alli (fun _ x => kRow t.Columns x) t.Results) := by
 rw [← ifB]
 exact all_goL (L := loop Bs_kGood) (S := fun i => .h2 t.Results (t.Results.length : Int) (i : Int) t) (fun i x hx hlt _ => by
  rw [loop_eq]
  simp only [Bs_kGood]
  rw [if_pos (by omega), if_pos (by omega), Int.toNat_natCast, hx, Option.bind_some, wsucc (by omega)]
  by_cases c : x.length = t.Columns.length
  ·rw [if_pos (by omega), l1All_s (by omega), Option.bind_some]
   by_cases c2 : alli (fun _ y => kIn y 0 7) x = true
   ·rw [if_pos c2, if_pos (by simp [kRow, c, c2])]; rfl
   ·rw [if_neg c2, if_neg (by simp [kRow, c2])]; rfl
  ·rw [if_neg (by omega), if_neg (by simp [kRow, c])]; rfl) fun _ => by
  rw [loop_eq]
  simp only [Bs_kGood]
  rw [if_neg (by omega)]
  rfl
theorem wpred {i : Nat} (h : i < 9223372036854775807) (h0 : 0 < i) : IntKind.wrap .i64 ((i : Int) - 1) = ((i - 1 : Nat) : Int) := by rw [w64 (by omega)]; omega
theorem cols_i {t : Gi_CombatTable} (hc : t.Columns.length ≤ 8) (hr : t.Results.length ≤ 100) : loop Bi_IsCombatTable (.h1 t.Columns (t.Columns.length : Int) 0 t) = some (alli (kCol t.Columns) t.Columns && alli (fun _ x => kRow t.Columns x) t.Results) := by
 have := all_goL (L := loop Bi_IsCombatTable) (S := fun i => .h1 t.Columns (t.Columns.length : Int) (i : Int) t) (l := t.Columns) (q := kCol t.Columns) (f := false) (r := some (alli (fun _ x => kRow t.Columns x) t.Results)) (fun i x hx hlt _ => by
  rw [loop_eq]
  simp only [Bi_IsCombatTable]
  rw [if_pos (by omega), if_pos (by omega), Int.toNat_natCast, hx, Option.bind_some, kin_i, Option.bind_some, wsucc (by omega)]
  by_cases c1 : kIn x.Num 1 20 = true
  ·rw [if_pos c1, kin_i, Option.bind_some]
   by_cases c2 : kIn x.Den 1 20 = true
   ·rw [if_pos c2]
    by_cases c3 : i = 0
    ·subst c3
     rw [if_neg (by decide), if_pos (by simp [kCol, c1, c2])]
     rfl
    ·have hp : t.Columns[i - 1]? = some t.Columns[i - 1] := List.getElem?_eq_getElem (by omega)
     rw [if_pos (by omega), wpred (by omega) (by omega), if_pos (by omega), Int.toNat_natCast, hp, Option.bind_some, if_pos (by omega), Option.bind_some]
     by_cases c4 : IntKind.wrap .i64 (t.Columns[i - 1].Num * x.Den) ≥ IntKind.wrap .i64 (x.Num * t.Columns[i - 1].Den)
     ·have e : kCol t.Columns i x = false := by simp only [kCol, hp, decide_eq_true c4]; simp [c3]
      rw [if_pos c4, e, if_neg (by decide)]; rfl
     ·have e : kCol t.Columns i x = true := by simp only [kCol, hp, decide_eq_false c4]; simp [c1, c2]
      rw [if_neg c4, if_pos e]; rfl
   ·rw [if_neg c2, if_neg (by simp [kCol, c2])]; rfl
  ·rw [if_neg c1, if_neg (by simp [kCol, c1])]; rfl) fun _ => by
  rw [loop_eq]
  simp only [Bi_IsCombatTable]
  rw [if_neg (by omega)]
  exact rows_i hc hr
 refine this.trans ?_
 cases alli (kCol t.Columns) t.Columns <;> rfl
theorem cols_s {t : Gi_CombatTable} (hc : t.Columns.length ≤ 8) (hr : t.Results.length ≤ 100) : loop Bs_kGood (.h1 t.Columns (t.Columns.length : Int) 0 t) = some (alli (kCol t.Columns) t.Columns && alli (fun _ x => kRow t.Columns x) t.Results) := by
 have := all_goL (L := loop Bs_kGood) (S := fun i => .h1 t.Columns (t.Columns.length : Int) (i : Int) t) (l := t.Columns) (q := kCol t.Columns) (f := false) (r := some (alli (fun _ x => kRow t.Columns x) t.Results)) (fun i x hx hlt _ => by
  rw [loop_eq]
  simp only [Bs_kGood]
  rw [if_pos (by omega), if_pos (by omega), Int.toNat_natCast, hx, Option.bind_some, kin_s, Option.bind_some, wsucc (by omega)]
  by_cases c1 : kIn x.Num 1 20 = true
  ·rw [if_pos c1, kin_s, Option.bind_some]
   by_cases c2 : kIn x.Den 1 20 = true
   ·rw [if_pos c2]
    by_cases c3 : i = 0
    ·subst c3
     rw [if_neg (by decide), if_pos (by simp [kCol, c1, c2])]
     rfl
    ·have hp : t.Columns[i - 1]? = some t.Columns[i - 1] := List.getElem?_eq_getElem (by omega)
     rw [if_pos (by omega), wpred (by omega) (by omega), if_pos (by omega), Int.toNat_natCast, hp, Option.bind_some, if_pos (by omega), Option.bind_some]
     by_cases c4 : IntKind.wrap .i64 (t.Columns[i - 1].Num * x.Den) ≥ IntKind.wrap .i64 (x.Num * t.Columns[i - 1].Den)
     ·have e : kCol t.Columns i x = false := by simp only [kCol, hp, decide_eq_true c4]; simp [c3]
      rw [if_pos c4, e, if_neg (by decide)]; rfl
     ·have e : kCol t.Columns i x = true := by simp only [kCol, hp, decide_eq_false c4]; simp [c1, c2]
      rw [if_neg c4, if_pos e]; rfl
   ·rw [if_neg c2, if_neg (by simp [kCol, c2])]; rfl
  ·rw [if_neg c1, if_neg (by simp [kCol, c1])]; rfl) fun _ => by
  rw [loop_eq]
  simp only [Bs_kGood]
  rw [if_neg (by omega)]
  exact rows_s hc hr
 refine this.trans ?_
 cases alli (kCol t.Columns) t.Columns <;> rfl
theorem isTable_i (t : Gi_CombatTable) : Di_IsCombatTable t = some (kG t) := by
 unfold Di_IsCombatTable kG
 rw [kin_i, Option.bind_some]
 by_cases c1 : kIn (t.Columns.length : Int) 1 8 = true
 ·rw [if_pos c1, c1, kin_i, Option.bind_some]
  by_cases c2 : kIn t.Dice 1 2 = true
  ·obtain ⟨d1, d2⟩ := kIn_iff.1 c2
   obtain ⟨d3, d4⟩ := kIn_iff.1 c1
   rw [if_pos c2, c2, w64 (n := 5 * t.Dice) (by omega), w64 (by omega)]
   by_cases c3 : (t.Results.length : Int) = 5 * t.Dice + 1
   ·rw [if_pos c3, decide_eq_true c3, cols_i (by omega) (by omega)]
    simp
   ·rw [if_neg c3, decide_eq_false c3]
    rfl
  ·rw [if_neg c2]
   simp only [Bool.not_eq_true] at c2
   rw [c2]
   rfl
 ·rw [if_neg c1]
  simp only [Bool.not_eq_true] at c1
  rw [c1]
  rfl
theorem tabGood_s (t : Gi_CombatTable) : Ds_kGood t = some (kG t) := by
 unfold Ds_kGood Ds_kRows kG
 rw [kin_s, Option.bind_some]
 by_cases c1 : kIn (t.Columns.length : Int) 1 8 = true
 ·rw [if_pos c1, c1, kin_s, Option.bind_some]
  by_cases c2 : kIn t.Dice 1 2 = true
  ·obtain ⟨d1, d2⟩ := kIn_iff.1 c2
   obtain ⟨d3, d4⟩ := kIn_iff.1 c1
   rw [if_pos c2, c2, w64 (n := 5 * t.Dice) (by omega), w64 (by omega), Option.bind_some]
   by_cases c3 : (t.Results.length : Int) = 5 * t.Dice + 1
   ·rw [if_pos c3, decide_eq_true c3, cols_s (by omega) (by omega)]
    simp
   ·rw [if_neg c3, decide_eq_false c3]
    rfl
  ·rw [if_neg c2]
   simp only [Bool.not_eq_true] at c2
   rw [c2]
   rfl
 ·rw [if_neg c1]
  simp only [Bool.not_eq_true] at c1
  rw [c1]
  rfl
theorem three {x : List Int} (h : x.length = 3) : ∃ a b c, x = [a, b, c] := by
 match x, h with
 | [a, b, c], _ => exact ⟨a, b, c, rfl⟩
def Ok {α : Type} (o : Option α) (Q : α → Prop) : Prop := ∃ a, o = some a ∧ Q a
theorem Ok.ret {α : Type} {a : α} {Q : α → Prop} (h : Q a) : Ok (some a) Q := ⟨a, rfl, h⟩
theorem Ok.mono {α : Type} {o : Option α} {P Q : α → Prop} (h : Ok o P) (k : ∀ a, P a → Q a) : Ok o Q := by
 obtain ⟨a, e, h⟩ := h
 exact ⟨a, e, k a h⟩
theorem Ok.bind {α β : Type} {o : Option α} {f : α → Option β} {P : α → Prop} {Q : β → Prop} (h : Ok o P) (k : ∀ a, P a → Ok (f a) Q) : Ok (Option.bind o f) Q := by
 obtain ⟨a, rfl, h⟩ := h
 exact k a h
theorem Ok.ite {α : Type} {c : Prop} [Decidable c] {a b : Option α} {Q : α → Prop} (h1 : c → Ok a Q) (h2 : ¬ c → Ok b Q) : Ok (if c then a else b) Q := by
 by_cases h : c
 ·rw [if_pos h]; exact h1 h
 ·rw [if_neg h]; exact h2 h
theorem Ok.chk {α : Type} {c : Prop} [Decidable c] {a b : Option α} {Q : α → Prop} (h : c) (h1 : Ok a Q) : Ok (if c then a else b) Q := by
 rw [if_pos h]; exact h1
theorem Ok.els {α : Type} {c : Prop} [Decidable c] {a b : Option α} {Q : α → Prop} (h : ¬ c) (h1 : Ok b Q) : Ok (if c then a else b) Q := by
 rw [if_neg h]; exact h1
theorem Ok.get {α β : Type} {l : List α} {i : Nat} {f : α → Option β} {Q : β → Prop} (h : i < l.length) (k : ∀ x, l[i]? = some x → x ∈ l → Ok (f x) Q) : Ok (Option.bind l[i]? f) Q := by
 have e := List.getElem?_eq_getElem h
 rw [e]
 exact k _ e (List.mem_of_getElem? e)
theorem Ok.eq {α β : Type} {o : Option α} {a : α} {f : α → Option β} {Q : β → Prop} (e : o = some a) (k : Ok (f a) Q) : Ok (Option.bind o f) Q := by
 rw [e]; exact k
theorem Ok.loop {σ ρ : Type} {B : σ → Option (σ ⊕ ρ)} {Q : ρ → Prop} (I : σ → Prop) (m : σ → Nat) (hs : ∀ s, I s → Ok (B s) fun o => match o with | .inl s' => I s' ∧ m s' < m s | .inr r => Q r) : ∀ {s}, I s → Ok (loop B s) Q := by
 have key : ∀ n s, m s < n → I s → Ok (Ab.loop B s) Q := by
  intro n
  induction n with
  | zero => intro s h; omega
  | succ n ih =>
   intro s hn hI
   obtain ⟨o, e, h⟩ := hs s hI
   rw [loop_eq, e]
   cases o with
   | inl s' => exact ih s' (by omega) h.1
   | inr r => exact ⟨r, rfl, h⟩
 intro s h
 exact key _ s (Nat.lt_succ_self _) h

theorem ltc {i n : Nat} (h : i < n) : ((i : Int) < (n : Int)) = True := by simp [h]
theorem nltc (n : Nat) : ((n : Int) < (n : Int)) = False := by simp
theorem nnc (i : Nat) : ((0 : Int) ≤ (i : Int)) = True := by simp

def nmB (s : ByteArray) : Bool := alli (fun i _ => decide (97 ≤ byteAt s i) && decide (byteAt s i ≤ 122)) (List.range s.size) && kIn s.size 1 8
theorem nm_i {s : ByteArray} (hs : s.size ≤ 2000000) : Di_isName s = some (nmB s) := by
 unfold Di_isName nmB
 refine all_loop2 (B := Bi_isName) (S := fun i => .h1 s (i : Int)) (fun i x hx hi _ => ?_) ?_
 ·rw [List.length_range] at hi
  simp only [Bi_isName, ltc hi, nnc, if_true, Int.toNat_natCast, wsucc (show i < 9223372036854775807 by omega)]
  by_cases c1 : byteAt s i < 97
  ·rw [if_pos (by omega), if_neg (by simp only [Bool.and_eq_true, decide_eq_true_eq]; omega)]
  ·rw [if_neg (by omega)]
   by_cases c2 : byteAt s i > 122
   ·rw [if_pos (by omega), if_neg (by simp only [Bool.and_eq_true, decide_eq_true_eq]; omega)]
   ·rw [if_neg (by omega), if_pos (by simp only [Bool.and_eq_true, decide_eq_true_eq]; omega)]
 ·simp only [Bi_isName, List.length_range, nltc, if_false, kin_i, Option.bind_some]
theorem nm_s {s : ByteArray} (hs : s.size ≤ 2000000) : Ds_rName s = some (nmB s) := by
 unfold Ds_rName nmB
 refine all_loop2 (B := Bs_rName) (S := fun i => .h1 s (i : Int)) (fun i x hx hi _ => ?_) ?_
 ·rw [List.length_range] at hi
  simp only [Bs_rName, ltc hi, nnc, if_true, Int.toNat_natCast, wsucc (show i < 9223372036854775807 by omega)]
  by_cases c1 : byteAt s i < 97
  ·rw [if_pos (by omega), if_neg (by simp only [Bool.and_eq_true, decide_eq_true_eq]; omega)]
  ·rw [if_neg (by omega)]
   by_cases c2 : byteAt s i > 122
   ·rw [if_pos (by omega), if_neg (by simp only [Bool.and_eq_true, decide_eq_true_eq]; omega)]
   ·rw [if_neg (by omega), if_pos (by simp only [Bool.and_eq_true, decide_eq_true_eq]; omega)]
 ·simp only [Bs_rName, List.length_range, nltc, if_false, kin_s, Option.bind_some]
def trIx (nm : ByteArray) (l : List Gi_Terrain) : Int := ix (fun t => t.Name == nm) l
def kdIx (nm : ByteArray) (l : List Gi_Kind) : Int := ix (fun t => t.Name == nm) l
theorem trIx_i {l : List Gi_Terrain} (hl : l.length ≤ 2000000) (nm : ByteArray) : Di_terrainIndex l nm = some (trIx nm l) := by
 have h : loop Bslices_IndexFunc_i_Terrain_i_terrainIndex_1 (.h1 l nm (l.length : Int) 0) = some (trIx nm l) := find_loop (B := Bslices_IndexFunc_i_Terrain_i_terrainIndex_1) (S := fun i => .h1 l nm (l.length : Int) (i : Int)) (p := fun t => t.Name == nm) (l := l) (fun i x hx hi => by
  simp only [Bslices_IndexFunc_i_Terrain_i_terrainIndex_1, ltc hi, nnc, if_true, Int.toNat_natCast, hx, Option.bind_some, Di_terrainIndex_1, wsucc (show i < 9223372036854775807 by omega)]) (by
  simp only [Bslices_IndexFunc_i_Terrain_i_terrainIndex_1, nltc, if_false])
 unfold Di_terrainIndex Dslices_IndexFunc_i_Terrain_i_terrainIndex_1
 rw [h]; rfl
theorem kdIx_i {l : List Gi_Kind} (hl : l.length ≤ 2000000) (nm : ByteArray) : Di_kindIndex l nm = some (kdIx nm l) := by
 have h : loop Bslices_IndexFunc_i_Kind_i_kindIndex_1 (.h1 l nm (l.length : Int) 0) = some (kdIx nm l) := find_loop (B := Bslices_IndexFunc_i_Kind_i_kindIndex_1) (S := fun i => .h1 l nm (l.length : Int) (i : Int)) (p := fun t => t.Name == nm) (l := l) (fun i x hx hi => by
  simp only [Bslices_IndexFunc_i_Kind_i_kindIndex_1, ltc hi, nnc, if_true, Int.toNat_natCast, hx, Option.bind_some, Di_kindIndex_1, wsucc (show i < 9223372036854775807 by omega)]) (by
  simp only [Bslices_IndexFunc_i_Kind_i_kindIndex_1, nltc, if_false])
 unfold Di_kindIndex Dslices_IndexFunc_i_Kind_i_kindIndex_1
 rw [h]; rfl
theorem trIx_s {l : List Gi_Terrain} (hl : l.length ≤ 2000000) (nm : ByteArray) : Ds_rTerrain l nm = some (trIx nm l) :=
 find_loop (B := Bs_rTerrain) (S := fun i => .h1 nm l (l.length : Int) (i : Int)) (p := fun t => t.Name == nm) (l := l) (fun i x hx hi => by
  simp only [Bs_rTerrain, ltc hi, nnc, if_true, Int.toNat_natCast, hx, Option.bind_some, beq_iff_eq, wsucc (show i < 9223372036854775807 by omega)]) (by
  simp only [Bs_rTerrain, nltc, if_false])
theorem kdIx_s {l : List Gi_Kind} (hl : l.length ≤ 2000000) (nm : ByteArray) : Ds_rKind l nm = some (kdIx nm l) :=
 find_loop (B := Bs_rKind) (S := fun i => .h1 nm l (l.length : Int) (i : Int)) (p := fun t => t.Name == nm) (l := l) (fun i x hx hi => by
  simp only [Bs_rKind, ltc hi, nnc, if_true, Int.toNat_natCast, hx, Option.bind_some, beq_iff_eq, wsucc (show i < 9223372036854775807 by omega)]) (by
  simp only [Bs_rKind, nltc, if_false])
theorem contains_cost {l : List Int} (hl : l.length ≤ 2000000) : Dslices_ContainsFunc_int_i_goodTerrain_1 l = some (!(alli (fun _ x => kIn x 0 9) l)) := by
 rw [← ifNB]
 have := all_goL (L := fun s => (loop Bslices_IndexFunc_int_i_goodTerrain_1 s).map fun r => decide (r ≥ 0)) (S := fun i => .h1 l (l.length : Int) (i : Int)) (l := l) (q := fun _ x => kIn x 0 9) (f := true) (r := some false) (fun i x hx hi _ => by
  rw [loop_eq]
  simp only [Bslices_IndexFunc_int_i_goodTerrain_1, ltc hi, nnc, if_true, Int.toNat_natCast, hx, Option.bind_some, Di_goodTerrain_1, kin_i, wsucc (show i < 9223372036854775807 by omega)]
  cases kIn x 0 9 <;> simp [goOn]) fun _ => by
  rw [loop_eq]
  simp only [Bslices_IndexFunc_int_i_goodTerrain_1, nltc, if_false]
  rfl
 refine Eq.trans ?_ this
 unfold Dslices_ContainsFunc_int_i_goodTerrain_1 Dslices_IndexFunc_int_i_goodTerrain_1
 cases loop Bslices_IndexFunc_int_i_goodTerrain_1 (.h1 l (l.length : Int) 0) <;> rfl
structure TrLen (t : Gi_Terrain) : Prop where
 n : t.Name.size ≤ 2000000
 c : t.Cost.length ≤ 2000000
structure RlLen (r : Gi_Rules) : Prop where
 t : r.Terrains.length ≤ 2000000
 ts : ∀ x ∈ r.Terrains, TrLen x
 k : r.Kinds.length ≤ 2000000
 ks : ∀ x ∈ r.Kinds, x.Name.size ≤ 2000000
def trOk (K : Nat) (t : Gi_Terrain) : Bool := nmB t.Name && decide (t.Cost.length = K) && kIn t.Shift (-3) 3 && kIn t.Height 0 3 && alli (fun _ x => kIn x 0 9) t.Cost
def kdOk (k : Gi_Kind) : Bool := nmB k.Name && kIn k.Strength 1 9 && kIn k.Moves 0 9 && kIn k.Steps 1 4 && kIn k.View 0 4
def rlEnd (r : Gi_Rules) : Bool := kIn r.Stack 1 4 && kIn r.River 0 9 && kIn r.Road 1 9 && kIn r.Supply 0 20 && kIn r.Turns 1 30
def rlG (r : Gi_Rules) : Bool := kIn r.Terrains.length 1 6 && kIn r.Kinds.length 1 4 && alli (fun i t => trOk r.Kinds.length t && decide (trIx t.Name r.Terrains = i)) r.Terrains && alli (fun i k => kdOk k && decide (kdIx k.Name r.Kinds = i)) r.Kinds && rlEnd r
theorem goodTr_i {t : Gi_Terrain} (h : TrLen t) (K : Nat) : Di_goodTerrain t (K : Int) = some (trOk K t) := by
 unfold Di_goodTerrain trOk
 simp only [nm_i h.n, Option.bind_some, kin_i, contains_cost h.c, Int.ofNat_inj, Bool.not_not]
 by_cases c1 : t.Cost.length = K
 ·simp only [c1, decide_true, Bool.and_true, if_true]
  cases nmB t.Name <;> cases kIn t.Shift (-3) 3 <;> cases kIn t.Height 0 3 <;> simp
 ·cases nmB t.Name <;> simp [c1]
theorem goodKd_i {k : Gi_Kind} (h : k.Name.size ≤ 2000000) : Di_goodKind k = some (kdOk k) := by
 unfold Di_goodKind kdOk
 simp only [nm_i h, Option.bind_some, kin_i]
 cases nmB k.Name <;> cases kIn k.Strength 1 9 <;> cases kIn k.Moves 0 9 <;> cases kIn k.Steps 1 4 <;> simp
theorem rlKinds_i {r : Gi_Rules} (h : RlLen r) : loop Bi_IsRules (.h2 r.Kinds (r.Kinds.length : Int) 0 r) = some (alli (fun i k => kdOk k && decide (kdIx k.Name r.Kinds = i)) r.Kinds && rlEnd r) := by
 have hk := h.k
 refine all_loop2 (B := Bi_IsRules) (S := fun i => .h2 r.Kinds (r.Kinds.length : Int) (i : Int) r) (fun i x hx hi _ => ?_) ?_
 ·have hn := h.ks x (List.mem_of_getElem? hx)
  simp only [Bi_IsRules, ltc hi, nnc, if_true, Int.toNat_natCast, hx, Option.bind_some, goodKd_i hn, kdIx_i hk, wsucc (show i < 9223372036854775807 by omega)]
  by_cases c : kdIx x.Name r.Kinds = i
  ·cases kdOk x <;> simp [c]
  ·cases kdOk x <;> simp [c]
 ·simp only [Bi_IsRules, nltc, if_false, kin_i, Option.bind_some, rlEnd]
  cases kIn r.Stack 1 4 <;> cases kIn r.River 0 9 <;> cases kIn r.Road 1 9 <;> cases kIn r.Supply 0 20 <;> simp
theorem rlKinds_s {r : Gi_Rules} (h : RlLen r) : loop Bs_rGood (.h2 r.Kinds (r.Kinds.length : Int) 0 r) = some (alli (fun i k => kdOk k && decide (kdIx k.Name r.Kinds = i)) r.Kinds && rlEnd r) := by
 have hk := h.k
 refine all_loop2 (B := Bs_rGood) (S := fun i => .h2 r.Kinds (r.Kinds.length : Int) (i : Int) r) (fun i x hx hi _ => ?_) ?_
 ·have hn := h.ks x (List.mem_of_getElem? hx)
  simp only [Bs_rGood, ltc hi, nnc, if_true, Int.toNat_natCast, hx, Option.bind_some, nm_s hn, kin_s, kdIx_s hk, wsucc (show i < 9223372036854775807 by omega)]
  have b1 := Bool.eq_false_or_eq_true (nmB x.Name)
  have b2 := Bool.eq_false_or_eq_true (kIn x.Strength 1 9)
  have b3 := Bool.eq_false_or_eq_true (kIn x.Moves 0 9)
  have b4 := Bool.eq_false_or_eq_true (kIn x.Steps 1 4)
  have b5 := Bool.eq_false_or_eq_true (kIn x.View 0 4)
  by_cases c : kdIx x.Name r.Kinds = i
  ·rcases b1 with b1 | b1 <;> rcases b2 with b2 | b2 <;> rcases b3 with b3 | b3 <;> rcases b4 with b4 | b4 <;> rcases b5 with b5 | b5 <;> simp [kdOk, c, b1, b2, b3, b4, b5]
  ·rcases b1 with b1 | b1 <;> simp [kdOk, c, b1]
 ·simp only [Bs_rGood, nltc, if_false, kin_s, Option.bind_some, rlEnd]
  cases kIn r.Stack 1 4 <;> cases kIn r.River 0 9 <;> cases kIn r.Road 1 9 <;> cases kIn r.Supply 0 20 <;> simp
theorem isRules_i {r : Gi_Rules} (h : RlLen r) : Di_IsRules r = some (rlG r) := by
 have ht := h.t
 have key := all_goL (L := loop Bi_IsRules) (S := fun i => .h1 r.Terrains (r.Terrains.length : Int) (i : Int) r) (l := r.Terrains) (q := fun i t => trOk r.Kinds.length t && decide (trIx t.Name r.Terrains = i)) (f := false) (r := some (alli (fun i k => kdOk k && decide (kdIx k.Name r.Kinds = i)) r.Kinds && rlEnd r)) (fun i x hx hi _ => by
   have hn := h.ts x (List.mem_of_getElem? hx)
   rw [loop_eq]
   simp only [Bi_IsRules, ltc hi, nnc, if_true, Int.toNat_natCast, hx, Option.bind_some, goodTr_i hn, trIx_i ht, wsucc (show i < 9223372036854775807 by omega)]
   by_cases c : trIx x.Name r.Terrains = i
   ·cases trOk r.Kinds.length x <;> simp [c, goOn]
   ·cases trOk r.Kinds.length x <;> simp [c, goOn]) fun _ => by
   rw [loop_eq]
   simp only [Bi_IsRules, nltc, if_false, goOn]
   exact rlKinds_i h
 unfold Di_IsRules
 simp only [kin_i, Option.bind_some, rlG]
 have key' : loop Bi_IsRules (.h1 r.Terrains (r.Terrains.length : Int) 0 r) = _ := key
 rw [key']
 cases kIn r.Terrains.length 1 6 <;> cases kIn r.Kinds.length 1 4 <;> cases alli (fun i t => trOk r.Kinds.length t && decide (trIx t.Name r.Terrains = i)) r.Terrains <;> simp
theorem isRules_s {r : Gi_Rules} (h : RlLen r) : Ds_rGood r = some (rlG r) := by
 have ht := h.t
 have key := all_goL (L := loop Bs_rGood) (S := fun i => .h1 r.Terrains (r.Terrains.length : Int) (i : Int) r) (l := r.Terrains) (q := fun i t => trOk r.Kinds.length t && decide (trIx t.Name r.Terrains = i)) (f := false) (r := some (alli (fun i k => kdOk k && decide (kdIx k.Name r.Kinds = i)) r.Kinds && rlEnd r)) (fun i x hx hi _ => by
   have hn := h.ts x (List.mem_of_getElem? hx)
   have hn1 := hn.n
   have hn2 := hn.c
   rw [loop_eq]
   simp only [Bs_rGood, ltc hi, nnc, if_true, Int.toNat_natCast, hx, Option.bind_some, nm_s hn1, l1All_s hn2, kin_s, trIx_s ht, wsucc (show i < 9223372036854775807 by omega), Int.ofNat_inj]
   have b1 := Bool.eq_false_or_eq_true (nmB x.Name)
   have b2 := Bool.eq_false_or_eq_true (kIn x.Shift (-3) 3)
   have b3 := Bool.eq_false_or_eq_true (kIn x.Height 0 3)
   have b4 := Bool.eq_false_or_eq_true (alli (fun _ x => kIn x 0 9) x.Cost)
   by_cases c : trIx x.Name r.Terrains = i
   ·by_cases c1 : x.Cost.length = r.Kinds.length
    ·rcases b1 with b1 | b1 <;> rcases b2 with b2 | b2 <;> rcases b3 with b3 | b3 <;> rcases b4 with b4 | b4 <;> simp [trOk, c, c1, b1, b2, b3, b4, goOn]
    ·rcases b1 with b1 | b1 <;> simp [trOk, c, c1, b1, goOn]
   ·rcases b1 with b1 | b1 <;> simp [trOk, c, b1, goOn]) fun _ => by
   rw [loop_eq]
   simp only [Bs_rGood, nltc, if_false, goOn]
   exact rlKinds_s h
 unfold Ds_rGood
 simp only [kin_s, Option.bind_some, rlG]
 have key' : loop Bs_rGood (.h1 r.Terrains (r.Terrains.length : Int) 0 r) = _ := key
 rw [key']
 cases kIn r.Terrains.length 1 6 <;> cases kIn r.Kinds.length 1 4 <;> cases alli (fun i t => trOk r.Kinds.length t && decide (trIx t.Name r.Terrains = i)) r.Terrains <;> simp
structure RlOk (r : Gi_Rules) : Prop where
 t : 1 ≤ r.Terrains.length ∧ r.Terrains.length ≤ 6
 k : 1 ≤ r.Kinds.length ∧ r.Kinds.length ≤ 4
 ts : ∀ x ∈ r.Terrains, x.Cost.length = r.Kinds.length ∧ ∀ c ∈ x.Cost, 0 ≤ c ∧ c ≤ 9
 ks : ∀ x ∈ r.Kinds, (1 ≤ x.Strength ∧ x.Strength ≤ 9) ∧ (0 ≤ x.Moves ∧ x.Moves ≤ 9) ∧ (1 ≤ x.Steps ∧ x.Steps ≤ 4) ∧ (0 ≤ x.View ∧ x.View ≤ 4)
 sh : ∀ x ∈ r.Terrains, (-3 ≤ x.Shift ∧ x.Shift ≤ 3) ∧ (0 ≤ x.Height ∧ x.Height ≤ 3)
 e : (1 ≤ r.Stack ∧ r.Stack ≤ 4) ∧ (0 ≤ r.River ∧ r.River ≤ 9) ∧ (1 ≤ r.Road ∧ r.Road ≤ 9) ∧ (0 ≤ r.Supply ∧ r.Supply ≤ 20) ∧ (1 ≤ r.Turns ∧ r.Turns ≤ 30)
theorem rlG_ok {r : Gi_Rules} (h : rlG r = true) : RlOk r := by
 simp only [rlG, rlEnd, Bool.and_eq_true, kIn_iff] at h
 obtain ⟨⟨⟨⟨h1, h2⟩, h3⟩, h4⟩, h5⟩ := h
 have h3' := alli_iff.1 h3
 have h4' := alli_iff.1 h4
 refine ⟨by omega, by omega, fun x hx => ?_, fun x hx => ?_, fun x hx => ?_, by omega⟩
 ·obtain ⟨i, hi⟩ := List.getElem?_of_mem hx
  have := h3' i x hi
  simp only [trOk, Bool.and_eq_true, decide_eq_true_eq, kIn_iff] at this
  refine ⟨this.1.1.1.1.2, fun c hc => ?_⟩
  obtain ⟨j, hj⟩ := List.getElem?_of_mem hc
  have := alli_iff.1 this.1.2 j c hj
  simpa [kIn_iff] using this
 ·obtain ⟨i, hi⟩ := List.getElem?_of_mem hx
  have := h4' i x hi
  simp only [kdOk, Bool.and_eq_true, decide_eq_true_eq, kIn_iff] at this
  omega
 ·obtain ⟨i, hi⟩ := List.getElem?_of_mem hx
  have := h3' i x hi
  simp only [trOk, Bool.and_eq_true, decide_eq_true_eq, kIn_iff] at this
  omega

theorem fm_goL {σ α ρ : Type} {L : σ → Option ρ} {S : Nat → List α → σ} {n : Nat} {f : Nat → Option α} {r : List α → Option ρ}
  (hs : ∀ i acc, i < n → acc.length ≤ i → L (S i acc) = L (S (i + 1) (match f i with | some a => acc ++ [a] | none => acc))) (he : ∀ acc, acc.length ≤ n → L (S n acc) = r acc) : L (S 0 []) = r ((List.range n).filterMap f) := by
 have key : ∀ (k i : Nat) acc, i + k = n → acc.length ≤ i → L (S i acc) = r (acc ++ (List.range' i k).filterMap f) := by
  intro k
  induction k with
  | zero =>
   intro i acc h hl
   have : i = n := by omega
   subst this
   rw [he acc hl]
   simp
  | succ k ih =>
   intro i acc h hl
   rw [hs i acc (by omega) hl, List.range'_succ, List.filterMap_cons]
   cases hf : f i with
   | none => exact ih (i + 1) acc (by omega) (by omega)
   | some a =>
    simp only
    rw [ih (i + 1) _ (by omega) (by simp; omega)]
    simp
 have := key n 0 [] (by omega) (by simp)
 rw [this, List.range_eq_range']
 rfl
theorem ap8 {α : Type} {l : List α} {x : α} (h : l.length ≤ 3000000) : (l ++ [x]).length * 8 ≤ 70368744177664 := by simp; omega
theorem if8 {α β : Type} {l : List α} {x : α} (h : l.length ≤ 3000000) (a b : β) : (if (l ++ [x]).length * 8 ≤ 70368744177664 then a else b) = a := if_pos (ap8 h)

structure BdLen (b : Gi_Board) : Prop where
 r : RlLen b.Rules
 m : MpLen b.Map
def bdG (b : Gi_Board) : Bool := rlG b.Rules && mpGood b.Map && alli (fun _ x => kIn x 0 (b.Rules.Terrains.length - 1)) b.Map.Terrain
theorem mpGood_terr {m : Gi_Map} (h : mpGood m = true) : ∀ x ∈ m.Terrain, 0 ≤ x ∧ x ≤ 5 := by
 simp only [mpGood, Bool.and_eq_true, List.all_eq_true] at h
 intro x hx
 have := h.1.1.2 x hx
 simpa [terrOk] using this
theorem contains_terr {b : Gi_Board} {l : List Int} (hl : l.length ≤ 2000000) : Dslices_ContainsFunc_int_i_IsBoard_1 l b = some (!(alli (fun _ (x : Int) => decide (x < b.Rules.Terrains.length)) l)) := by
 rw [← ifNB]
 have := all_goL (L := fun s => (loop Bslices_IndexFunc_int_i_IsBoard_1 s).map fun r => decide (r ≥ 0)) (S := fun i => .h1 l b (l.length : Int) (i : Int)) (l := l) (q := fun _ (x : Int) => decide (x < b.Rules.Terrains.length)) (f := true) (r := some false) (fun i x hx hi _ => by
  rw [loop_eq]
  simp only [Bslices_IndexFunc_int_i_IsBoard_1, ltc hi, nnc, if_true, Int.toNat_natCast, hx, Option.bind_some, Di_IsBoard_1, wsucc (show i < 9223372036854775807 by omega)]
  by_cases c : x < b.Rules.Terrains.length
  ·have : ¬ x ≥ b.Rules.Terrains.length := by omega
   simp [c, this, goOn]
  ·have : x ≥ b.Rules.Terrains.length := by omega
   simp [c, this, goOn]) fun _ => by
  rw [loop_eq]
  simp only [Bslices_IndexFunc_int_i_IsBoard_1, nltc, if_false]
  rfl
 refine Eq.trans ?_ this
 unfold Dslices_ContainsFunc_int_i_IsBoard_1 Dslices_IndexFunc_int_i_IsBoard_1
 cases loop Bslices_IndexFunc_int_i_IsBoard_1 (.h1 l b (l.length : Int) 0) <;> rfl
theorem isBoard_i {b : Gi_Board} (h : BdLen b) : Di_IsBoard b = some (bdG b) := by
 unfold Di_IsBoard bdG
 rw [isRules_i h.r, Option.bind_some]
 cases c1 : rlG b.Rules with
 | false => simp
 | true =>
  rw [isMap_i h.m]
  simp only [if_true, Option.bind_some]
  cases c2 : mpGood b.Map with
  | false => simp
  | true =>
   have ht := mpGood_terr c2
   simp only [if_true, contains_terr h.m.1, Option.bind_some, Bool.not_not, Bool.true_and, Option.some.injEq]
   rw [Bool.eq_iff_iff, alli_iff, alli_iff]
   constructor
   ·intro k i x hx
    have h1 := k i x hx
    have h2 := ht x (List.mem_of_getElem? hx)
    simp only [decide_eq_true_eq] at h1
    exact kIn_iff.2 ⟨h2.1, by omega⟩
   ·intro k i x hx
    have h1 := kIn_iff.1 (k i x hx)
    simp only [decide_eq_true_eq]
    omega
theorem isBoard_s {b : Gi_Board} (h : BdLen b) : Ds_bGood b = some (bdG b) := by
 have hr := h.r.t
 unfold Ds_bGood bdG
 rw [isRules_s h.r, Option.bind_some]
 cases c1 : rlG b.Rules with
 | false => simp
 | true =>
  rw [good_m h.m]
  simp only [if_true, Option.bind_some]
  cases c2 : mpGood b.Map with
  | false => simp
  | true =>
   rw [w64 (by omega)]
   simp only [if_true, l1All_s h.m.1, Option.bind_some, Bool.true_and]
structure BdOk (b : Gi_Board) : Prop where
 r : RlOk b.Rules
 d : MpDim b.Map 10
 n : (b.Map.Terrain.length : Int) = b.Map.Width * b.Map.Height
 n2 : 1 ≤ b.Map.Terrain.length ∧ b.Map.Terrain.length ≤ 100
 t : ∀ x ∈ b.Map.Terrain, 0 ≤ x ∧ x < b.Rules.Terrains.length
theorem bdG_ok {b : Gi_Board} (h : bdG b = true) : BdOk b := by
 simp only [bdG, Bool.and_eq_true] at h
 obtain ⟨⟨h1, h2⟩, h3⟩ := h
 obtain ⟨d, n, _, _⟩ := mpGood_dim h2
 have hs := mpSize d
 refine ⟨rlG_ok h1, d, n, by omega, fun x hx => ?_⟩
 obtain ⟨i, hi⟩ := List.getElem?_of_mem hx
 have := kIn_iff.1 (alli_iff.1 h3 i x hi)
 omega
theorem BdOk.d100 {b : Gi_Board} (h : BdOk b) : MpDim b.Map 100 := by
 have := h.d
 unfold MpDim at this ⊢
 omega

def bdT (b : Gi_Board) (i : Int) : Gi_Terrain := match b.Map.Terrain[i.toNat]? with
 | some t => (match b.Rules.Terrains[t.toNat]? with
  | some x => x
  | none => ⟨⟨#[]⟩, [], 0, 0, false⟩)
 | none => ⟨⟨#[]⟩, [], 0, 0, false⟩
def bdC (b : Gi_Board) (k i : Int) : Int := match (bdT b i).Cost[k.toNat]? with
 | some c => c
 | none => 0
theorem bdT_b {b : Gi_Board} (h : BdOk b) {i : Int} (hi : 0 ≤ i ∧ i < b.Map.Terrain.length) : Di_terrainAt b i = some (bdT b i) ∧ Ds_bTerrain b i = some (bdT b i) ∧ bdT b i ∈ b.Rules.Terrains := by
 have h1 : b.Map.Terrain[i.toNat]? = some b.Map.Terrain[i.toNat] := List.getElem?_eq_getElem (by omega)
 have h2 := h.t _ (List.mem_of_getElem? h1)
 have h3 : b.Rules.Terrains[b.Map.Terrain[i.toNat].toNat]? = some b.Rules.Terrains[b.Map.Terrain[i.toNat].toNat] := List.getElem?_eq_getElem (by omega)
 have e : bdT b i = b.Rules.Terrains[b.Map.Terrain[i.toNat].toNat] := by
  unfold bdT
  rw [h1]
  simp only
  rw [h3]
 rw [e]
 unfold Di_terrainAt Ds_bTerrain
 rw [if_pos hi.1, h1, Option.bind_some, if_pos h2.1, h3]
 exact ⟨rfl, rfl, List.getElem_mem _⟩
theorem bdC_b {b : Gi_Board} (h : BdOk b) {k i : Int} (hk : 0 ≤ k ∧ k < b.Rules.Kinds.length) (hi : 0 ≤ i ∧ i < b.Map.Terrain.length) : Di_enterCost b k i = some (bdC b k i) ∧ Ds_bCost b k i = some (bdC b k i) ∧ 0 ≤ bdC b k i ∧ bdC b k i ≤ 9 := by
 obtain ⟨e1, e2, hm⟩ := bdT_b h hi
 obtain ⟨hl, hc⟩ := h.r.ts _ hm
 have h1 : (bdT b i).Cost[k.toNat]? = some (bdT b i).Cost[k.toNat] := List.getElem?_eq_getElem (by omega)
 have h2 := hc _ (List.mem_of_getElem? h1)
 have e : bdC b k i = (bdT b i).Cost[k.toNat] := by
  unfold bdC
  rw [h1]
 rw [e]
 unfold Di_enterCost Ds_bCost
 rw [e1, e2, Option.bind_some, if_pos hk.1, h1]
 exact ⟨rfl, rfl, h2⟩
def insL (x : Int) : List Int → List Int
 | [] => [x]
 | y :: r => if y < x then y :: insL x r else if y = x then y :: r else x :: y :: r
theorem insL_len (x : Int) : ∀ l : List Int, (insL x l).length ≤ l.length + 1
 | [] => by simp [insL]
 | y :: r => by
  have := insL_len x r
  unfold insL
  split
  ·simp; omega
  ·split <;> simp
theorem insL_mem {x z : Int} : ∀ {l : List Int}, z ∈ insL x l ↔ z = x ∨ z ∈ l
 | [] => by simp [insL]
 | y :: r => by
  unfold insL
  split
  ·rw [List.mem_cons, List.mem_cons, insL_mem]
   constructor
   ·rintro (h | h | h) <;> simp [h]
   ·rintro (h | h | h) <;> simp [h]
  ·split
   ·rename_i h
    subst h
    simp
   ·simp
theorem insL_srt {x : Int} : ∀ {l : List Int}, l.Pairwise (· < ·) → (insL x l).Pairwise (· < ·)
 | [], _ => by simp [insL]
 | y :: r, h => by
  rw [List.pairwise_cons] at h
  unfold insL
  split
  ·rename_i c
   rw [List.pairwise_cons]
   refine ⟨fun z hz => ?_, insL_srt h.2⟩
   rcases insL_mem.1 hz with rfl | hz
   ·exact c
   ·exact h.1 z hz
  ·split
   ·exact List.pairwise_cons.2 h
   ·rw [List.pairwise_cons, List.pairwise_cons]
    refine ⟨fun z hz => ?_, h⟩
    rcases List.mem_cons.1 hz with rfl | hz
    ·omega
    ·have := h.1 z hz
     omega
theorem srt_ext : ∀ {a b : List Int}, a.Pairwise (· < ·) → b.Pairwise (· < ·) → (∀ x, x ∈ a ↔ x ∈ b) → a = b
 | [], [], _, _, _ => rfl
 | [], y :: s, _, _, h => absurd ((h y).2 (List.mem_cons_self ..)) (by simp)
 | x :: r, [], _, _, h => absurd ((h x).1 (List.mem_cons_self ..)) (by simp)
 | x :: r, y :: s, ha, hb, h => by
  rw [List.pairwise_cons] at ha hb
  have e : x = y := by
   rcases List.mem_cons.1 ((h x).1 (List.mem_cons_self ..)) with e | h1
   ·exact e
   ·rcases List.mem_cons.1 ((h y).2 (List.mem_cons_self ..)) with e | h2
    ·exact e.symm
    ·have := hb.1 x h1
     have := ha.1 y h2
     omega
  subst e
  refine congrArg (x :: ·) (srt_ext ha.2 hb.2 fun z => ?_)
  constructor
  ·intro hz
   rcases List.mem_cons.1 ((h z).1 (List.mem_cons_of_mem _ hz)) with rfl | h1
   ·exact absurd (ha.1 _ hz) (by omega)
   ·exact h1
  ·intro hz
   rcases List.mem_cons.1 ((h z).2 (List.mem_cons_of_mem _ hz)) with rfl | h1
   ·exact absurd (hb.1 _ hz) (by omega)
   ·exact h1
theorem put_at {x : Int} : ∀ (p s : List Int), (p ++ s).length ≤ 3000000 → (∀ y ∈ p, y < x) → loop Bs_l1Put_c0 (.h1 x (p.length : Int) (p ++ s)) = some (p ++ insL x s)
 | p, [], hl, hp => by
  rw [loop_eq]
  simp only [Bs_l1Put_c0, List.append_nil, nltc, if_false, insL]
  rw [if_pos (by omega), if_pos (by omega)]
  simp only [Int.toNat_natCast, List.drop_zero, Nat.sub_zero, List.take_length, List.drop_length, List.take_nil, List.append_nil, Nat.sub_self]
  simp only [List.append_nil] at hl
  rw [if_pos (by omega), if_pos (by simp; omega), if_pos (by omega), if_pos (by omega), if_pos (by simp; omega)]
  rfl
 | p, y :: s, hl, hp => by
  have hg : (p ++ y :: s)[p.length]? = some y := by rw [List.getElem?_append_right (Nat.le_refl _)]; simp
  have hlt : ((p.length : Int) < ((p ++ y :: s).length : Int)) := by simp; omega
  rw [loop_eq]
  simp only [Bs_l1Put_c0, hlt, if_true, nnc, Int.toNat_natCast, hg, Option.bind_some]
  simp only [List.length_append, List.length_cons] at hl
  by_cases c : y < x
  ·have ih := put_at (x := x) (p ++ [y]) s (by simp; omega) (fun z hz => by
    rcases List.mem_append.1 hz with hz | hz
    ·exact hp z hz
    ·rw [List.mem_singleton.1 hz]; exact c)
   rw [if_pos c, wsucc (by omega)]
   simp only [goOn, insL, c, if_true]
   rw [List.length_append, List.length_singleton] at ih
   simp only [List.append_assoc, List.singleton_append] at ih
   exact ih
  ·rw [if_neg c]
   by_cases c2 : y = x
   ·rw [if_pos c2]
    simp only [goOn, insL, c2, Int.lt_irrefl, if_false, if_true]
   ·rw [if_neg c2]
    have e1 : List.take p.length (List.drop 0 (p ++ y :: s)) = p := by simp
    have e2 : List.take ((p ++ y :: s).length - p.length) (List.drop p.length (p ++ y :: s)) = y :: s := by
     rw [List.drop_left]
     exact List.take_of_length_le (by simp)
    simp only [Nat.sub_zero, e1, e2]
    rw [if_pos (by simp; omega), if_pos (by omega), if_pos (by simp; omega), if_pos (by simp; omega), if_pos (by simp; omega)]
    simp only [goOn, insL, c, c2, if_false]
    simp
theorem put_s {x : Int} {l : List Int} (hl : l.length ≤ 3000000) : Ds_l1Put_c0 l x = some (insL x l) := by
 have := put_at (x := x) [] l (by simpa using hl) (by simp)
 unfold Ds_l1Put_c0
 simpa using this

theorem isIndex_i {x n : Int} (h : -1000000000 ≤ n ∧ n ≤ 1000000000) : Di_isIndex x n = some (kIn x 0 (n - 1)) := by
 unfold Di_isIndex
 rw [w64 (by omega), kin_i]
 rfl
theorem le_map {α β : Type} {f : α → β} {l : List α} {n : Nat} (h : l.length ≤ n) : (l.map f).length ≤ n := by rw [List.length_map]; exact h
theorem sz_IntS {l : (List Int)} (hw : l.length < 9223372036854775808) {left : Int} (hl : 0 ≤ left ∧ left ≤ 1048576) : Ok (Dw_szIntS l left) fun r => r < 0 ∨ (0 ≤ r ∧ r ≤ left) ∧ l.length ≤ 1048576 := by
 unfold Dw_szIntS
 rw [w64 (by omega)]
 exact Ok.ite (fun _ => Ok.ret (.inl (by decide))) fun c => Ok.ret (.inr ⟨⟨by omega, by omega⟩, by omega⟩)
theorem to_IntS {l : (List Int)} (h : l.length ≤ 1048576) : Dw_toIntS l = some l := by
 have hl := h
 unfold Dw_toIntS
 rw [Int.toNat_natCast, if_pos (by omega)]
 have := fill_loop (B := Bw_toIntS) (S := fun i out => .h1 l (i : Int) out) (l := l) (g := id) (fun i x y out hx hi hy => by
  simp only [Bw_toIntS, ltc hi, nnc, if_true, Int.toNat_natCast, hx, hy, Option.bind_some, wsucc (show i < 9223372036854775807 by omega), id]) (fun out => by
  simp only [Bw_toIntS, nltc, if_false]) (0 : Int)
 rw [List.map_id] at this
 exact this
theorem eq_IntS {l : (List Int)} (h : l.length ≤ 1048576) : Dw_eqIntS l l = some true := by
 have hl := h
 unfold Dw_eqIntS
 rw [if_pos rfl]
 refine true_loop (B := Bw_eqIntS) (S := fun i => .h1 l l (i : Int)) (n := l.length) (fun i hi => ?_) ?_
 ·have hx : l[i]? = some l[i] := List.getElem?_eq_getElem hi
  generalize l[i] = x at hx
  simp only [Bw_eqIntS, ltc hi, nnc, if_true, Int.toNat_natCast, hx, Option.bind_some, wsucc (show i < 9223372036854775807 by omega)]
 ·simp only [Bw_eqIntS, nltc, if_false]
def Wf_Terrain (x : Gw_Terrain) : Prop := x.Name.size < 9223372036854775808 ∧ x.Cost.length < 9223372036854775808
def Sz_Terrain (x : Gw_Terrain) : Prop := x.Name.size ≤ 1048576 ∧ x.Cost.length ≤ 1048576
def Si_Terrain (x : Gi_Terrain) : Prop := x.Name.size ≤ 1048576 ∧ x.Cost.length ≤ 1048576
def cv_Terrain (x : Gw_Terrain) : Gi_Terrain := ⟨x.Name, x.Cost, x.Shift, x.Height, x.Blocks⟩
theorem szi_Terrain {x : Gw_Terrain} (h : Sz_Terrain x) : Si_Terrain (cv_Terrain x) := ⟨h.1, h.2⟩
theorem sz_Terrain {x : Gw_Terrain} (hw : Wf_Terrain x) {left : Int} (hl : 0 ≤ left ∧ left ≤ 1048576) : Ok (Dw_szTerrain x left) fun r => r < 0 ∨ (0 ≤ r ∧ r ≤ left) ∧ Sz_Terrain x := by
 unfold Dw_szTerrain
 have b0 : x.Name.size < 9223372036854775808 := hw.1
 rw [w64 (n := left - ((ByteArray.size x.Name : Nat) : Int)) (by omega)]
 refine Ok.ite (fun _ => Ok.ret (.inl (by decide))) fun c0 => ?_
 refine Ok.bind (sz_IntS hw.2 (left := (left - ((ByteArray.size x.Name : Nat) : Int))) ⟨by omega, by omega⟩) fun r1 h1 => Ok.ite (fun _ => Ok.ret (.inl (by decide))) fun c1 => ?_
 replace h1 := h1.resolve_left c1
 exact Ok.ret (.inr ⟨⟨by omega, by omega⟩, ⟨(show x.Name.size ≤ 1048576 by omega), h1.2⟩⟩)
theorem to_Terrain {x : Gw_Terrain} (h : Sz_Terrain x) : Dw_toTerrain x = some (cv_Terrain x) := by
 unfold Dw_toTerrain cv_Terrain
 simp only [to_IntS h.2, Option.bind_some]
theorem eq_Terrain {x : Gi_Terrain} (h : Si_Terrain x) : Dw_eqTerrain x x = some true := by
 unfold Dw_eqTerrain
 simp [eq_IntS h.2]
theorem sz_TerrainS {l : (List Gw_Terrain)} (hw : (l.length < 9223372036854775808 ∧ ∀ y ∈ l, Wf_Terrain y)) {left : Int} (hl : 0 ≤ left ∧ left ≤ 1048576) : Ok (Dw_szTerrainS l left) fun r => r < 0 ∨ (0 ≤ r ∧ r ≤ left) ∧ (l.length ≤ 1048576 ∧ ∀ y ∈ l, Sz_Terrain y) := by
 unfold Dw_szTerrainS
 obtain ⟨hw1, hw2⟩ := hw
 rw [w64 (by omega)]
 refine Ok.ite (fun _ => Ok.ret (.inl (by decide))) fun c => ?_
 refine Ok.loop (B := Bw_szTerrainS) (fun | .h1 va lf i => va = l ∧ (0 ≤ lf ∧ lf ≤ left) ∧ 0 ≤ i ∧ i ≤ l.length ∧ ∀ (j : Nat) y, (j : Int) < i → l[j]? = some y → Sz_Terrain y) (fun | .h1 va lf i => (l.length - i).toNat) (fun s hI => ?_) ⟨rfl, ⟨by omega, by omega⟩, by omega, by omega, fun j y hj => by omega⟩
 match s, hI with
 | .h1 va lf i, ⟨rfl, h1, h2, h3, h4⟩ =>
  simp only [Bw_szTerrainS]
  refine Ok.ite (fun ci => Ok.chk h2 (Ok.get (by omega) fun x hx hm => Ok.bind (sz_Terrain (hw2 x hm) (left := lf) ⟨h1.1, by omega⟩) fun r hr => Ok.ite (fun _ => Ok.ret (.inl (by decide))) fun cr => Ok.ret ?_)) fun ci => Ok.ret (.inr ⟨h1, by omega, fun y hy => ?_⟩)
  ·replace hr := hr.resolve_left cr
   rw [w64 (by omega)]
   dsimp only
   refine ⟨⟨rfl, ⟨hr.1.1, by omega⟩, by omega, by omega, fun j y hj hy => ?_⟩, by omega⟩
   by_cases e : (j : Int) = i
   ·subst e
    rw [Int.toNat_natCast, hy] at hx
    cases hx
    exact hr.2
   ·exact h4 j y (by omega) hy
  ·obtain ⟨j, hj⟩ := List.getElem?_of_mem hy
   exact h4 j y (by have := (List.getElem?_eq_some_iff.1 hj).1; omega) hj
theorem to_TerrainS {l : (List Gw_Terrain)} (h : (l.length ≤ 1048576 ∧ ∀ y ∈ l, Sz_Terrain y)) : Dw_toTerrainS l = some (l.map cv_Terrain) := by
 have hl := h.1
 unfold Dw_toTerrainS
 rw [Int.toNat_natCast, if_pos (by omega)]
 have := fill_loop (B := Bw_toTerrainS) (S := fun i out => .h1 l (i : Int) out) (l := l) (g := cv_Terrain) (fun i x y out hx hi hy => by
  simp only [Bw_toTerrainS, ltc hi, nnc, if_true, Int.toNat_natCast, hx, hy, Option.bind_some, to_Terrain (h.2 x (List.mem_of_getElem? hx)), wsucc (show i < 9223372036854775807 by omega), id]) (fun out => by
  simp only [Bw_toTerrainS, nltc, if_false]) (Gi_Terrain.mk ⟨#[]⟩ [] 0 0 false)
 exact this
theorem eq_TerrainS {l : (List Gi_Terrain)} (h : (l.length ≤ 1048576 ∧ ∀ y ∈ l, Si_Terrain y)) : Dw_eqTerrainS l l = some true := by
 have hl := h.1
 unfold Dw_eqTerrainS
 rw [if_pos rfl]
 refine true_loop (B := Bw_eqTerrainS) (S := fun i => .h1 l l (i : Int)) (n := l.length) (fun i hi => ?_) ?_
 ·have hx : l[i]? = some l[i] := List.getElem?_eq_getElem hi
  generalize l[i] = x at hx
  simp only [Bw_eqTerrainS, ltc hi, nnc, if_true, Int.toNat_natCast, hx, Option.bind_some, wsucc (show i < 9223372036854775807 by omega), eq_Terrain (h.2 x (List.mem_of_getElem? hx))]
 ·simp only [Bw_eqTerrainS, nltc, if_false]
def Wf_Kind (x : Gw_Kind) : Prop := x.Name.size < 9223372036854775808
def Sz_Kind (x : Gw_Kind) : Prop := x.Name.size ≤ 1048576
def Si_Kind (x : Gi_Kind) : Prop := x.Name.size ≤ 1048576
def cv_Kind (x : Gw_Kind) : Gi_Kind := ⟨x.Name, x.Strength, x.Moves, x.Steps, x.Zone, x.View⟩
theorem szi_Kind {x : Gw_Kind} (h : Sz_Kind x) : Si_Kind (cv_Kind x) := h
theorem sz_Kind {x : Gw_Kind} (hw : Wf_Kind x) {left : Int} (hl : 0 ≤ left ∧ left ≤ 1048576) : Ok (Dw_szKind x left) fun r => r < 0 ∨ (0 ≤ r ∧ r ≤ left) ∧ Sz_Kind x := by
 unfold Dw_szKind
 have b0 : x.Name.size < 9223372036854775808 := hw
 rw [w64 (n := left - ((ByteArray.size x.Name : Nat) : Int)) (by omega)]
 refine Ok.ite (fun _ => Ok.ret (.inl (by decide))) fun c0 => ?_
 exact Ok.ret (.inr ⟨⟨by omega, by omega⟩, (show x.Name.size ≤ 1048576 by omega)⟩)
theorem to_Kind {x : Gw_Kind} (h : Sz_Kind x) : Dw_toKind x = some (cv_Kind x) := by
 unfold Dw_toKind cv_Kind
 rfl
theorem eq_Kind {x : Gi_Kind} (h : Si_Kind x) : Dw_eqKind x x = some true := by
 unfold Dw_eqKind
 simp
theorem sz_KindS {l : (List Gw_Kind)} (hw : (l.length < 9223372036854775808 ∧ ∀ y ∈ l, Wf_Kind y)) {left : Int} (hl : 0 ≤ left ∧ left ≤ 1048576) : Ok (Dw_szKindS l left) fun r => r < 0 ∨ (0 ≤ r ∧ r ≤ left) ∧ (l.length ≤ 1048576 ∧ ∀ y ∈ l, Sz_Kind y) := by
 unfold Dw_szKindS
 obtain ⟨hw1, hw2⟩ := hw
 rw [w64 (by omega)]
 refine Ok.ite (fun _ => Ok.ret (.inl (by decide))) fun c => ?_
 refine Ok.loop (B := Bw_szKindS) (fun | .h1 va lf i => va = l ∧ (0 ≤ lf ∧ lf ≤ left) ∧ 0 ≤ i ∧ i ≤ l.length ∧ ∀ (j : Nat) y, (j : Int) < i → l[j]? = some y → Sz_Kind y) (fun | .h1 va lf i => (l.length - i).toNat) (fun s hI => ?_) ⟨rfl, ⟨by omega, by omega⟩, by omega, by omega, fun j y hj => by omega⟩
 match s, hI with
 | .h1 va lf i, ⟨rfl, h1, h2, h3, h4⟩ =>
  simp only [Bw_szKindS]
  refine Ok.ite (fun ci => Ok.chk h2 (Ok.get (by omega) fun x hx hm => Ok.bind (sz_Kind (hw2 x hm) (left := lf) ⟨h1.1, by omega⟩) fun r hr => Ok.ite (fun _ => Ok.ret (.inl (by decide))) fun cr => Ok.ret ?_)) fun ci => Ok.ret (.inr ⟨h1, by omega, fun y hy => ?_⟩)
  ·replace hr := hr.resolve_left cr
   rw [w64 (by omega)]
   dsimp only
   refine ⟨⟨rfl, ⟨hr.1.1, by omega⟩, by omega, by omega, fun j y hj hy => ?_⟩, by omega⟩
   by_cases e : (j : Int) = i
   ·subst e
    rw [Int.toNat_natCast, hy] at hx
    cases hx
    exact hr.2
   ·exact h4 j y (by omega) hy
  ·obtain ⟨j, hj⟩ := List.getElem?_of_mem hy
   exact h4 j y (by have := (List.getElem?_eq_some_iff.1 hj).1; omega) hj
theorem to_KindS {l : (List Gw_Kind)} (h : (l.length ≤ 1048576 ∧ ∀ y ∈ l, Sz_Kind y)) : Dw_toKindS l = some (l.map cv_Kind) := by
 have hl := h.1
 unfold Dw_toKindS
 rw [Int.toNat_natCast, if_pos (by omega)]
 have := fill_loop (B := Bw_toKindS) (S := fun i out => .h1 l (i : Int) out) (l := l) (g := cv_Kind) (fun i x y out hx hi hy => by
  simp only [Bw_toKindS, ltc hi, nnc, if_true, Int.toNat_natCast, hx, hy, Option.bind_some, to_Kind (h.2 x (List.mem_of_getElem? hx)), wsucc (show i < 9223372036854775807 by omega), id]) (fun out => by
  simp only [Bw_toKindS, nltc, if_false]) (Gi_Kind.mk ⟨#[]⟩ 0 0 0 false 0)
 exact this
theorem eq_KindS {l : (List Gi_Kind)} (h : (l.length ≤ 1048576 ∧ ∀ y ∈ l, Si_Kind y)) : Dw_eqKindS l l = some true := by
 have hl := h.1
 unfold Dw_eqKindS
 rw [if_pos rfl]
 refine true_loop (B := Bw_eqKindS) (S := fun i => .h1 l l (i : Int)) (n := l.length) (fun i hi => ?_) ?_
 ·have hx : l[i]? = some l[i] := List.getElem?_eq_getElem hi
  generalize l[i] = x at hx
  simp only [Bw_eqKindS, ltc hi, nnc, if_true, Int.toNat_natCast, hx, Option.bind_some, wsucc (show i < 9223372036854775807 by omega), eq_Kind (h.2 x (List.mem_of_getElem? hx))]
 ·simp only [Bw_eqKindS, nltc, if_false]
def Wf_Rules (x : Gw_Rules) : Prop := (x.Terrains.length < 9223372036854775808 ∧ ∀ y ∈ x.Terrains, Wf_Terrain y) ∧ (x.Kinds.length < 9223372036854775808 ∧ ∀ y ∈ x.Kinds, Wf_Kind y)
def Sz_Rules (x : Gw_Rules) : Prop := (x.Terrains.length ≤ 1048576 ∧ ∀ y ∈ x.Terrains, Sz_Terrain y) ∧ (x.Kinds.length ≤ 1048576 ∧ ∀ y ∈ x.Kinds, Sz_Kind y)
def Si_Rules (x : Gi_Rules) : Prop := (x.Terrains.length ≤ 1048576 ∧ ∀ y ∈ x.Terrains, Si_Terrain y) ∧ (x.Kinds.length ≤ 1048576 ∧ ∀ y ∈ x.Kinds, Si_Kind y)
def cv_Rules (x : Gw_Rules) : Gi_Rules := ⟨(x.Terrains.map cv_Terrain), (x.Kinds.map cv_Kind), x.Stack, x.River, x.Road, x.Supply, x.Turns⟩
theorem szi_Rules {x : Gw_Rules} (h : Sz_Rules x) : Si_Rules (cv_Rules x) := ⟨⟨le_map h.1.1, fun y hy => by obtain ⟨z, hz, rfl⟩ := List.mem_map.1 hy; exact szi_Terrain (h.1.2 z hz)⟩, ⟨le_map h.2.1, fun y hy => by obtain ⟨z, hz, rfl⟩ := List.mem_map.1 hy; exact szi_Kind (h.2.2 z hz)⟩⟩
theorem sz_Rules {x : Gw_Rules} (hw : Wf_Rules x) {left : Int} (hl : 0 ≤ left ∧ left ≤ 1048576) : Ok (Dw_szRules x left) fun r => r < 0 ∨ (0 ≤ r ∧ r ≤ left) ∧ Sz_Rules x := by
 unfold Dw_szRules
 refine Ok.bind (sz_TerrainS hw.1 (left := left) hl) fun r0 h0 => Ok.ite (fun _ => Ok.ret (.inl (by decide))) fun c0 => ?_
 replace h0 := h0.resolve_left c0
 refine Ok.bind (sz_KindS hw.2 (left := r0) ⟨h0.1.1, by omega⟩) fun r1 h1 => Ok.ite (fun _ => Ok.ret (.inl (by decide))) fun c1 => ?_
 replace h1 := h1.resolve_left c1
 exact Ok.ret (.inr ⟨⟨by omega, by omega⟩, ⟨h0.2, h1.2⟩⟩)
theorem to_Rules {x : Gw_Rules} (h : Sz_Rules x) : Dw_toRules x = some (cv_Rules x) := by
 unfold Dw_toRules cv_Rules
 simp only [to_TerrainS h.1, to_KindS h.2, Option.bind_some]
theorem eq_Rules {x : Gi_Rules} (h : Si_Rules x) : Dw_eqRules x x = some true := by
 unfold Dw_eqRules
 simp [eq_TerrainS h.1, eq_KindS h.2]
def Wf_Map (x : Gw_Map) : Prop := x.Terrain.length < 9223372036854775808 ∧ x.Rivers.length < 9223372036854775808 ∧ x.Roads.length < 9223372036854775808
def Sz_Map (x : Gw_Map) : Prop := x.Terrain.length ≤ 1048576 ∧ x.Rivers.length ≤ 1048576 ∧ x.Roads.length ≤ 1048576
def Si_Map (x : Gi_Map) : Prop := x.Terrain.length ≤ 1048576 ∧ x.Rivers.length ≤ 1048576 ∧ x.Roads.length ≤ 1048576
def cv_Map (x : Gw_Map) : Gi_Map := ⟨x.Width, x.Height, x.Terrain, x.Rivers, x.Roads⟩
theorem szi_Map {x : Gw_Map} (h : Sz_Map x) : Si_Map (cv_Map x) := ⟨h.1, h.2.1, h.2.2⟩
theorem sz_Map {x : Gw_Map} (hw : Wf_Map x) {left : Int} (hl : 0 ≤ left ∧ left ≤ 1048576) : Ok (Dw_szMap x left) fun r => r < 0 ∨ (0 ≤ r ∧ r ≤ left) ∧ Sz_Map x := by
 unfold Dw_szMap
 refine Ok.bind (sz_IntS hw.1 (left := left) hl) fun r0 h0 => Ok.ite (fun _ => Ok.ret (.inl (by decide))) fun c0 => ?_
 replace h0 := h0.resolve_left c0
 refine Ok.bind (sz_IntS hw.2.1 (left := r0) ⟨h0.1.1, by omega⟩) fun r1 h1 => Ok.ite (fun _ => Ok.ret (.inl (by decide))) fun c1 => ?_
 replace h1 := h1.resolve_left c1
 refine Ok.bind (sz_IntS hw.2.2 (left := r1) ⟨h1.1.1, by omega⟩) fun r2 h2 => Ok.ite (fun _ => Ok.ret (.inl (by decide))) fun c2 => ?_
 replace h2 := h2.resolve_left c2
 exact Ok.ret (.inr ⟨⟨by omega, by omega⟩, ⟨h0.2, h1.2, h2.2⟩⟩)
theorem to_Map {x : Gw_Map} (h : Sz_Map x) : Dw_toMap x = some (cv_Map x) := by
 unfold Dw_toMap cv_Map
 simp only [to_IntS h.1, to_IntS h.2.1, to_IntS h.2.2, Option.bind_some]
theorem eq_Map {x : Gi_Map} (h : Si_Map x) : Dw_eqMap x x = some true := by
 unfold Dw_eqMap
 simp [eq_IntS h.1, eq_IntS h.2.1, eq_IntS h.2.2]
def Wf_Board (x : Gw_Board) : Prop := Wf_Rules x.Rules ∧ Wf_Map x.Map
def Sz_Board (x : Gw_Board) : Prop := Sz_Rules x.Rules ∧ Sz_Map x.Map
def Si_Board (x : Gi_Board) : Prop := Si_Rules x.Rules ∧ Si_Map x.Map
def cv_Board (x : Gw_Board) : Gi_Board := ⟨(cv_Rules x.Rules), (cv_Map x.Map)⟩
theorem szi_Board {x : Gw_Board} (h : Sz_Board x) : Si_Board (cv_Board x) := ⟨szi_Rules h.1, szi_Map h.2⟩
theorem sz_Board {x : Gw_Board} (hw : Wf_Board x) {left : Int} (hl : 0 ≤ left ∧ left ≤ 1048576) : Ok (Dw_szBoard x left) fun r => r < 0 ∨ (0 ≤ r ∧ r ≤ left) ∧ Sz_Board x := by
 unfold Dw_szBoard
 refine Ok.bind (sz_Rules hw.1 (left := left) hl) fun r0 h0 => Ok.ite (fun _ => Ok.ret (.inl (by decide))) fun c0 => ?_
 replace h0 := h0.resolve_left c0
 refine Ok.bind (sz_Map hw.2 (left := r0) ⟨h0.1.1, by omega⟩) fun r1 h1 => Ok.ite (fun _ => Ok.ret (.inl (by decide))) fun c1 => ?_
 replace h1 := h1.resolve_left c1
 exact Ok.ret (.inr ⟨⟨by omega, by omega⟩, ⟨h0.2, h1.2⟩⟩)
theorem to_Board {x : Gw_Board} (h : Sz_Board x) : Dw_toBoard x = some (cv_Board x) := by
 unfold Dw_toBoard cv_Board
 simp only [to_Rules h.1, to_Map h.2, Option.bind_some]
theorem eq_Board {x : Gi_Board} (h : Si_Board x) : Dw_eqBoard x x = some true := by
 unfold Dw_eqBoard
 simp [eq_Rules h.1, eq_Map h.2]
def cv_Odds (x : Gw_Odds) : Gi_Odds := ⟨x.Num, x.Den⟩
theorem to_Odds (x : Gw_Odds) : Dw_toOdds x = some (cv_Odds x) := by
 unfold Dw_toOdds cv_Odds
 rfl
theorem eq_Odds (x : Gi_Odds) : Dw_eqOdds x x = some true := by
 unfold Dw_eqOdds
 simp
theorem sz_OddsS {l : (List Gw_Odds)} (hw : l.length < 9223372036854775808) {left : Int} (hl : 0 ≤ left ∧ left ≤ 1048576) : Ok (Dw_szOddsS l left) fun r => r < 0 ∨ (0 ≤ r ∧ r ≤ left) ∧ l.length ≤ 1048576 := by
 unfold Dw_szOddsS
 rw [w64 (by omega)]
 exact Ok.ite (fun _ => Ok.ret (.inl (by decide))) fun c => Ok.ret (.inr ⟨⟨by omega, by omega⟩, by omega⟩)
theorem to_OddsS {l : (List Gw_Odds)} (h : l.length ≤ 1048576) : Dw_toOddsS l = some (l.map cv_Odds) := by
 have hl := h
 unfold Dw_toOddsS
 rw [Int.toNat_natCast, if_pos (by omega)]
 have := fill_loop (B := Bw_toOddsS) (S := fun i out => .h1 l (i : Int) out) (l := l) (g := cv_Odds) (fun i x y out hx hi hy => by
  simp only [Bw_toOddsS, ltc hi, nnc, if_true, Int.toNat_natCast, hx, hy, Option.bind_some, to_Odds x, wsucc (show i < 9223372036854775807 by omega), id]) (fun out => by
  simp only [Bw_toOddsS, nltc, if_false]) (Gi_Odds.mk 0 0)
 exact this
theorem eq_OddsS {l : (List Gi_Odds)} (h : l.length ≤ 1048576) : Dw_eqOddsS l l = some true := by
 have hl := h
 unfold Dw_eqOddsS
 rw [if_pos rfl]
 refine true_loop (B := Bw_eqOddsS) (S := fun i => .h1 l l (i : Int)) (n := l.length) (fun i hi => ?_) ?_
 ·have hx : l[i]? = some l[i] := List.getElem?_eq_getElem hi
  generalize l[i] = x at hx
  simp only [Bw_eqOddsS, ltc hi, nnc, if_true, Int.toNat_natCast, hx, Option.bind_some, wsucc (show i < 9223372036854775807 by omega), eq_Odds x]
 ·simp only [Bw_eqOddsS, nltc, if_false]
theorem sz_IntSS {l : (List (List Int))} (hw : (l.length < 9223372036854775808 ∧ ∀ y ∈ l, y.length < 9223372036854775808)) {left : Int} (hl : 0 ≤ left ∧ left ≤ 1048576) : Ok (Dw_szIntSS l left) fun r => r < 0 ∨ (0 ≤ r ∧ r ≤ left) ∧ (l.length ≤ 1048576 ∧ ∀ y ∈ l, y.length ≤ 1048576) := by
 unfold Dw_szIntSS
 obtain ⟨hw1, hw2⟩ := hw
 rw [w64 (by omega)]
 refine Ok.ite (fun _ => Ok.ret (.inl (by decide))) fun c => ?_
 refine Ok.loop (B := Bw_szIntSS) (fun | .h1 va lf i => va = l ∧ (0 ≤ lf ∧ lf ≤ left) ∧ 0 ≤ i ∧ i ≤ l.length ∧ ∀ (j : Nat) y, (j : Int) < i → l[j]? = some y → y.length ≤ 1048576) (fun | .h1 va lf i => (l.length - i).toNat) (fun s hI => ?_) ⟨rfl, ⟨by omega, by omega⟩, by omega, by omega, fun j y hj => by omega⟩
 match s, hI with
 | .h1 va lf i, ⟨rfl, h1, h2, h3, h4⟩ =>
  simp only [Bw_szIntSS]
  refine Ok.ite (fun ci => Ok.chk h2 (Ok.get (by omega) fun x hx hm => Ok.bind (sz_IntS (hw2 x hm) (left := lf) ⟨h1.1, by omega⟩) fun r hr => Ok.ite (fun _ => Ok.ret (.inl (by decide))) fun cr => Ok.ret ?_)) fun ci => Ok.ret (.inr ⟨h1, by omega, fun y hy => ?_⟩)
  ·replace hr := hr.resolve_left cr
   rw [w64 (by omega)]
   dsimp only
   refine ⟨⟨rfl, ⟨hr.1.1, by omega⟩, by omega, by omega, fun j y hj hy => ?_⟩, by omega⟩
   by_cases e : (j : Int) = i
   ·subst e
    rw [Int.toNat_natCast, hy] at hx
    cases hx
    exact hr.2
   ·exact h4 j y (by omega) hy
  ·obtain ⟨j, hj⟩ := List.getElem?_of_mem hy
   exact h4 j y (by have := (List.getElem?_eq_some_iff.1 hj).1; omega) hj
theorem to_IntSS {l : (List (List Int))} (h : (l.length ≤ 1048576 ∧ ∀ y ∈ l, y.length ≤ 1048576)) : Dw_toIntSS l = some l := by
 have hl := h.1
 unfold Dw_toIntSS
 rw [Int.toNat_natCast, if_pos (by omega)]
 have := fill_loop (B := Bw_toIntSS) (S := fun i out => .h1 l (i : Int) out) (l := l) (g := id) (fun i x y out hx hi hy => by
  simp only [Bw_toIntSS, ltc hi, nnc, if_true, Int.toNat_natCast, hx, hy, Option.bind_some, to_IntS (h.2 x (List.mem_of_getElem? hx)), wsucc (show i < 9223372036854775807 by omega), id]) (fun out => by
  simp only [Bw_toIntSS, nltc, if_false]) []
 rw [List.map_id] at this
 exact this
theorem eq_IntSS {l : (List (List Int))} (h : (l.length ≤ 1048576 ∧ ∀ y ∈ l, y.length ≤ 1048576)) : Dw_eqIntSS l l = some true := by
 have hl := h.1
 unfold Dw_eqIntSS
 rw [if_pos rfl]
 refine true_loop (B := Bw_eqIntSS) (S := fun i => .h1 l l (i : Int)) (n := l.length) (fun i hi => ?_) ?_
 ·have hx : l[i]? = some l[i] := List.getElem?_eq_getElem hi
  generalize l[i] = x at hx
  simp only [Bw_eqIntSS, ltc hi, nnc, if_true, Int.toNat_natCast, hx, Option.bind_some, wsucc (show i < 9223372036854775807 by omega), eq_IntS (h.2 x (List.mem_of_getElem? hx))]
 ·simp only [Bw_eqIntSS, nltc, if_false]
def Wf_CombatTable (x : Gw_CombatTable) : Prop := x.Columns.length < 9223372036854775808 ∧ (x.Results.length < 9223372036854775808 ∧ ∀ y ∈ x.Results, y.length < 9223372036854775808)
def Sz_CombatTable (x : Gw_CombatTable) : Prop := x.Columns.length ≤ 1048576 ∧ (x.Results.length ≤ 1048576 ∧ ∀ y ∈ x.Results, y.length ≤ 1048576)
def Si_CombatTable (x : Gi_CombatTable) : Prop := x.Columns.length ≤ 1048576 ∧ (x.Results.length ≤ 1048576 ∧ ∀ y ∈ x.Results, y.length ≤ 1048576)
def cv_CombatTable (x : Gw_CombatTable) : Gi_CombatTable := ⟨(x.Columns.map cv_Odds), x.Dice, x.Results⟩
theorem szi_CombatTable {x : Gw_CombatTable} (h : Sz_CombatTable x) : Si_CombatTable (cv_CombatTable x) := ⟨(le_map h.1), h.2⟩
theorem sz_CombatTable {x : Gw_CombatTable} (hw : Wf_CombatTable x) {left : Int} (hl : 0 ≤ left ∧ left ≤ 1048576) : Ok (Dw_szCombatTable x left) fun r => r < 0 ∨ (0 ≤ r ∧ r ≤ left) ∧ Sz_CombatTable x := by
 unfold Dw_szCombatTable
 refine Ok.bind (sz_OddsS hw.1 (left := left) hl) fun r0 h0 => Ok.ite (fun _ => Ok.ret (.inl (by decide))) fun c0 => ?_
 replace h0 := h0.resolve_left c0
 refine Ok.bind (sz_IntSS hw.2 (left := r0) ⟨h0.1.1, by omega⟩) fun r1 h1 => Ok.ite (fun _ => Ok.ret (.inl (by decide))) fun c1 => ?_
 replace h1 := h1.resolve_left c1
 exact Ok.ret (.inr ⟨⟨by omega, by omega⟩, ⟨h0.2, h1.2⟩⟩)
theorem to_CombatTable {x : Gw_CombatTable} (h : Sz_CombatTable x) : Dw_toCombatTable x = some (cv_CombatTable x) := by
 unfold Dw_toCombatTable cv_CombatTable
 simp only [to_OddsS h.1, to_IntSS h.2, Option.bind_some]
theorem eq_CombatTable {x : Gi_CombatTable} (h : Si_CombatTable x) : Dw_eqCombatTable x x = some true := by
 unfold Dw_eqCombatTable
 simp [eq_OddsS h.1, eq_IntSS h.2]
def cv_Unit (x : Gw_Unit) : Gi_Unit := ⟨x.Side, x.Kind, x.At, x.Steps⟩
theorem to_Unit (x : Gw_Unit) : Dw_toUnit x = some (cv_Unit x) := by
 unfold Dw_toUnit cv_Unit
 rfl
theorem eq_Unit (x : Gi_Unit) : Dw_eqUnit x x = some true := by
 unfold Dw_eqUnit
 simp
theorem sz_UnitS {l : (List Gw_Unit)} (hw : l.length < 9223372036854775808) {left : Int} (hl : 0 ≤ left ∧ left ≤ 1048576) : Ok (Dw_szUnitS l left) fun r => r < 0 ∨ (0 ≤ r ∧ r ≤ left) ∧ l.length ≤ 1048576 := by
 unfold Dw_szUnitS
 rw [w64 (by omega)]
 exact Ok.ite (fun _ => Ok.ret (.inl (by decide))) fun c => Ok.ret (.inr ⟨⟨by omega, by omega⟩, by omega⟩)
theorem to_UnitS {l : (List Gw_Unit)} (h : l.length ≤ 1048576) : Dw_toUnitS l = some (l.map cv_Unit) := by
 have hl := h
 unfold Dw_toUnitS
 rw [Int.toNat_natCast, if_pos (by omega)]
 have := fill_loop (B := Bw_toUnitS) (S := fun i out => .h1 l (i : Int) out) (l := l) (g := cv_Unit) (fun i x y out hx hi hy => by
  simp only [Bw_toUnitS, ltc hi, nnc, if_true, Int.toNat_natCast, hx, hy, Option.bind_some, to_Unit x, wsucc (show i < 9223372036854775807 by omega), id]) (fun out => by
  simp only [Bw_toUnitS, nltc, if_false]) (Gi_Unit.mk 0 0 0 0)
 exact this
theorem eq_UnitS {l : (List Gi_Unit)} (h : l.length ≤ 1048576) : Dw_eqUnitS l l = some true := by
 have hl := h
 unfold Dw_eqUnitS
 rw [if_pos rfl]
 refine true_loop (B := Bw_eqUnitS) (S := fun i => .h1 l l (i : Int)) (n := l.length) (fun i hi => ?_) ?_
 ·have hx : l[i]? = some l[i] := List.getElem?_eq_getElem hi
  generalize l[i] = x at hx
  simp only [Bw_eqUnitS, ltc hi, nnc, if_true, Int.toNat_natCast, hx, Option.bind_some, wsucc (show i < 9223372036854775807 by omega), eq_Unit x]
 ·simp only [Bw_eqUnitS, nltc, if_false]
def Wf_State (x : Gw_State) : Prop := x.Units.length < 9223372036854775808
def Sz_State (x : Gw_State) : Prop := x.Units.length ≤ 1048576
def Si_State (x : Gi_State) : Prop := x.Units.length ≤ 1048576
def cv_State (x : Gw_State) : Gi_State := ⟨x.Turn, x.Weather, (x.Units.map cv_Unit)⟩
theorem szi_State {x : Gw_State} (h : Sz_State x) : Si_State (cv_State x) := (le_map h)
theorem sz_State {x : Gw_State} (hw : Wf_State x) {left : Int} (hl : 0 ≤ left ∧ left ≤ 1048576) : Ok (Dw_szState x left) fun r => r < 0 ∨ (0 ≤ r ∧ r ≤ left) ∧ Sz_State x := by
 unfold Dw_szState
 refine Ok.bind (sz_UnitS hw (left := left) hl) fun r0 h0 => Ok.ite (fun _ => Ok.ret (.inl (by decide))) fun c0 => ?_
 replace h0 := h0.resolve_left c0
 exact Ok.ret (.inr ⟨⟨by omega, by omega⟩, h0.2⟩)
theorem to_State {x : Gw_State} (h : Sz_State x) : Dw_toState x = some (cv_State x) := by
 unfold Dw_toState cv_State
 simp only [to_UnitS h, Option.bind_some]
theorem eq_State {x : Gi_State} (h : Si_State x) : Dw_eqState x x = some true := by
 unfold Dw_eqState
 simp [eq_UnitS h]
def cv_Goal (x : Gw_Goal) : Gi_Goal := ⟨x.At, x.Points⟩
theorem to_Goal (x : Gw_Goal) : Dw_toGoal x = some (cv_Goal x) := by
 unfold Dw_toGoal cv_Goal
 rfl
theorem eq_Goal (x : Gi_Goal) : Dw_eqGoal x x = some true := by
 unfold Dw_eqGoal
 simp
theorem sz_GoalS {l : (List Gw_Goal)} (hw : l.length < 9223372036854775808) {left : Int} (hl : 0 ≤ left ∧ left ≤ 1048576) : Ok (Dw_szGoalS l left) fun r => r < 0 ∨ (0 ≤ r ∧ r ≤ left) ∧ l.length ≤ 1048576 := by
 unfold Dw_szGoalS
 rw [w64 (by omega)]
 exact Ok.ite (fun _ => Ok.ret (.inl (by decide))) fun c => Ok.ret (.inr ⟨⟨by omega, by omega⟩, by omega⟩)
theorem to_GoalS {l : (List Gw_Goal)} (h : l.length ≤ 1048576) : Dw_toGoalS l = some (l.map cv_Goal) := by
 have hl := h
 unfold Dw_toGoalS
 rw [Int.toNat_natCast, if_pos (by omega)]
 have := fill_loop (B := Bw_toGoalS) (S := fun i out => .h1 l (i : Int) out) (l := l) (g := cv_Goal) (fun i x y out hx hi hy => by
  simp only [Bw_toGoalS, ltc hi, nnc, if_true, Int.toNat_natCast, hx, hy, Option.bind_some, to_Goal x, wsucc (show i < 9223372036854775807 by omega), id]) (fun out => by
  simp only [Bw_toGoalS, nltc, if_false]) (Gi_Goal.mk 0 0)
 exact this
theorem eq_GoalS {l : (List Gi_Goal)} (h : l.length ≤ 1048576) : Dw_eqGoalS l l = some true := by
 have hl := h
 unfold Dw_eqGoalS
 rw [if_pos rfl]
 refine true_loop (B := Bw_eqGoalS) (S := fun i => .h1 l l (i : Int)) (n := l.length) (fun i hi => ?_) ?_
 ·have hx : l[i]? = some l[i] := List.getElem?_eq_getElem hi
  generalize l[i] = x at hx
  simp only [Bw_eqGoalS, ltc hi, nnc, if_true, Int.toNat_natCast, hx, Option.bind_some, wsucc (show i < 9223372036854775807 by omega), eq_Goal x]
 ·simp only [Bw_eqGoalS, nltc, if_false]
def Wf_Conditions (x : Gw_Conditions) : Prop := x.Goals.length < 9223372036854775808
def Sz_Conditions (x : Gw_Conditions) : Prop := x.Goals.length ≤ 1048576
def Si_Conditions (x : Gi_Conditions) : Prop := x.Goals.length ≤ 1048576
def cv_Conditions (x : Gw_Conditions) : Gi_Conditions := ⟨(x.Goals.map cv_Goal), x.Step, x.Margin⟩
theorem szi_Conditions {x : Gw_Conditions} (h : Sz_Conditions x) : Si_Conditions (cv_Conditions x) := (le_map h)
theorem sz_Conditions {x : Gw_Conditions} (hw : Wf_Conditions x) {left : Int} (hl : 0 ≤ left ∧ left ≤ 1048576) : Ok (Dw_szConditions x left) fun r => r < 0 ∨ (0 ≤ r ∧ r ≤ left) ∧ Sz_Conditions x := by
 unfold Dw_szConditions
 refine Ok.bind (sz_GoalS hw (left := left) hl) fun r0 h0 => Ok.ite (fun _ => Ok.ret (.inl (by decide))) fun c0 => ?_
 replace h0 := h0.resolve_left c0
 exact Ok.ret (.inr ⟨⟨by omega, by omega⟩, h0.2⟩)
theorem to_Conditions {x : Gw_Conditions} (h : Sz_Conditions x) : Dw_toConditions x = some (cv_Conditions x) := by
 unfold Dw_toConditions cv_Conditions
 simp only [to_GoalS h, Option.bind_some]
theorem eq_Conditions {x : Gi_Conditions} (h : Si_Conditions x) : Dw_eqConditions x x = some true := by
 unfold Dw_eqConditions
 simp [eq_GoalS h]
def Wf_Scenario (x : Gw_Scenario) : Prop := x.Name.size < 9223372036854775808 ∧ Wf_Board x.Board ∧ Wf_CombatTable x.Table ∧ Wf_State x.Start ∧ Wf_Conditions x.Conditions ∧ x.First.length < 9223372036854775808 ∧ x.Other.length < 9223372036854775808
def Sz_Scenario (x : Gw_Scenario) : Prop := x.Name.size ≤ 1048576 ∧ Sz_Board x.Board ∧ Sz_CombatTable x.Table ∧ Sz_State x.Start ∧ Sz_Conditions x.Conditions ∧ x.First.length ≤ 1048576 ∧ x.Other.length ≤ 1048576
def Si_Scenario (x : Gi_Scenario) : Prop := x.Name.size ≤ 1048576 ∧ Si_Board x.Board ∧ Si_CombatTable x.Table ∧ Si_State x.Start ∧ Si_Conditions x.Conditions ∧ x.First.length ≤ 1048576 ∧ x.Other.length ≤ 1048576
def cv_Scenario (x : Gw_Scenario) : Gi_Scenario := ⟨x.Name, (cv_Board x.Board), (cv_CombatTable x.Table), (cv_State x.Start), (cv_Conditions x.Conditions), x.First, x.Other⟩
theorem szi_Scenario {x : Gw_Scenario} (h : Sz_Scenario x) : Si_Scenario (cv_Scenario x) := ⟨h.1, szi_Board h.2.1, szi_CombatTable h.2.2.1, szi_State h.2.2.2.1, szi_Conditions h.2.2.2.2.1, h.2.2.2.2.2.1, h.2.2.2.2.2.2⟩
theorem sz_Scenario {x : Gw_Scenario} (hw : Wf_Scenario x) {left : Int} (hl : 0 ≤ left ∧ left ≤ 1048576) : Ok (Dw_szScenario x left) fun r => r < 0 ∨ (0 ≤ r ∧ r ≤ left) ∧ Sz_Scenario x := by
 unfold Dw_szScenario
 have b0 : x.Name.size < 9223372036854775808 := hw.1
 rw [w64 (n := left - ((ByteArray.size x.Name : Nat) : Int)) (by omega)]
 refine Ok.ite (fun _ => Ok.ret (.inl (by decide))) fun c0 => ?_
 refine Ok.bind (sz_Board hw.2.1 (left := (left - ((ByteArray.size x.Name : Nat) : Int))) ⟨by omega, by omega⟩) fun r1 h1 => Ok.ite (fun _ => Ok.ret (.inl (by decide))) fun c1 => ?_
 replace h1 := h1.resolve_left c1
 refine Ok.bind (sz_CombatTable hw.2.2.1 (left := r1) ⟨h1.1.1, by omega⟩) fun r2 h2 => Ok.ite (fun _ => Ok.ret (.inl (by decide))) fun c2 => ?_
 replace h2 := h2.resolve_left c2
 refine Ok.bind (sz_State hw.2.2.2.1 (left := r2) ⟨h2.1.1, by omega⟩) fun r3 h3 => Ok.ite (fun _ => Ok.ret (.inl (by decide))) fun c3 => ?_
 replace h3 := h3.resolve_left c3
 refine Ok.bind (sz_Conditions hw.2.2.2.2.1 (left := r3) ⟨h3.1.1, by omega⟩) fun r4 h4 => Ok.ite (fun _ => Ok.ret (.inl (by decide))) fun c4 => ?_
 replace h4 := h4.resolve_left c4
 refine Ok.bind (sz_IntS hw.2.2.2.2.2.1 (left := r4) ⟨h4.1.1, by omega⟩) fun r5 h5 => Ok.ite (fun _ => Ok.ret (.inl (by decide))) fun c5 => ?_
 replace h5 := h5.resolve_left c5
 refine Ok.bind (sz_IntS hw.2.2.2.2.2.2 (left := r5) ⟨h5.1.1, by omega⟩) fun r6 h6 => Ok.ite (fun _ => Ok.ret (.inl (by decide))) fun c6 => ?_
 replace h6 := h6.resolve_left c6
 exact Ok.ret (.inr ⟨⟨by omega, by omega⟩, ⟨(show x.Name.size ≤ 1048576 by omega), h1.2, h2.2, h3.2, h4.2, h5.2, h6.2⟩⟩)
theorem to_Scenario {x : Gw_Scenario} (h : Sz_Scenario x) : Dw_toScenario x = some (cv_Scenario x) := by
 unfold Dw_toScenario cv_Scenario
 simp only [to_Board h.2.1, to_CombatTable h.2.2.1, to_State h.2.2.2.1, to_Conditions h.2.2.2.2.1, to_IntS h.2.2.2.2.2.1, to_IntS h.2.2.2.2.2.2, Option.bind_some]
theorem eq_Scenario {x : Gi_Scenario} (h : Si_Scenario x) : Dw_eqScenario x x = some true := by
 unfold Dw_eqScenario
 simp [eq_Board h.2.1, eq_CombatTable h.2.2.1, eq_State h.2.2.2.1, eq_Conditions h.2.2.2.2.1, eq_IntS h.2.2.2.2.2.1, eq_IntS h.2.2.2.2.2.2]

def unOk (b : Gi_Board) (u : Gi_Unit) : Bool := kIn u.Side 0 1 && kIn u.Kind 0 (b.Rules.Kinds.length - 1) && match b.Rules.Kinds[u.Kind.toNat]? with
 | some x => kIn u.Steps 0 x.Steps && (decide (u.At = -1) || (decide (u.Steps > 0) && kIn u.At 0 (b.Map.Terrain.length - 1) && decide (bdC b u.Kind u.At ≠ 0)))
 | none => false
theorem unOk_i {b : Gi_Board} (h : BdOk b) (u : Gi_Unit) : Di_goodUnit b u = some (unOk b u) := by
 have hk := h.r.k
 have hn := h.n2
 unfold Di_goodUnit unOk Di_isSide
 simp only [kin_i, Option.bind_some, isIndex_i (x := u.Kind) (n := (b.Rules.Kinds.length : Int)) (by omega)]
 cases c1 : kIn u.Side 0 1 with
 | false => simp
 | true =>
  cases c2 : kIn u.Kind 0 (b.Rules.Kinds.length - 1) with
  | false => simp
  | true =>
   have hkd := kIn_iff.1 c2
   have hx : b.Rules.Kinds[u.Kind.toNat]? = some b.Rules.Kinds[u.Kind.toNat] := List.getElem?_eq_getElem (by omega)
   simp only [if_true, hkd.1, hx, Option.bind_some, Bool.true_and]
   cases c3 : kIn u.Steps 0 b.Rules.Kinds[u.Kind.toNat].Steps with
   | false => simp
   | true =>
    simp only [if_true, Di_sizeOf, Option.bind_some, Bool.true_and, isIndex_i (x := u.At) (n := (b.Map.Terrain.length : Int)) (by omega)]
    by_cases c4 : u.At = -1
    ·simp [c4]
    ·by_cases c5 : u.Steps > 0
     ·cases c6 : kIn u.At 0 (b.Map.Terrain.length - 1) with
      | false => simp [c4]
      | true =>
       have ha := kIn_iff.1 c6
       rw [(bdC_b h (k := u.Kind) (i := u.At) (by omega) (by omega)).1]
       by_cases c7 : bdC b u.Kind u.At = 0 <;> simp [c4, c5, c7]
     ·simp [c4, c5]
theorem unOk_s {b : Gi_Board} (h : BdOk b) (u : Gi_Unit) : Ds_sUnit b u = some (unOk b u) := by
 have hk := h.r.k
 have hn := h.n2
 unfold Ds_sUnit unOk
 simp only [kin_s, Option.bind_some, w64 (n := (b.Rules.Kinds.length : Int) - 1) (by omega)]
 cases c1 : kIn u.Side 0 1 with
 | false => simp
 | true =>
  cases c2 : kIn u.Kind 0 (b.Rules.Kinds.length - 1) with
  | false => simp
  | true =>
   have hkd := kIn_iff.1 c2
   have hx : b.Rules.Kinds[u.Kind.toNat]? = some b.Rules.Kinds[u.Kind.toNat] := List.getElem?_eq_getElem (by omega)
   simp only [if_true, hkd.1, hx, Option.bind_some, Bool.true_and]
   cases c3 : kIn u.Steps 0 b.Rules.Kinds[u.Kind.toNat].Steps with
   | false => simp
   | true =>
    rw [mSize_s h.d (by decide), ← h.n]
    simp only [if_true, Option.bind_some, Bool.true_and, w64 (n := (b.Map.Terrain.length : Int) - 1) (by omega)]
    by_cases c4 : u.At = -1
    ·simp [c4]
    ·by_cases c5 : u.Steps > 0
     ·cases c6 : kIn u.At 0 (b.Map.Terrain.length - 1) with
      | false => simp [c4]
      | true =>
       have ha := kIn_iff.1 c6
       obtain ⟨_, e, h0, _⟩ := bdC_b h (k := u.Kind) (i := u.At) (by omega) (by omega)
       rw [e]
       have : decide (bdC b u.Kind u.At > 0) = decide (bdC b u.Kind u.At ≠ 0) := by
        rw [decide_eq_decide]; omega
       simp only [if_pos c5, if_neg c4, if_true, Option.bind_some, this]
       simp [c4, c5]
     ·simp [c4, c5]
structure UnOk (b : Gi_Board) (u : Gi_Unit) : Prop where
 s : u.Side = 0 ∨ u.Side = 1
 k : 0 ≤ u.Kind ∧ u.Kind < b.Rules.Kinds.length
 st : 0 ≤ u.Steps ∧ u.Steps ≤ 4
 a : u.At = -1 ∨ 0 < u.Steps ∧ 0 ≤ u.At ∧ u.At < b.Map.Terrain.length ∧ bdC b u.Kind u.At ≠ 0
theorem unOk_ok {b : Gi_Board} (h : BdOk b) {u : Gi_Unit} (hu : unOk b u = true) : UnOk b u := by
 simp only [unOk, Bool.and_eq_true, kIn_iff] at hu
 obtain ⟨⟨h1, h2⟩, h3⟩ := hu
 have hx : b.Rules.Kinds[u.Kind.toNat]? = some b.Rules.Kinds[u.Kind.toNat] := List.getElem?_eq_getElem (by omega)
 have hk := h.r.ks _ (List.mem_of_getElem? hx)
 rw [hx] at h3
 simp only [Bool.and_eq_true, kIn_iff, Bool.or_eq_true, decide_eq_true_eq] at h3
 refine ⟨by omega, by omega, by omega, ?_⟩
 rcases h3.2 with e | e
 ·exact .inl e
 ·exact .inr ⟨by omega, by omega, by omega, e.2⟩

def atB (a s : Int) (u : Gi_Unit) : Bool := decide (u.At = a) && decide (u.Side = s)
def cnt (us : List Gi_Unit) (a s : Int) : Int := ((us.filter (atB a s)).length : Int)
theorem cnt_snoc (us : List Gi_Unit) (u : Gi_Unit) (a s : Int) : cnt (us ++ [u]) a s = cnt us a s + if u.At = a ∧ u.Side = s then 1 else 0 := by
 unfold cnt
 rw [List.filter_append, List.length_append]
 by_cases c : u.At = a ∧ u.Side = s
 ·rw [if_pos c]
  have : atB a s u = true := by simp [atB, c.1, c.2]
  simp [List.filter, this]
 ·rw [if_neg c]
  have : atB a s u = false := by
   simp only [atB, Bool.and_eq_false_iff, decide_eq_false_iff_not]
   by_cases d : u.At = a
   ·exact .inr fun e => c ⟨d, e⟩
   ·exact .inl d
  simp [List.filter, this]
theorem cnt_nn (us : List Gi_Unit) (a s : Int) : 0 ≤ cnt us a s ∧ cnt us a s ≤ us.length := by
 have := List.length_filter_le (atB a s) us
 unfold cnt
 omega
theorem cnt_pos {us : List Gi_Unit} {u : Gi_Unit} (h : u ∈ us) : 1 ≤ cnt us u.At u.Side := by
 have : u ∈ us.filter (atB u.At u.Side) := List.mem_filter.2 ⟨h, by simp [atB]⟩
 have := List.length_pos_of_mem this
 unfold cnt
 omega
def stP (St : Int) (us : List Gi_Unit) (u : Gi_Unit) : Bool := decide (u.At < 0) || (decide (cnt us u.At (1 - u.Side) = 0) && decide (cnt us u.At u.Side ≤ St))
theorem stP_iff {St : Int} {us : List Gi_Unit} {u : Gi_Unit} : stP St us u = true ↔ (0 ≤ u.At → cnt us u.At (1 - u.Side) = 0 ∧ cnt us u.At u.Side ≤ St) := by
 simp only [stP, Bool.or_eq_true, Bool.and_eq_true, decide_eq_true_eq]
 constructor
 ·intro h h0
  rcases h with h | h
  ·omega
  ·exact h
 ·intro h
  by_cases c : u.At < 0
  ·exact .inl c
  ·exact .inr (h (by omega))
theorem rev_ind {α : Type} {P : List α → Prop} (h0 : P []) (hs : ∀ l x, P l → P (l ++ [x])) : ∀ l, P l := by
 intro l
 have : ∀ r : List α, P r.reverse := fun r => by
  induction r with
  | nil => exact h0
  | cons x r ih => rw [List.reverse_cons]; exact hs _ _ ih
 simpa using this l.reverse
theorem stP_all {St : Int} : ∀ us : List Gi_Unit, (∀ i u, us[i]? = some u → stP St (us.take (i + 1)) u = true) ↔ ∀ u ∈ us, stP St us u = true := by
 refine rev_ind (by simp) fun us v ih => ?_
 have tk : ∀ i, i < us.length → (us ++ [v]).take (i + 1) = us.take (i + 1) := fun i hi => List.take_append_of_le_length (by omega)
 have tn : (us ++ [v]).take (us.length + 1) = us ++ [v] := List.take_of_length_le (by simp)
 constructor
 ·intro h
  have h1 := ih.1 fun i u hu => by
   have hi : i < us.length := (List.getElem?_eq_some_iff.1 hu).1
   have := h i u (by rw [List.getElem?_append_left hi]; exact hu)
   rwa [tk i hi] at this
  have h2 := h us.length v (by simp)
  rw [tn] at h2
  have h2' := stP_iff.1 h2
  intro u hu
  rcases List.mem_append.1 hu with hu | hu
  ·refine stP_iff.2 fun h0 => ?_
   obtain ⟨e1, e2⟩ := stP_iff.1 (h1 u hu) h0
   rw [cnt_snoc, cnt_snoc]
   constructor
   ·by_cases c : v.At = u.At ∧ v.Side = 1 - u.Side
    ·have h3 := (h2' (by omega)).1
     rw [cnt_snoc] at h3
     have h4 := cnt_pos hu
     rw [c.1, show 1 - v.Side = u.Side by omega] at h3
     split at h3 <;> omega
    ·rw [if_neg c]; omega
   ·by_cases c : v.At = u.At ∧ v.Side = u.Side
    ·have h3 := (h2' (by omega)).2
     rw [cnt_snoc, c.1, c.2] at h3
     rw [if_pos c]
     simpa using h3
    ·rw [if_neg c]; omega
  ·rw [List.mem_singleton.1 hu]; exact h2
 ·intro h
  have h1 : ∀ u ∈ us, stP St us u = true := fun u hu => stP_iff.2 fun h0 => by
   obtain ⟨e1, e2⟩ := stP_iff.1 (h u (List.mem_append_left _ hu)) h0
   have a1 := cnt_nn us u.At (1 - u.Side)
   rw [cnt_snoc] at e1 e2
   split at e1 <;> split at e2 <;> omega
  intro i u hu
  by_cases hi : i < us.length
  ·rw [tk i hi]
   rw [List.getElem?_append_left hi] at hu
   exact ih.2 h1 i u hu
  ·have : i = us.length := by
    have := (List.getElem?_eq_some_iff.1 hu).1
    simp at this
    omega
   subst this
   rw [tn]
   simp only [List.getElem?_append_right (Nat.le_refl _), Nat.sub_self, List.getElem?_cons_zero, Option.some.injEq] at hu
   subst hu
   exact h _ (List.mem_append_right _ (List.mem_singleton.2 rfl))
def stG (b : Gi_Board) (s : Gi_State) : Bool := kIn s.Turn 0 b.Rules.Turns && kIn s.Weather 0 2 && decide (s.Units.length ≤ 12) && s.Units.all (unOk b) && s.Units.all (stP b.Rules.Stack s.Units)
def cntL (us : List Gi_Unit) (n : Nat) : List GA2I := (List.range n).map fun (a : Nat) => ⟨cnt us a 0, cnt us a 1⟩
theorem cntL_get {us : List Gi_Unit} {n : Nat} {a : Int} (h : 0 ≤ a ∧ a < n) : (cntL us n)[a.toNat]? = some ⟨cnt us a 0, cnt us a 1⟩ := by
 unfold cntL
 rw [List.getElem?_map, List.getElem?_range (by omega)]
 simp only [Option.map_some]
 rw [show ((a.toNat : Nat) : Int) = a by omega]
theorem cntL_off {us : List Gi_Unit} {n : Nat} {u : Gi_Unit} (h : u.At < 0) : cntL (us ++ [u]) n = cntL us n := by
 unfold cntL
 refine List.map_congr_left fun a _ => ?_
 rw [cnt_snoc, cnt_snoc, if_neg (by omega), if_neg (by omega), Int.add_zero, Int.add_zero]
theorem cntL_set {us : List Gi_Unit} {n : Nat} {u : Gi_Unit} (h : 0 ≤ u.At ∧ u.At < n) : List.set (cntL us n) u.At.toNat ⟨cnt (us ++ [u]) u.At 0, cnt (us ++ [u]) u.At 1⟩ = cntL (us ++ [u]) n := by
 refine List.ext_getElem? fun i => ?_
 have hl : (cntL us n).length = n := by simp [cntL]
 rw [List.getElem?_set]
 by_cases e : u.At.toNat = i
 ·subst e
  rw [if_pos rfl, if_pos (by omega), cntL_get h]
 ·rw [if_neg e]
  by_cases hi : i < n
  ·have h1 := cntL_get (us := us) (n := n) (a := (i : Int)) (by omega)
   have h2 := cntL_get (us := us ++ [u]) (n := n) (a := (i : Int)) (by omega)
   rw [Int.toNat_natCast] at h1 h2
   rw [h1, h2, cnt_snoc, cnt_snoc, if_neg (by omega), if_neg (by omega), Int.add_zero, Int.add_zero]
  ·rw [List.getElem?_eq_none (by omega), List.getElem?_eq_none (by simp [cntL]; omega)]
theorem state_i {b : Gi_Board} (h : BdOk b) (s : Gi_State) : Di_goodState b s = some (stG b s) := by
 have hn := h.n2
 have hst := h.r.e.1
 unfold Di_goodState stG
 simp only [kin_i, Option.bind_some]
 cases c1 : kIn s.Turn 0 b.Rules.Turns with
 | false => simp
 | true =>
  cases c2 : kIn s.Weather 0 2 with
  | false => simp
  | true =>
   by_cases c3 : s.Units.length ≤ 12
   ·simp only [if_true, Di_sizeOf, Option.bind_some, Bool.true_and, c3, decide_true, Int.toNat_natCast]
    rw [if_neg (by omega), if_pos (by omega), if_pos (by omega)]
    have key := all_goL (L := loop Bi_goodState) (S := fun i => .h1 s.Units (s.Units.length : Int) (i : Int) b (cntL (s.Units.take i) b.Map.Terrain.length)) (l := s.Units) (q := fun i u => unOk b u && stP b.Rules.Stack (s.Units.take (i + 1)) u) (f := false) (r := some true) (fun i u hu hi _ => by
      rw [loop_eq]
      have ht : s.Units.take (i + 1) = s.Units.take i ++ [u] := by rw [List.take_add_one, hu]; rfl
      simp only [Bi_goodState, ltc hi, nnc, if_true, Int.toNat_natCast, hu, Option.bind_some, unOk_i h, wsucc (show i < 9223372036854775807 by omega)]
      cases c4 : unOk b u with
      | false => simp [goOn]
      | true =>
       have hok := unOk_ok h c4
       simp only [if_true, Bool.true_and]
       by_cases c5 : u.At < 0
       ·have : stP b.Rules.Stack (s.Units.take (i + 1)) u = true := stP_iff.2 fun h0 => by omega
        rw [if_pos c5, this, ht, cntL_off c5]
        simp [goOn]
       ·have ha : 0 ≤ u.At ∧ u.At < b.Map.Terrain.length := by have := hok.a; omega
        have g1 := cntL_get (us := s.Units.take i) ha
        have sn := cntL_set (us := s.Units.take i) ha
        have g2 := cntL_get (us := s.Units.take i ++ [u]) ha
        have nn0 := cnt_nn (s.Units.take i) u.At 0
        have nn1 := cnt_nn (s.Units.take i) u.At 1
        have tl : (s.Units.take i).length ≤ 12 := by simp; omega
        have hP : stP b.Rules.Stack (s.Units.take (i + 1)) u = (decide (cnt (s.Units.take i ++ [u]) u.At (1 - u.Side) = 0) && decide (cnt (s.Units.take i ++ [u]) u.At u.Side ≤ b.Rules.Stack)) := by
         rw [ht]; simp [stP, c5]
        have s0 := cnt_snoc (s.Units.take i) u u.At 0
        have s1 := cnt_snoc (s.Units.take i) u u.At 1
        have nnn0 := cnt_nn (s.Units.take i ++ [u]) u.At 0
        have nnn1 := cnt_nn (s.Units.take i ++ [u]) u.At 1
        rw [if_neg c5, hP, ht]
        simp only [ha.1, if_true, g1, Option.bind_some]
        rcases hok.s with e | e
        ·have e1 : u.At = u.At ∧ u.Side = 0 := ⟨rfl, e⟩
         have e2 : ¬ (u.At = u.At ∧ u.Side = 1) := by omega
         rw [if_pos e1] at s0
         rw [if_neg e2, Int.add_zero] at s1
         rw [e, if_pos rfl, w64 (n := cnt (s.Units.take i) u.At 0 + 1) (by omega), ← s0, ← s1, sn]
         simp only [show IntKind.wrap .i64 (1 - 0) = 1 from by decide, show IntKind.wrap .i64 1 = 1 from by decide, g2, Option.bind_some, show ((1 : Int) = 0) = False by simp, if_false, if_true, show (1 : Int) - 0 = 1 from rfl]
         by_cases c6 : cnt (s.Units.take i ++ [u]) u.At 1 > 0
         ·rw [if_pos c6, decide_eq_false (by omega)]; simp [goOn]
         ·rw [if_neg c6, decide_eq_true (by omega)]
          by_cases c7 : cnt (s.Units.take i ++ [u]) u.At 0 > b.Rules.Stack
          ·rw [if_pos c7, decide_eq_false (by omega)]; simp [goOn]
          ·rw [if_neg c7, decide_eq_true (by omega)]; simp [goOn]
        ·have e1 : u.At = u.At ∧ u.Side = 1 := ⟨rfl, e⟩
         have e2 : ¬ (u.At = u.At ∧ u.Side = 0) := by omega
         rw [if_pos e1] at s1
         rw [if_neg e2, Int.add_zero] at s0
         rw [e, if_neg (by decide), if_pos rfl, w64 (n := cnt (s.Units.take i) u.At 1 + 1) (by omega), ← s0, ← s1, sn]
         simp only [show IntKind.wrap .i64 (1 - 1) = 0 from by decide, show IntKind.wrap .i64 0 = 0 from by decide, g2, Option.bind_some, if_true, show (1 : Int) - 1 = 0 from rfl]
         by_cases c6 : cnt (s.Units.take i ++ [u]) u.At 0 > 0
         ·rw [if_pos c6, decide_eq_false (by omega)]; simp [goOn]
         ·rw [if_neg c6, decide_eq_true (by omega)]
          by_cases c7 : cnt (s.Units.take i ++ [u]) u.At 1 > b.Rules.Stack
          ·rw [if_pos c7, decide_eq_false (by omega)]; simp [goOn]
          ·rw [if_neg c7, decide_eq_true (by omega)]; simp [goOn]) fun _ => by
      rw [loop_eq]
      simp only [Bi_goodState, nltc, if_false, goOn]
    have e0 : List.replicate b.Map.Terrain.length (GA2I.mk 0 0) = cntL (s.Units.take 0) b.Map.Terrain.length := by
     refine List.ext_getElem (by simp [cntL]) fun i h1 h2 => ?_
     simp [cntL, cnt]
    rw [e0]
    refine key.trans ?_
    rw [ifB, Option.some.injEq, Bool.eq_iff_iff, alli_iff, Bool.and_eq_true, List.all_eq_true, List.all_eq_true]
    constructor
    ·intro k
     refine ⟨fun u hu => ?_, (stP_all _).1 fun i u hu => ?_⟩
     ·obtain ⟨i, hi⟩ := List.getElem?_of_mem hu
      have := k i u hi
      simp only [Bool.and_eq_true] at this
      exact this.1
     ·have := k i u hu
      simp only [Bool.and_eq_true] at this
      exact this.2
    ·rintro ⟨k1, k2⟩ i u hu
     rw [Bool.and_eq_true]
     exact ⟨k1 u (List.mem_of_getElem? hu), (stP_all _).2 k2 i u hu⟩
   ·rw [if_pos rfl, if_pos rfl, if_pos (by omega)]
    simp [c3]

def satL (us : List Gi_Unit) (a s : Int) : List Int := (List.range us.length).filterMap fun (i : Nat) => match us[i]? with
 | some u => if u.At = a ∧ u.Side = s then some (i : Int) else none
 | none => none
theorem sat_s {s : Gi_State} (h : s.Units.length ≤ 1000) (a side : Int) : Ds_sAt s a side = some (satL s.Units a side) := by
 unfold Ds_sAt satL
 refine fm_goL (L := loop Bs_sAt) (S := fun i acc => .h1 a side s.Units (s.Units.length : Int) (i : Int) acc) (r := some) (fun i acc hi ha => ?_) fun acc ha => ?_
 ·have hx : s.Units[i]? = some s.Units[i] := List.getElem?_eq_getElem hi
  rw [loop_eq]
  simp only [Bs_sAt, ltc hi, nnc, if_true, Int.toNat_natCast, hx, Option.bind_some, if8 (show acc.length ≤ 3000000 by omega), wsucc (show i < 9223372036854775807 by omega)]
  by_cases c1 : s.Units[i].At = a
  ·by_cases c2 : s.Units[i].Side = side
   ·simp [c1, c2, goOn]
   ·simp [c1, c2, goOn]
  ·simp [c1, goOn]
 ·rw [loop_eq]
  simp only [Bs_sAt, nltc, if_false, goOn]
theorem fm_congr {α β : Type} {f g : α → Option β} : ∀ {l : List α}, (∀ x ∈ l, f x = g x) → l.filterMap f = l.filterMap g
 | [], _ => rfl
 | x :: l, h => by
  rw [List.filterMap_cons, List.filterMap_cons, h x (List.mem_cons_self ..), fm_congr fun y hy => h y (List.mem_cons_of_mem _ hy)]
theorem satL_len (us : List Gi_Unit) (a s : Int) : ((satL us a s).length : Int) = cnt us a s := by
 refine rev_ind (P := fun us => ((satL us a s).length : Int) = cnt us a s) rfl (fun us u ih => ?_) us
 rw [cnt_snoc, ← ih]
 unfold satL
 rw [List.length_append, List.length_singleton, List.range_succ, List.filterMap_append]
 have e : (List.range us.length).filterMap (fun (i : Nat) => match (us ++ [u])[i]? with | some u => if u.At = a ∧ u.Side = s then some (i : Int) else none | none => none) = (List.range us.length).filterMap (fun (i : Nat) => match us[i]? with | some u => if u.At = a ∧ u.Side = s then some (i : Int) else none | none => none) := by
  refine fm_congr fun i hi => ?_
  rw [List.mem_range] at hi
  rw [List.getElem?_append_left hi]
 rw [e, List.length_append]
 have e2 : (us ++ [u])[us.length]? = some u := by simp
 by_cases c : u.At = a ∧ u.Side = s
 ·simp [List.filterMap, e2, c]
 ·rw [if_neg c]
  simp only [List.filterMap, e2, if_neg c]
  simp
theorem stateLoop_s {b : Gi_Board} (h : BdOk b) {s : Gi_State} (hl : s.Units.length ≤ 12) (hu : ∀ u ∈ s.Units, unOk b u = true) : loop Bs_sGood (.h2 s.Units (s.Units.length : Int) 0 b s) = some (s.Units.all (stP b.Rules.Stack s.Units)) := by
 have key := all_goL (L := loop Bs_sGood) (S := fun i => .h2 s.Units (s.Units.length : Int) (i : Int) b s) (l := s.Units) (q := fun _ u => stP b.Rules.Stack s.Units u) (f := false) (r := some true) (fun i u hx hi _ => by
   have ho := unOk_ok h (hu u (List.mem_of_getElem? hx))
   have e1 := satL_len s.Units u.At (1 - u.Side)
   have e2 := satL_len s.Units u.At u.Side
   have n1 := cnt_nn s.Units u.At (1 - u.Side)
   rw [loop_eq]
   simp only [Bs_sGood, ltc hi, nnc, if_true, Int.toNat_natCast, hx, Option.bind_some, wsucc (show i < 9223372036854775807 by omega), sat_s (show s.Units.length ≤ 1000 by omega), w64 (show -9223372036854775808 ≤ 1 - u.Side ∧ 1 - u.Side ≤ 9223372036854775807 by have := ho.s; omega), e1, e2]
   by_cases c : u.At ≥ 0
   ·rw [if_pos c]
    by_cases c1 : cnt s.Units u.At (1 - u.Side) > 0
    ·rw [if_pos c1, if_neg (by rw [stP_iff]; intro k; have := (k c).1; omega)]; rfl
    ·rw [if_neg c1]
     by_cases c2 : cnt s.Units u.At u.Side > b.Rules.Stack
     ·rw [if_pos c2, if_neg (by rw [stP_iff]; intro k; have := (k c).2; omega)]; rfl
     ·rw [if_neg c2, if_pos (stP_iff.2 fun _ => ⟨by omega, by omega⟩)]; rfl
   ·rw [if_neg c, if_pos (stP_iff.2 fun k => absurd k c)]; rfl) fun _ => by
   rw [loop_eq]
   simp only [Bs_sGood, nltc, if_false, goOn]
 refine key.trans ?_
 rw [ifB, Option.some.injEq, Bool.eq_iff_iff, alli_iff, List.all_eq_true]
 constructor
 ·intro k u hu
  obtain ⟨i, hi⟩ := List.getElem?_of_mem hu
  exact k i u hi
 ·intro k i u hi
  exact k u (List.mem_of_getElem? hi)
theorem state_s {b : Gi_Board} (h : BdLen b) (s : Gi_State) : Ds_sGood b s = some (bdG b && stG b s) := by
 unfold Ds_sGood stG
 rw [isBoard_s h]
 cases c0 : bdG b with
 | false => simp
 | true =>
  have ho := bdG_ok c0
  simp only [kin_s, Option.bind_some, if_true, Bool.true_and]
  cases c1 : kIn s.Turn 0 b.Rules.Turns with
  | false => simp
  | true =>
   cases c2 : kIn s.Weather 0 2 with
   | false => simp
   | true =>
    by_cases c3 : s.Units.length ≤ 12
    ·simp only [if_true, Bool.true_and, c3, decide_true]
     rw [if_neg (by omega)]
     have key := all_goL (L := loop Bs_sGood) (S := fun i => .h1 s.Units (s.Units.length : Int) (i : Int) b s) (l := s.Units) (q := fun _ u => unOk b u) (f := false) (r := some (s.Units.all (stP b.Rules.Stack s.Units))) (fun i u hx hi _ => by
       rw [loop_eq]
       simp only [Bs_sGood, ltc hi, nnc, if_true, Int.toNat_natCast, hx, Option.bind_some, unOk_s ho, wsucc (show i < 9223372036854775807 by omega)]
       cases unOk b u <;> simp [goOn]) fun hall => by
       rw [loop_eq]
       simp only [Bs_sGood, nltc, if_false, goOn]
       exact stateLoop_s ho c3 fun u hu => by
        obtain ⟨i, hi⟩ := List.getElem?_of_mem hu
        exact hall i u hi
     refine key.trans ?_
     have e : alli (fun _ u => unOk b u) s.Units = s.Units.all (unOk b) := by
      rw [Bool.eq_iff_iff, alli_iff, List.all_eq_true]
      constructor
      ·intro k u hu
       obtain ⟨i, hi⟩ := List.getElem?_of_mem hu
       exact k i u hi
      ·intro k i u hi
       exact k u (List.mem_of_getElem? hi)
     rw [e]
     cases s.Units.all (unOk b) <;> simp
    ·simp only [if_true, Bool.true_and, c3, decide_false, Bool.false_and]
     rw [if_pos (by omega)]
def glP (b : Gi_Board) (gs : List Gi_Goal) (i : Nat) (g : Gi_Goal) : Bool := kIn g.At 0 (b.Map.Terrain.length - 1) && kIn g.Points 1 20 && (decide (i = 0) || match gs[i - 1]? with
 | some p => decide (p.At < g.At)
 | none => false)
def cdG (b : Gi_Board) (x : Gi_Conditions) : Bool := decide (x.Goals.length ≤ 12) && kIn x.Step 0 9 && kIn x.Margin 0 200 && alli (glP b x.Goals) x.Goals
theorem conds_i {b : Gi_Board} (h : BdOk b) (x : Gi_Conditions) : Di_goodConditions b x = some (cdG b x) := by
 have hn := h.n2
 unfold Di_goodConditions cdG
 by_cases c0 : x.Goals.length ≤ 12
 ·rw [if_neg (by omega)]
  simp only [kin_i, Option.bind_some, c0, decide_true, Bool.true_and]
  cases kIn x.Step 0 9 with
  | false => simp
  | true =>
   cases kIn x.Margin 0 200 with
   | false => simp
   | true =>
    simp only [if_true, Bool.true_and]
    rw [← ifB]
    refine all_goL (L := loop Bi_goodConditions) (S := fun i => .h1 x.Goals (x.Goals.length : Int) (i : Int) b x) (l := x.Goals) (q := glP b x.Goals) (f := false) (r := some true) (fun i g hx hi _ => ?_) fun _ => ?_
    ·rw [loop_eq]
     simp only [Bi_goodConditions, ltc hi, nnc, if_true, Int.toNat_natCast, hx, Option.bind_some, Di_sizeOf, isIndex_i (x := g.At) (n := (b.Map.Terrain.length : Int)) (by omega), kin_i, wsucc (show i < 9223372036854775807 by omega)]
     have b1 := Bool.eq_false_or_eq_true (kIn g.At 0 (b.Map.Terrain.length - 1))
     have b2 := Bool.eq_false_or_eq_true (kIn g.Points 1 20)
     rcases Nat.eq_zero_or_pos i with z | z
     ·have hq : glP b x.Goals i g = (kIn g.At 0 (b.Map.Terrain.length - 1) && kIn g.Points 1 20) := by simp [glP, z]
      rw [hq]
      subst z
      rcases b1 with b1 | b1 <;> rcases b2 with b2 | b2 <;> simp [b1, b2, goOn]
     ·have hp : x.Goals[i - 1]? = some x.Goals[i - 1] := List.getElem?_eq_getElem (by omega)
      have hq : glP b x.Goals i g = (kIn g.At 0 (b.Map.Terrain.length - 1) && kIn g.Points 1 20 && decide (x.Goals[i - 1].At < g.At)) := by simp [glP, hp, show i ≠ 0 by omega]
      rw [hq, wpred (by omega) z, Int.toNat_natCast, hp, if_pos (show (i : Int) > 0 by omega), if_pos (show (0 : Int) ≤ ((i - 1 : Nat) : Int) by omega)]
      simp only [Option.bind_some]
      by_cases c : x.Goals[i - 1].At ≥ g.At
      ·have c' : ¬ x.Goals[i - 1].At < g.At := by omega
       rcases b1 with b1 | b1 <;> rcases b2 with b2 | b2 <;> simp [b1, b2, c, c', goOn]
      ·have c' : x.Goals[i - 1].At < g.At := by omega
       rcases b1 with b1 | b1 <;> rcases b2 with b2 | b2 <;> simp [b1, b2, c, c', goOn]
    ·rw [loop_eq]
     simp only [Bi_goodConditions, nltc, if_false, goOn]
 ·rw [if_pos (by omega)]
  simp [c0]
theorem conds_s {b : Gi_Board} (h : BdLen b) (x : Gi_Conditions) : Ds_vcGood b x = some (bdG b && cdG b x) := by
 unfold Ds_vcGood cdG
 rw [isBoard_s h]
 cases cb : bdG b with
 | false => simp
 | true =>
  have ho := bdG_ok cb
  have hn := ho.n2
  simp only [Option.bind_some, if_true, Bool.true_and]
  by_cases c0 : x.Goals.length ≤ 12
  ·rw [if_neg (by omega)]
   simp only [kin_s, Option.bind_some, c0, decide_true, Bool.true_and]
   cases kIn x.Step 0 9 with
   | false => simp
   | true =>
    cases kIn x.Margin 0 200 with
    | false => simp
    | true =>
     simp only [if_true, Bool.true_and]
     rw [← ifB]
     refine all_goL (L := loop Bs_vcGood) (S := fun i => .h1 x.Goals (x.Goals.length : Int) (i : Int) b x) (l := x.Goals) (q := glP b x.Goals) (f := false) (r := some true) (fun i g hx hi _ => ?_) fun _ => ?_
     ·rw [loop_eq]
      simp only [Bs_vcGood, ltc hi, nnc, if_true, Int.toNat_natCast, hx, Option.bind_some, mSize_s ho.d (by decide), ← ho.n, w64 (show -9223372036854775808 ≤ (b.Map.Terrain.length : Int) - 1 ∧ (b.Map.Terrain.length : Int) - 1 ≤ 9223372036854775807 by omega), kin_s, wsucc (show i < 9223372036854775807 by omega)]
      have b1 := Bool.eq_false_or_eq_true (kIn g.At 0 (b.Map.Terrain.length - 1))
      have b2 := Bool.eq_false_or_eq_true (kIn g.Points 1 20)
      rcases Nat.eq_zero_or_pos i with z | z
      ·have hq : glP b x.Goals i g = (kIn g.At 0 (b.Map.Terrain.length - 1) && kIn g.Points 1 20) := by simp [glP, z]
       rw [hq]
       subst z
       rcases b1 with b1 | b1 <;> rcases b2 with b2 | b2 <;> simp [b1, b2, goOn]
      ·have hp : x.Goals[i - 1]? = some x.Goals[i - 1] := List.getElem?_eq_getElem (by omega)
       have hq : glP b x.Goals i g = (kIn g.At 0 (b.Map.Terrain.length - 1) && kIn g.Points 1 20 && decide (x.Goals[i - 1].At < g.At)) := by simp [glP, hp, show i ≠ 0 by omega]
       rw [hq, wpred (by omega) z, Int.toNat_natCast, hp, if_pos (show (i : Int) > 0 by omega), if_pos (show (0 : Int) ≤ ((i - 1 : Nat) : Int) by omega)]
       simp only [Option.bind_some]
       by_cases c : x.Goals[i - 1].At ≥ g.At
       ·have c' : ¬ x.Goals[i - 1].At < g.At := by omega
        rcases b1 with b1 | b1 <;> rcases b2 with b2 | b2 <;> simp [b1, b2, c, c', goOn]
       ·have c' : x.Goals[i - 1].At < g.At := by omega
        rcases b1 with b1 | b1 <;> rcases b2 with b2 | b2 <;> simp [b1, b2, c, c', goOn]
     ·rw [loop_eq]
      simp only [Bs_vcGood, nltc, if_false, goOn]
  ·rw [if_pos (by omega)]
   simp [c0]
def srG (b : Gi_Board) (l : List Int) : Bool := decide (l.length ≤ 6) && rising l && alli (fun _ x => kIn x 0 (b.Map.Terrain.length - 1)) l
theorem contains_src {b : Gi_Board} (h : BdOk b) {l : List Int} (hl : l.length ≤ 2000000) : Dslices_ContainsFunc_int_i_areSources_1 l b = some (!(alli (fun _ x => kIn x 0 (b.Map.Terrain.length - 1)) l)) := by
 have hn := h.n2
 rw [← ifNB]
 have := all_goL (L := fun s => (loop Bslices_IndexFunc_int_i_areSources_1 s).map fun r => decide (r ≥ 0)) (S := fun i => .h1 l b (l.length : Int) (i : Int)) (l := l) (q := fun _ x => kIn x 0 (b.Map.Terrain.length - 1)) (f := true) (r := some false) (fun i x hx hi _ => by
  rw [loop_eq]
  simp only [Bslices_IndexFunc_int_i_areSources_1, ltc hi, nnc, if_true, Int.toNat_natCast, hx, Option.bind_some, Di_areSources_1, Di_sizeOf, isIndex_i (x := x) (n := (b.Map.Terrain.length : Int)) (by omega), wsucc (show i < 9223372036854775807 by omega)]
  cases kIn x 0 (b.Map.Terrain.length - 1) <;> simp [goOn]) fun _ => by
  rw [loop_eq]
  simp only [Bslices_IndexFunc_int_i_areSources_1, nltc, if_false]
  rfl
 refine Eq.trans ?_ this
 unfold Dslices_ContainsFunc_int_i_areSources_1 Dslices_IndexFunc_int_i_areSources_1
 cases loop Bslices_IndexFunc_int_i_areSources_1 (.h1 l b (l.length : Int) 0) <;> rfl
theorem sources_i {b : Gi_Board} (h : BdOk b) (l : List Int) : Di_areSources b l = some (srG b l) := by
 unfold Di_areSources srG
 by_cases c : l.length ≤ 6
 ·rw [if_pos (by omega), increasing_i (by omega), Option.bind_some, contains_src h (by omega)]
  cases rising l <;> simp [c]
 ·rw [if_neg (by omega)]
  simp [c]
theorem rsB_iff {l : List Int} : ∀ (n i : Nat), 1 ≤ i → (rsB l n i = true ↔ ∀ j x y, i ≤ j → j < i + n → l[j - 1]? = some x → l[j]? = some y → x < y)
 | 0, i, _ => by
  simp only [rsB, true_iff]
  intro j x y h1 h2
  omega
 | n + 1, i, h => by
  rw [rsB, Bool.and_eq_true, rsB_iff n (i + 1) (by omega)]
  constructor
  ·rintro ⟨h1, h2⟩ j x y hj1 hj2 hx hy
   by_cases e : j = i
   ·subst e
    rw [hx, hy] at h1
    simpa using h1
   ·exact h2 j x y (by omega) (by omega) hx hy
  ·intro k
   refine ⟨?_, fun j x y hj1 hj2 => k j x y (by omega) (by omega)⟩
   cases hx : l[i - 1]? with
   | none => rfl
   | some x =>
    cases hy : l[i]? with
    | none => rfl
    | some y => simpa using k i x y (Nat.le_refl _) (by omega) hx hy
theorem rising_iff {l : List Int} : rising l = true ↔ ∀ j x y, 1 ≤ j → l[j - 1]? = some x → l[j]? = some y → x < y := by
 unfold rising
 rw [rsB_iff _ _ (Nat.le_refl _)]
 constructor
 ·intro k j x y h1 hx hy
  have := (List.getElem?_eq_some_iff.1 hy).1
  exact k j x y h1 (by omega) hx hy
 ·intro k j x y h1 _ hx hy
  exact k j x y h1 hx hy
theorem rise_g {l : List Int} (hl : l.length ≤ 2000000) (lo hi : Int) : Ds_l1Rising l lo hi = some (rising l && alli (fun _ x => kIn x lo hi) l) := by
 have key := all_goL (L := loop Bs_l1Rising) (S := fun i => .h1 l lo hi l (l.length : Int) (i : Int)) (l := l) (q := fun i x => kIn x lo hi && (decide (i = 0) || match l[i - 1]? with | some p => decide (p < x) | none => false)) (f := false) (r := some true) (fun i x hx hi' _ => by
   rw [loop_eq]
   simp only [Bs_l1Rising, ltc hi', nnc, if_true, Int.toNat_natCast, hx, Option.bind_some, kin_s, wsucc (show i < 9223372036854775807 by omega)]
   have b1 := Bool.eq_false_or_eq_true (kIn x lo hi)
   rcases b1 with b1 | b1
   ·rcases Nat.eq_zero_or_pos i with z | z
    ·subst z
     simp [b1, goOn]
    ·have hp : l[i - 1]? = some l[i - 1] := List.getElem?_eq_getElem (by omega)
     rw [wpred (by omega) z, Int.toNat_natCast, hp, if_pos (show (i : Int) > 0 by omega), if_pos (show (0 : Int) ≤ ((i - 1 : Nat) : Int) by omega)]
     by_cases c : l[i - 1] ≥ x
     ·have : ¬ l[i - 1] < x := by omega
      simp [b1, c, this, goOn, show i ≠ 0 by omega]
     ·have : l[i - 1] < x := by omega
      simp [b1, c, this, goOn]
   ·simp [b1, goOn]) fun _ => by
   rw [loop_eq]
   simp only [Bs_l1Rising, nltc, if_false, goOn]
 unfold Ds_l1Rising
 refine key.trans ?_
 rw [ifB, Option.some.injEq, Bool.eq_iff_iff, alli_iff, Bool.and_eq_true, rising_iff, alli_iff]
 constructor
 ·intro k
  refine ⟨fun j x y h1 hx hy => ?_, fun i x hx => ?_⟩
  ·have := k j y hy
   simp only [Bool.and_eq_true, Bool.or_eq_true, decide_eq_true_eq, hx] at this
   rcases this.2 with e | e
   ·omega
   ·exact e
  ·have := k i x hx
   simp only [Bool.and_eq_true] at this
   exact this.1
 ·rintro ⟨k1, k2⟩ i x hx
  rw [Bool.and_eq_true]
  refine ⟨k2 i x hx, ?_⟩
  rcases Nat.eq_zero_or_pos i with z | z
  ·simp [z]
  ·have hlt := (List.getElem?_eq_some_iff.1 hx).1
   have hp : l[i - 1]? = some l[i - 1] := List.getElem?_eq_getElem (by omega)
   rw [hp]
   simp [k1 i _ x z hp hx]
theorem sources_s {b : Gi_Board} (h : BdOk b) (l : List Int) : Ds_jSources b l = some (srG b l) := by
 have hn := h.n2
 unfold Ds_jSources srG
 by_cases c : l.length ≤ 6
 ·rw [if_pos (by omega), mSize_s h.d (by decide), ← h.n, Option.bind_some, w64 (by omega), rise_g (by omega)]
  simp [c]
 ·rw [if_neg (by omega)]
  simp [c]
def scF (x : Gi_Scenario) : Int := if nmB x.Name = true then (if bdG x.Board = true then (if kG x.Table = true then (if stG x.Board x.Start = true then (if cdG x.Board x.Conditions = true then (if (srG x.Board x.First && srG x.Board x.Other) = true then 0 else 6) else 5) else 4) else 3) else 2) else 1
structure ScLen (x : Gi_Scenario) : Prop where
 n : x.Name.size ≤ 2000000
 b : BdLen x.Board
theorem fault_i {x : Gi_Scenario} (h : ScLen x) : Di_ScenarioFault x = some (scF x) := by
 unfold Di_ScenarioFault scF
 rw [nm_i h.n, Option.bind_some, isBoard_i h.b]
 cases nmB x.Name with
 | false => simp
 | true =>
  cases hb : bdG x.Board with
  | false => simp
  | true =>
   have ho := bdG_ok hb
   simp only [if_true, Option.bind_some, isTable_i, state_i ho, conds_i ho, sources_i ho]
   cases kG x.Table with
   | false => simp
   | true =>
    cases stG x.Board x.Start with
    | false => simp
    | true =>
     cases cdG x.Board x.Conditions with
     | false => simp
     | true => cases srG x.Board x.First <;> cases srG x.Board x.Other <;> simp
theorem code_s {x : Gi_Scenario} (h : ScLen x) : Ds_snCode x = some (scF x) := by
 unfold Ds_snCode scF
 rw [nm_s h.n, Option.bind_some, isBoard_s h.b]
 cases nmB x.Name with
 | false => simp
 | true =>
  cases hb : bdG x.Board with
  | false => simp
  | true =>
   have ho := bdG_ok hb
   simp only [if_true, Option.bind_some, tabGood_s, state_s h.b, conds_s h.b, sources_s ho, hb, Bool.true_and]
   cases kG x.Table with
   | false => simp
   | true =>
    cases stG x.Board x.Start with
    | false => simp
    | true =>
     cases cdG x.Board x.Conditions with
     | false => simp
     | true => cases srG x.Board x.First <;> cases srG x.Board x.Other <;> simp

theorem si_ScLen {x : Gi_Scenario} (h : Si_Scenario x) : ScLen x := by
 obtain ⟨h1, ⟨h2, h3⟩, _⟩ := h
 obtain ⟨⟨a1, a2⟩, a3, a4⟩ := h2
 obtain ⟨m1, m2, m3⟩ := h3
 exact ⟨by omega, ⟨⟨by omega, fun y hy => ⟨by have := (a2 y hy).1; omega, by have := (a2 y hy).2; omega⟩, by omega, fun y hy => by have := a4 y hy; unfold Si_Kind at this; omega⟩, ⟨by omega, by omega, by omega⟩⟩⟩
theorem isSc_i {x : Gi_Scenario} (h : ScLen x) : Di_IsScenario x = some (decide (scF x = 0)) := by
 unfold Di_IsScenario
 rw [fault_i h]
 by_cases c : scF x = 0 <;> simp [c]
theorem snGood_s {x : Gi_Scenario} (h : ScLen x) : Ds_snGood x = some (decide (scF x = 0)) := by
 unfold Ds_snGood
 rw [code_s h]
 by_cases c : scF x = 0 <;> simp [c]
theorem Ok.isTrue {o : Option Bool} (h : Ok o fun r => r = true) : o = some true := by
 obtain ⟨a, e, rfl⟩ := h
 exact e
theorem Ok.is {α : Type} {o : Option α} {a : α} (h : Ok o fun r => r = a) : o = some a := by
 obtain ⟨a, e, rfl⟩ := h
 exact e
structure ScOk (x : Gi_Scenario) : Prop where
 b : bdG x.Board = true
 k : kG x.Table = true
 s : stG x.Board x.Start = true
 c : cdG x.Board x.Conditions = true
 f : srG x.Board x.First = true
 o : srG x.Board x.Other = true
theorem scF_ok {x : Gi_Scenario} (h : scF x = 0) : ScOk x := by
 unfold scF at h
 by_cases h1 : nmB x.Name = true
 ·rw [if_pos h1] at h
  by_cases hb : bdG x.Board = true
  ·rw [if_pos hb] at h
   by_cases hk : kG x.Table = true
   ·rw [if_pos hk] at h
    by_cases hs : stG x.Board x.Start = true
    ·rw [if_pos hs] at h
     by_cases hc : cdG x.Board x.Conditions = true
     ·rw [if_pos hc] at h
      by_cases hf : (srG x.Board x.First && srG x.Board x.Other) = true
      ·rw [if_pos hf] at h
       simp only [Bool.and_eq_true] at hf
       exact ⟨hb, hk, hs, hc, hf.1, hf.2⟩
      ·rw [if_neg hf] at h; omega
     ·rw [if_neg hc] at h; omega
    ·rw [if_neg hs] at h; omega
   ·rw [if_neg hk] at h; omega
  ·rw [if_neg hb] at h; omega
 ·rw [if_neg h1] at h; omega
structure StOk (b : Gi_Board) (s : Gi_State) : Prop where
 t : 0 ≤ s.Turn ∧ s.Turn ≤ b.Rules.Turns
 w : 0 ≤ s.Weather ∧ s.Weather ≤ 2
 n : s.Units.length ≤ 12
 u : ∀ u ∈ s.Units, UnOk b u
 p : ∀ u ∈ s.Units, 0 ≤ u.At → cnt s.Units u.At (1 - u.Side) = 0 ∧ cnt s.Units u.At u.Side ≤ b.Rules.Stack
theorem stG_ok {b : Gi_Board} (h : BdOk b) {s : Gi_State} (hs : stG b s = true) : StOk b s := by
 simp only [stG, Bool.and_eq_true, kIn_iff, decide_eq_true_eq, List.all_eq_true] at hs
 obtain ⟨⟨⟨⟨h1, h2⟩, h3⟩, h4⟩, h5⟩ := hs
 exact ⟨h1, h2, h3, fun u hu => unOk_ok h (h4 u hu), fun u hu => stP_iff.1 (h5 u hu)⟩
theorem ScOk.st {x : Gi_Scenario} (h : ScOk x) : StOk x.Board x.Start := stG_ok (bdG_ok h.b) h.s
def srcOf' (x : Gi_Scenario) (side : Int) : List Int := if side = 0 then x.First else x.Other
theorem ScOk.src {x : Gi_Scenario} (h : ScOk x) (side : Int) : srG x.Board (srcOf' x side) = true := by
 unfold srcOf'
 split
 ·exact h.f
 ·exact h.o
theorem srG_len {b : Gi_Board} {l : List Int} (h : srG b l = true) : l.length ≤ 6 := by
 simp only [srG, Bool.and_eq_true, decide_eq_true_eq] at h
 exact h.1.1
theorem map_goL {σ α ρ : Type} {L : σ → Option ρ} {S : Nat → List α → σ} {l : List α} {g : α → α} {r : List α → Option ρ}
  (hs : ∀ i x m, l[i]? = some x → i < m.length → m.length = l.length → m[i]? = some x → L (S i m) = L (S (i + 1) (m.set i (g x)))) (he : ∀ m, m.length = l.length → L (S l.length m) = r m) : L (S 0 l) = r (l.map g) := by
 have key : ∀ (k i : Nat), i + k = l.length → L (S i ((l.take i).map g ++ l.drop i)) = r (l.map g) := by
  intro k
  induction k with
  | zero =>
   intro i h
   have : i = l.length := by omega
   subst this
   rw [List.take_length, List.drop_length, List.append_nil, he _ (by simp)]
  | succ k ih =>
   intro i h
   have hlt : i < l.length := by omega
   have hx := List.getElem?_eq_getElem hlt
   have hli : ((l.take i).map g).length = i := by simp; omega
   have hm : ((l.take i).map g ++ l.drop i)[i]? = some l[i] := by
    rw [List.getElem?_append_right (by omega), hli, Nat.sub_self, List.getElem?_drop]
    exact hx
   have hll : ((l.take i).map g ++ l.drop i).length = l.length := by rw [List.length_append, hli, List.length_drop]; omega
   rw [hs i l[i] _ hx (by omega) hll hm]
   have e : List.set ((l.take i).map g ++ l.drop i) i (g l[i]) = (l.take (i + 1)).map g ++ l.drop (i + 1) := by
    rw [List.set_append_right _ _ (by omega), hli, Nat.sub_self, List.drop_eq_getElem_cons hlt, List.set_cons_zero, List.take_add_one, hx, List.map_append]
    simp
   rw [e]
   exact ih (i + 1) (by omega)
 simpa using key l.length 0 (by omega)
structure TbOk (t : Gi_CombatTable) : Prop where
 c : t.Columns.length ≤ 8
 r : t.Results.length ≤ 11
 rs : ∀ x ∈ t.Results, x.length ≤ 8
theorem kG_ok {t : Gi_CombatTable} (h : kG t = true) : TbOk t := by
 simp only [kG, Bool.and_eq_true, kIn_iff, decide_eq_true_eq] at h
 obtain ⟨⟨⟨⟨h1, h2⟩, h3⟩, h4⟩, h5⟩ := h
 refine ⟨by omega, by omega, fun x hx => ?_⟩
 obtain ⟨i, hi⟩ := List.getElem?_of_mem hx
 have := alli_iff.1 h5 i x hi
 simp only [kRow, Bool.and_eq_true, decide_eq_true_eq] at this
 omega
theorem take_toNat {α : Type} {l : List α} {i : Int} {x : α} (h0 : 0 ≤ i) (hx : l[i.toNat]? = some x) : l.take i.toNat ++ [x] = l.take (i + 1).toNat := by
 rw [show (i + 1).toNat = i.toNat + 1 by omega, List.take_add_one, hx]
 rfl
theorem cloneRules_i {r : Gi_Rules} (h : RlOk r) : Di_cloneRules r = some r := by
 have ht := h.t
 have hk := h.k
 refine Ok.is ?_
 unfold Di_cloneRules
 refine Ok.loop (B := Bi_cloneRules) (fun | .h1 t0 t1 t2 b3 _ _ _ _ _ l9 => t0 = r.Terrains ∧ t1 = (r.Terrains.length : Int) ∧ 0 ≤ t2 ∧ t2 ≤ r.Terrains.length ∧ b3 = r ∧ l9 = r.Terrains.take t2.toNat) (fun | .h1 t0 t1 t2 b3 _ _ _ _ _ l9 => (r.Terrains.length - t2).toNat) (fun s hI => ?_) ⟨rfl, rfl, by omega, by omega, rfl, rfl⟩
 match s, hI with
 | .h1 t0 t1 t2 b3 _ _ _ _ _ l9, ⟨e1, e2, h1, h2, e3, e4⟩ =>
  subst e1 e2 e3 e4
  simp only [Bi_cloneRules]
  refine Ok.ite (fun c => Ok.chk h1 (Ok.get (by omega) fun x hx hm => ?_)) fun c => ?_
  ·have hc := (h.ts x hm).1
   unfold Dslices_Clone_int
   rw [if_pos (by omega)]
   refine Ok.chk (by simp; omega) (Ok.ret ?_)
   rw [w64 (by omega)]
   dsimp only
   refine ⟨⟨rfl, rfl, by omega, by omega, rfl, take_toNat h1 hx⟩, by omega⟩
  ·unfold Dslices_Clone_i_Kind
   rw [if_pos (by omega), List.take_of_length_le (by omega)]
   exact Ok.ret rfl
def rOI (r : Gi_Rules) : Ss_rOwn → Prop
 | .h1 t0 t1 t2 b3 _ _ _ _ _ _ b10 b11 b12 b13 b14 => t0 = r.Terrains ∧ t1 = (r.Terrains.length : Int) ∧ t2 = 0 ∧ b3 = r ∧ b10 = r.Stack ∧ b11 = r.River ∧ b12 = r.Road ∧ b13 = r.Supply ∧ b14 = r.Turns
 | .h2 t0 t1 t2 b3 _ _ _ _ _ _ b10 b11 b12 b13 b14 l15 => t0 = r.Terrains ∧ t1 = (r.Terrains.length : Int) ∧ 0 ≤ t2 ∧ t2 ≤ r.Terrains.length ∧ b3 = r ∧ (b10 = r.Stack ∧ b11 = r.River ∧ b12 = r.Road ∧ b13 = r.Supply ∧ b14 = r.Turns) ∧ l15 = r.Terrains.take t2.toNat
def rOM (r : Gi_Rules) : Ss_rOwn → Nat
 | .h1 .. => 1000
 | .h2 _ _ t2 .. => (r.Terrains.length - t2).toNat
theorem rOwn_s {r : Gi_Rules} (h : RlOk r) : Ds_rOwn r = some r := by
 have ht := h.t
 have hk := h.k
 refine Ok.is ?_
 unfold Ds_rOwn
 refine Ok.loop (B := Bs_rOwn) (rOI r) (rOM r) (fun s hI => ?_) ⟨rfl, rfl, rfl, rfl, rfl, rfl, rfl, rfl, rfl⟩
 match s, hI with
 | .h1 t0 t1 t2 b3 b4 b5 b6 b7 b8 b9 b10 b11 b12 b13 b14, ⟨e1, e2, e3, e4, e5, e6, e7, e8, e9⟩ =>
  subst e1 e2 e3 e4 e5 e6 e7 e8 e9
  simp only [Bs_rOwn]
  refine Ok.chk (by omega) (Ok.chk (by omega) (Ok.get (by omega) fun x hx hm => ?_))
  have hc := (h.ts x hm).1
  unfold Ds_l1Own
  rw [if_pos (by omega)]
  refine Ok.ret ?_
  have := take_toNat (by omega) hx
  have e : IntKind.wrap .i64 (0 + 1) = 0 + 1 := by decide
  rw [e]
  exact ⟨⟨rfl, rfl, by omega, by omega, rfl, ⟨rfl, rfl, rfl, rfl, rfl⟩, this⟩, by simp only [rOM]; omega⟩
 | .h2 t0 t1 t2 b3 b4 b5 b6 b7 b8 b9 b10 b11 b12 b13 b14 l15, ⟨e1, e2, h1, h2, e3, ⟨e5, e6, e7, e8, e9⟩, e4⟩ =>
  subst e1 e2 e3 e4 e5 e6 e7 e8 e9
  simp only [Bs_rOwn]
  refine Ok.ite (fun c => Ok.chk h1 (Ok.get (by omega) fun x hx hm => ?_)) fun c => ?_
  ·have hc := (h.ts x hm).1
   unfold Ds_l1Own
   rw [if_pos (by omega)]
   refine Ok.chk (by simp; omega) (Ok.ret ?_)
   rw [w64 (by omega)]
   exact ⟨⟨rfl, rfl, by omega, by omega, rfl, ⟨rfl, rfl, rfl, rfl, rfl⟩, take_toNat h1 hx⟩, by simp only [rOM]; omega⟩
  ·refine Ok.chk (by omega) (Ok.ret ?_)
   rw [List.take_of_length_le (by omega)]
def cTI (t : Gi_CombatTable) : Si_cloneTable → Prop
 | .h1 t0 t1 t2 _ b4 l5 => t0 = t.Results ∧ t1 = (t.Results.length : Int) ∧ t2 = 0 ∧ b4 = t.Dice ∧ l5 = t.Columns
 | .h2 t0 t1 t2 _ b4 l5 l6 => t0 = t.Results ∧ t1 = (t.Results.length : Int) ∧ 0 ≤ t2 ∧ t2 ≤ t.Results.length ∧ b4 = t.Dice ∧ l5 = t.Columns ∧ l6 = t.Results.take t2.toNat
def cTM (t : Gi_CombatTable) : Si_cloneTable → Nat
 | .h1 .. => 1000
 | .h2 _ _ t2 .. => (t.Results.length - t2).toNat
theorem cloneTable_i {t : Gi_CombatTable} (h : TbOk t) : Di_cloneTable t = some t := by
 have hc := h.c
 have hr := h.r
 refine Ok.is ?_
 unfold Di_cloneTable Dslices_Clone_i_Odds
 rw [if_pos (by omega), Option.bind_some]
 refine Ok.loop (B := Bi_cloneTable) (cTI t) (cTM t) (fun s hI => ?_) ⟨rfl, rfl, rfl, rfl, rfl⟩
 match s, hI with
 | .h1 t0 t1 t2 b3 b4 l5, ⟨e1, e2, e3, e4, e5⟩ =>
  subst e1 e2 e3 e4 e5
  simp only [Bi_cloneTable]
  refine Ok.ite (fun c => Ok.chk (by omega) (Ok.get (by omega) fun x hx hm => ?_)) fun c => Ok.ret ?_
  ·have hx2 := h.rs x hm
   unfold Dslices_Clone_int
   rw [if_pos (by omega)]
   refine Ok.ret ?_
   have := take_toNat (by omega) hx
   have e : IntKind.wrap .i64 (0 + 1) = 0 + 1 := by decide
   rw [e]
   exact ⟨⟨rfl, rfl, by omega, by omega, rfl, rfl, this⟩, by simp only [cTM]; omega⟩
  ·have : t.Results = [] := List.length_eq_zero_iff.1 (by omega)
   rw [← this]
 | .h2 t0 t1 t2 b3 b4 l5 l6, ⟨e1, e2, h1, h2, e3, e4, e5⟩ =>
  subst e1 e2 e3 e4 e5
  simp only [Bi_cloneTable]
  refine Ok.ite (fun c => Ok.chk (by omega) (Ok.get (by omega) fun x hx hm => ?_)) fun c => Ok.ret ?_
  ·have hx2 := h.rs x hm
   unfold Dslices_Clone_int
   rw [if_pos (by omega)]
   refine Ok.chk (by simp; omega) (Ok.ret ?_)
   rw [w64 (by omega)]
   exact ⟨⟨rfl, rfl, by omega, by omega, rfl, rfl, take_toNat h1 hx⟩, by simp only [cTM]; omega⟩
  ·rw [List.take_of_length_le (by omega)]
def kOI (t : Gi_CombatTable) : Ss_kOwn → Prop
 | .h1 t0 t1 t2 _ b4 l5 => t0 = t.Results ∧ t1 = (t.Results.length : Int) ∧ t2 = 0 ∧ b4 = t.Dice ∧ l5 = t.Columns
 | .h2 t0 t1 t2 _ b4 l5 l6 => t0 = t.Results ∧ t1 = (t.Results.length : Int) ∧ 0 ≤ t2 ∧ t2 ≤ t.Results.length ∧ b4 = t.Dice ∧ l5 = t.Columns ∧ l6 = t.Results.take t2.toNat
def kOM (t : Gi_CombatTable) : Ss_kOwn → Nat
 | .h1 .. => 1000
 | .h2 _ _ t2 .. => (t.Results.length - t2).toNat
theorem kOwn_s {t : Gi_CombatTable} (h : TbOk t) : Ds_kOwn t = some t := by
 have hc := h.c
 have hr := h.r
 refine Ok.is ?_
 unfold Ds_kOwn
 rw [if_pos (by omega)]
 refine Ok.loop (B := Bs_kOwn) (kOI t) (kOM t) (fun s hI => ?_) ⟨rfl, rfl, rfl, rfl, rfl⟩
 match s, hI with
 | .h1 t0 t1 t2 b3 b4 l5, ⟨e1, e2, e3, e4, e5⟩ =>
  subst e1 e2 e3 e4 e5
  simp only [Bs_kOwn]
  refine Ok.ite (fun c => Ok.chk (by omega) (Ok.get (by omega) fun x hx hm => ?_)) fun c => Ok.ret ?_
  ·have hx2 := h.rs x hm
   unfold Ds_l1Own
   rw [if_pos (by omega)]
   refine Ok.ret ?_
   have := take_toNat (by omega) hx
   have e : IntKind.wrap .i64 (0 + 1) = 0 + 1 := by decide
   rw [e]
   exact ⟨⟨rfl, rfl, by omega, by omega, rfl, rfl, this⟩, by simp only [kOM]; omega⟩
  ·have : t.Results = [] := List.length_eq_zero_iff.1 (by omega)
   rw [← this]
 | .h2 t0 t1 t2 b3 b4 l5 l6, ⟨e1, e2, h1, h2, e3, e4, e5⟩ =>
  subst e1 e2 e3 e4 e5
  simp only [Bs_kOwn]
  refine Ok.ite (fun c => Ok.chk (by omega) (Ok.get (by omega) fun x hx hm => ?_)) fun c => Ok.ret ?_
  ·have hx2 := h.rs x hm
   unfold Ds_l1Own
   rw [if_pos (by omega)]
   refine Ok.chk (by simp; omega) (Ok.ret ?_)
   rw [w64 (by omega)]
   exact ⟨⟨rfl, rfl, by omega, by omega, rfl, rfl, take_toNat h1 hx⟩, by simp only [kOM]; omega⟩
  ·rw [List.take_of_length_le (by omega)]
theorem clone_int {l : List Int} (h : l.length ≤ 3000000) : Dslices_Clone_int l = some l := by
 unfold Dslices_Clone_int
 rw [if_pos (by omega)]
theorem own_int {l : List Int} (h : l.length ≤ 3000000) : Ds_l1Own l = some l := by
 unfold Ds_l1Own
 rw [if_pos (by omega)]
theorem cdG_len {b : Gi_Board} {x : Gi_Conditions} (h : cdG b x = true) : x.Goals.length ≤ 12 := by
 simp only [cdG, Bool.and_eq_true, decide_eq_true_eq] at h
 exact h.1.1.1
theorem cloneMap_i {m : Gi_Map} (h : MpLen m) : Di_cloneMap m = some m := by
 have := h.1
 have := h.2.1
 have := h.2.2
 unfold Di_cloneMap
 rw [clone_int (by omega), Option.bind_some, clone_int (by omega), Option.bind_some, clone_int (by omega)]
 rfl
theorem mOwn_s {m : Gi_Map} (h : MpLen m) : Ds_mOwn m = some m := by
 have := h.1
 have := h.2.1
 have := h.2.2
 unfold Ds_mOwn
 rw [own_int (by omega), Option.bind_some, own_int (by omega), Option.bind_some, own_int (by omega)]
 rfl
theorem cloneSc_i {x : Gi_Scenario} (hl : ScLen x) (h : ScOk x) : Di_cloneScenario x = some x := by
 have hb := bdG_ok h.b
 have hn := h.st.n
 have hc := cdG_len h.c
 have hf := srG_len h.f
 have ho := srG_len h.o
 unfold Di_cloneScenario Di_cloneBoard Di_cloneState Dslices_Clone_i_Unit Dslices_Clone_i_Goal
 rw [cloneRules_i hb.r, Option.bind_some, cloneMap_i hl.b.m, Option.bind_some, Option.bind_some, cloneTable_i (kG_ok h.k), Option.bind_some, if_pos (by omega), Option.bind_some, Option.bind_some, if_pos (by omega), Option.bind_some, clone_int (by omega), Option.bind_some, clone_int (by omega)]
 rfl
theorem snOwn_s {x : Gi_Scenario} (hl : ScLen x) (h : ScOk x) : Ds_snOwn x = some x := by
 have hb := bdG_ok h.b
 have hn := h.st.n
 have hc := cdG_len h.c
 have hf := srG_len h.f
 have ho := srG_len h.o
 unfold Ds_snOwn Ds_sOwn
 rw [rOwn_s hb.r, Option.bind_some, mOwn_s hl.b.m, Option.bind_some, kOwn_s (kG_ok h.k), Option.bind_some, if_pos (by omega), Option.bind_some, if_pos (by omega), own_int (by omega), Option.bind_some, own_int (by omega)]
 rfl
def swU (u : Gi_Unit) : Gi_Unit := ⟨1 - u.Side, u.Kind, u.At, u.Steps⟩
def swS (x : Gi_Scenario) : Gi_Scenario := ⟨x.Name, x.Board, x.Table, ⟨x.Start.Turn, x.Start.Weather, x.Start.Units.map swU⟩, x.Conditions, x.Other, x.First⟩
theorem bdG_mp {b : Gi_Board} (h : bdG b = true) : mpGood b.Map = true := by
 simp only [bdG, Bool.and_eq_true] at h
 exact h.1.2
structure BdV (b : Gi_Board) : Prop where
 l : BdLen b
 g : bdG b = true
theorem BdV.ok {b : Gi_Board} (h : BdV b) : BdOk b := bdG_ok h.g
theorem BdV.on {b : Gi_Board} (h : BdV b) {i : Int} (hi : 0 ≤ i ∧ i < b.Map.Terrain.length) : mpOn b.Map i = true := mpOn_iff.2 ⟨bdG_mp h.g, hi.1, by have := h.ok.n; omega⟩
theorem BdV.next {b : Gi_Board} (h : BdV b) {i d : Int} (hi : 0 ≤ i ∧ i < b.Map.Terrain.length) (hd : 0 ≤ d ∧ d < 6) : Di_nextTo b.Map i d = some (mpNext b.Map i d) ∧ Ds_mNext b.Map i d = some (mpNext b.Map i d) := next_b h.ok.d100 ⟨hi.1, by have := h.ok.n2; omega⟩ hd
theorem BdV.nlt {b : Gi_Board} (h : BdV b) {i d : Int} (hk : 0 ≤ mpNext b.Map i d) : mpNext b.Map i d < b.Map.Terrain.length := by
 have := (mpNext_lt hk).1
 have := h.ok.n
 omega
theorem UnOk.kind {b : Gi_Board} {u : Gi_Unit} (h : UnOk b u) : b.Rules.Kinds[u.Kind.toNat]? = some (b.Rules.Kinds[u.Kind.toNat]'(by have := h.k; omega)) := List.getElem?_eq_getElem _
theorem UnOk.on {b : Gi_Board} {u : Gi_Unit} (h : UnOk b u) (h0 : ¬ u.At < 0) : 0 ≤ u.At ∧ u.At < b.Map.Terrain.length := by
 have := h.a
 omega
theorem next_back {m : Gi_Map} {i d : Int} (h1 : mpOn m i = true) (h2 : 0 ≤ d ∧ d < 6) (h3 : 0 ≤ mpNext m i d) : mpNext m (mpNext m i d) (Int.tmod (d + 3) 6) = i := by
 obtain ⟨d1, d2, d3, d4, d5⟩ := mpOn_dim h1
 obtain ⟨n1, n2⟩ := mpNext_lt h3
 show mpIdx m (hexGo (mpHex m (mpNext m i d)) (Int.tmod (d + 3) 6) 1) = i
 rw [n2, hexBack _ h2]
 exact mpHex_idx d2 ⟨d3, d5⟩
def r6 (d : Int) : Int := Int.tmod (d + 3) 6
theorem BdV.d100' {b : Gi_Board} (h : BdV b) : MpDim b.Map 100 := by
 have := h.ok.d
 unfold MpDim at this ⊢
 omega
theorem Ok.and' {α : Type} {o : Option α} {P Q : α → Prop} (h : Ok o P) (g : Ok o Q) : Ok o fun a => P a ∧ Q a := by
 obtain ⟨a, e, p⟩ := h
 obtain ⟨a', e', q⟩ := g
 rw [e] at e'
 cases e'
 exact ⟨a, e, p, q⟩
theorem equal_i {l m : List Int} (hl : l.length ≤ 2000000) : Dslices_Equal_int l m = some (decide (l = m)) := by
 unfold Dslices_Equal_int
 by_cases c : l.length = m.length
 ·rw [if_pos (by omega)]
  have key : ∀ (n j : Nat), j + n = l.length → l.take j = m.take j → loop Bslices_Equal_int (.h1 l m (l.length : Int) (j : Int)) = some (decide (l = m)) := by
   intro n
   induction n with
   | zero =>
    intro j h e
    have hj : j = l.length := by omega
    subst hj
    rw [loop_eq]
    simp only [Bslices_Equal_int, nltc, if_false, goOn]
    rw [List.take_length, c, List.take_length] at e
    rw [decide_eq_true e]
   | succ n ih =>
    intro j h e
    have hj : j < l.length := by omega
    have hx : l[j]? = some l[j] := List.getElem?_eq_getElem hj
    have hy : m[j]? = some (m[j]'(by omega)) := List.getElem?_eq_getElem _
    rw [loop_eq]
    simp only [Bslices_Equal_int, ltc hj, nnc, if_true, Int.toNat_natCast, hx, hy, Option.bind_some, wsucc (show j < 9223372036854775807 by omega)]
    by_cases c2 : l[j] = m[j]'(by omega)
    ·rw [if_pos c2]
     refine ih (j + 1) (by omega) ?_
     rw [List.take_add_one, List.take_add_one, e, hx, hy, c2]
    ·rw [if_neg c2, decide_eq_false fun hh => c2 (by subst hh; rfl)]; rfl
  exact key l.length 0 (by omega) rfl
 ·rw [if_neg (by omega), decide_eq_false fun hh => c (by rw [hh])]
theorem same_s {l m : List Int} (hl : l.length ≤ 2000000) : Ds_l1Same l m = some (decide (l = m)) := by
 unfold Ds_l1Same
 by_cases c : l.length = m.length
 ·rw [if_pos (by omega)]
  have key : ∀ (n j : Nat), j + n = l.length → l.take j = m.take j → loop Bs_l1Same (.h1 l m (l.length : Int) (j : Int)) = some (decide (l = m)) := by
   intro n
   induction n with
   | zero =>
    intro j h e
    have hj : j = l.length := by omega
    subst hj
    rw [loop_eq]
    simp only [Bs_l1Same, nltc, if_false, goOn]
    rw [List.take_length, c, List.take_length] at e
    rw [decide_eq_true e]
   | succ n ih =>
    intro j h e
    have hj : j < l.length := by omega
    have hx : l[j]? = some l[j] := List.getElem?_eq_getElem hj
    have hy : m[j]? = some (m[j]'(by omega)) := List.getElem?_eq_getElem _
    rw [loop_eq]
    simp only [Bs_l1Same, ltc hj, nnc, if_true, Int.toNat_natCast, hx, hy, Option.bind_some, wsucc (show j < 9223372036854775807 by omega)]
    by_cases c2 : l[j] = m[j]'(by omega)
    ·rw [if_pos c2]
     refine ih (j + 1) (by omega) ?_
     rw [List.take_add_one, List.take_add_one, e, hx, hy, c2]
    ·rw [if_neg c2, decide_eq_false fun hh => c2 (by subst hh; rfl)]; rfl
  exact key l.length 0 (by omega) rfl
 ·rw [if_neg (by omega), decide_eq_false fun hh => c (by rw [hh])]
def mirI (m : Gi_Map) (i : Int) : Int := (i % m.Width) * m.Height + i / m.Width
def mir2 (m : Gi_Map) : Gi_Map := ⟨m.Height, m.Width, [], [], []⟩
theorem mpOnI {m : Gi_Map} (hd : MpDim m 10) {i : Int} (hi : 0 ≤ i ∧ i < m.Width * m.Height) : (0 ≤ i % m.Width ∧ i % m.Width ≤ m.Width - 1) ∧ (0 ≤ i / m.Width ∧ i / m.Width ≤ m.Height - 1) := by
 unfold MpDim at hd
 have h1 := Int.emod_nonneg i (show m.Width ≠ 0 by omega)
 have h2 := Int.emod_lt_of_pos i (show (0 : Int) < m.Width by omega)
 have h3 := Int.ediv_nonneg hi.1 (show (0 : Int) ≤ m.Width by omega)
 have h4 : i / m.Width < m.Height := Int.ediv_lt_of_lt_mul (by omega) (by rw [Int.mul_comm]; exact hi.2)
 omega
theorem mirI_on {m : Gi_Map} (hd : MpDim m 10) {i : Int} (hi : 0 ≤ i ∧ i < m.Width * m.Height) : 0 ≤ mirI m i ∧ mirI m i < m.Width * m.Height := by
 obtain ⟨h1, h2⟩ := mpOnI hd hi
 have := mpMul (w := m.Height) (h := m.Width) (q := i / m.Width) (r := i % m.Width) h2 h1
 unfold mirI
 rw [Int.mul_comm m.Width m.Height]
 exact this
theorem mirI_div {m : Gi_Map} (hd : MpDim m 10) {i : Int} (hi : 0 ≤ i ∧ i < m.Width * m.Height) : mirI m i % m.Height = i / m.Width ∧ mirI m i / m.Height = i % m.Width := by
 obtain ⟨h1, h2⟩ := mpOnI hd hi
 unfold MpDim at hd
 unfold mirI
 constructor
 ·rw [Int.add_comm, Int.add_mul_emod_self_right, Int.emod_eq_of_lt h2.1 (by omega)]
 ·rw [Int.add_comm, Int.add_mul_ediv_right _ _ (by omega), Int.ediv_eq_zero_of_lt h2.1 (by omega), Int.zero_add]
theorem mirI_inj {m : Gi_Map} (hd : MpDim m 10) {i j : Int} (hi : 0 ≤ i ∧ i < m.Width * m.Height) (hj : 0 ≤ j ∧ j < m.Width * m.Height) (h : mirI m i = mirI m j) : i = j := by
 obtain ⟨a1, a2⟩ := mirI_div hd hi
 obtain ⟨b1, b2⟩ := mirI_div hd hj
 rw [h] at a1 a2
 rw [← Int.mul_ediv_add_emod i m.Width, ← Int.mul_ediv_add_emod j m.Width, ← a1, ← a2, b1, b2]
theorem mir_mul {m : Gi_Map} (hd : MpDim m 10) : m.Width * m.Height ≤ 100 := by
 have := mpSize hd
 omega
theorem mirI_b {m : Gi_Map} (hd : MpDim m 10) {i : Int} (hi : 0 ≤ i ∧ i < m.Width * m.Height) : Di_mirrorIndex m i = some (mirI m i) ∧ Ds_mMirrorIndex m i = some (mirI m i) := by
 have hm := mir_mul hd
 have hon := mirI_on hd hi
 obtain ⟨h1, h2⟩ := mpOnI hd hi
 have hp := mpMul (w := m.Height) (h := m.Width) (q := 0) (r := i % m.Width) (by unfold MpDim at hd; omega) h1
 have hc := Int.mul_comm m.Width m.Height
 unfold MpDim at hd
 have h0 : ¬ m.Width = 0 := by omega
 unfold Di_mirrorIndex Ds_mMirrorIndex
 rw [if_pos h0, if_pos h0, (hexOf_b (m := m) (i := i) hd.1 (by omega)).2, Option.bind_some, Int.tmod_eq_emod_of_nonneg hi.1, Int.tdiv_eq_ediv_of_nonneg hi.1]
 unfold mirI at hon ⊢
 unfold mpHex
 dsimp only
 generalize i % m.Width * m.Height = u at *
 rw [w64 (n := i / m.Width) (by omega), w64 (n := u) (by omega), w64 (by omega)]
 exact ⟨rfl, rfl⟩
theorem mir_hex {m : Gi_Map} (hd : MpDim m 10) {i : Int} (hi : 0 ≤ i ∧ i < m.Width * m.Height) : mpHex (mir2 m) (mirI m i) = ⟨(mpHex m i).R, (mpHex m i).Q⟩ := by
 obtain ⟨a1, a2⟩ := mirI_div hd hi
 unfold mpHex mir2
 dsimp only
 rw [a1, a2]
theorem mir_next {m : Gi_Map} (hd : MpDim m 10) {i d : Int} (hi : 0 ≤ i ∧ i < m.Width * m.Height) (h6 : 0 ≤ d ∧ d < 6) (hp : 0 ≤ mpNext m i d) : mpNext (mir2 m) (mirI m i) (5 - d) = mirI m (mpNext m i d) := by
 have hd' := hd
 unfold MpDim at hd'
 unfold mpNext at hp ⊢
 rw [mir_hex hd hi]
 have hq : dQ (5 - d) = dR d ∧ dR (5 - d) = dQ d := by rcases sixDirs h6 with rfl | rfl | rfl | rfl | rfl | rfl <;> exact ⟨rfl, rfl⟩
 unfold hexGo at hp ⊢
 rw [hq.1, hq.2]
 generalize (mpHex m i).Q + 1 * dQ d = q at hp ⊢
 generalize (mpHex m i).R + 1 * dR d = r at hp ⊢
 by_cases hc : 0 ≤ q ∧ q ≤ m.Width - 1 ∧ 0 ≤ r ∧ r ≤ m.Height - 1
 ·rw [show mpIdx m ⟨q, r⟩ = r * m.Width + q from if_pos hc, show mpIdx (mir2 m) ⟨r, q⟩ = q * m.Height + r from if_pos ⟨hc.2.2.1, hc.2.2.2, hc.1, hc.2.1⟩]
  unfold mirI
  rw [Int.add_comm (r * m.Width) q, Int.add_mul_emod_self_right, Int.emod_eq_of_lt hc.1 (by omega), Int.add_mul_ediv_right _ _ (by omega), Int.ediv_eq_zero_of_lt hc.1 (by omega), Int.zero_add]
 ·rw [show mpIdx m ⟨q, r⟩ = -1 from if_neg hc] at hp
  omega
def mirE (m : Gi_Map) (e : Int) : Int := 3 * mirI m (mpNext m (e / 3) (e % 3)) + (2 - e % 3)
theorem edge_hex {m : Gi_Map} {e : Int} (h : mpEdgeOk m e = true) : (0 ≤ e / 3 ∧ e / 3 < m.Width * m.Height) ∧ (0 ≤ e % 3 ∧ e % 3 < 3) ∧ 0 ≤ mpNext m (e / 3) (e % 3) := by
 obtain ⟨h1, h2, h3⟩ := mpEdge_iff.1 h
 omega
theorem mirE_b {m m' : Gi_Map} (hd : MpDim m 10) (hw : m'.Width = m.Height) (hh : m'.Height = m.Width) {e : Int} (h : mpEdgeOk m e = true) :
  Di_edgeOf m' (mirI m (e / 3)) (5 - e % 3) = some (mirE m e) ∧ Ds_mEdge m' (mirI m (e / 3)) (5 - e % 3) = some (mirE m e) := by
 obtain ⟨h1, h2, h3⟩ := edge_hex h
 have hm := mir_mul hd
 have hon := mirI_on hd h1
 have hn := mir_next hd h1 (d := e % 3) (by omega) h3
 have hnl := (mpNext_lt h3).1
 have hon2 := mirI_on hd (i := mpNext m (e / 3) (e % 3)) ⟨h3, hnl⟩
 have hd' : MpDim m' 100 := by unfold MpDim at hd ⊢; omega
 obtain ⟨n1, n2⟩ := next_b (m := m') (i := mirI m (e / 3)) (d := 5 - e % 3) hd' (by omega) (by omega)
 have hn' : mpNext m' (mirI m (e / 3)) (5 - e % 3) = mirI m (mpNext m (e / 3) (e % 3)) := by
  rw [← hn]
  unfold mpNext mpHex mpIdx mir2
  rw [hw, hh]
 rw [hn'] at n1 n2
 unfold Di_edgeOf Ds_mEdge mirE
 rw [n1, n2, Option.bind_some, Option.bind_some, if_neg (by omega), if_neg (by omega)]
 generalize mirI m (mpNext m (e / 3) (e % 3)) = u at *
 rw [w64 (n := 3 * u) (by omega), w64 (n := 3 * u + (5 - e % 3)) (by omega), w64 (by omega)]
 constructor <;> (congr 1; omega)
theorem mirE_inj {b : Gi_Board} (h : BdV b) {e e' : Int} (he : mpEdgeOk b.Map e = true) (he' : mpEdgeOk b.Map e' = true) (hq : mirE b.Map e = mirE b.Map e') : e = e' := by
 have hd := h.ok.d
 have hn := h.ok.n
 obtain ⟨h1, h2, h3⟩ := edge_hex he
 obtain ⟨g1, g2, g3⟩ := edge_hex he'
 unfold mirE at hq
 have hnl := (mpNext_lt h3).1
 have gnl := (mpNext_lt g3).1
 have e1 : e % 3 = e' % 3 := by omega
 have e2 : mirI b.Map (mpNext b.Map (e / 3) (e % 3)) = mirI b.Map (mpNext b.Map (e' / 3) (e' % 3)) := by omega
 have e3 := mirI_inj hd ⟨h3, hnl⟩ ⟨g3, gnl⟩ e2
 have b1 := next_back (h.on (i := e / 3) (by omega)) (d := e % 3) (by omega) h3
 have b2 := next_back (h.on (i := e' / 3) (by omega)) (d := e' % 3) (by omega) g3
 rw [e3, e1, b2] at b1
 omega
theorem app_loop {σ α β ρ : Type} {B : σ → Option (σ ⊕ ρ)} {S : List β → Nat → σ} {l : List α} {g : α → β} {fin : List β → Option ρ}
  (hs : ∀ acc i x, l[i]? = some x → i < l.length → acc.length = i → B (S acc i) = some (.inl (S (acc ++ [g x]) (i + 1)))) (he : ∀ acc, acc.length = l.length → goOn (loop B) (B (S acc l.length)) = fin acc) :
  loop B (S [] 0) = fin (l.map g) := by
 have key : ∀ (k i : Nat), i + k = l.length → loop B (S ((l.take i).map g) i) = fin (l.map g) := by
  intro k
  induction k with
  | zero =>
   intro i h
   have : i = l.length := by omega
   subst this
   rw [loop_eq, List.take_length, he _ (by simp)]
  | succ k ih =>
   intro i h
   have hlt : i < l.length := by omega
   have hx := List.getElem?_eq_getElem hlt
   rw [loop_eq, hs _ i l[i] hx hlt (by simp; omega)]
   simp only [goOn]
   rw [show (l.take i).map g ++ [g l[i]] = (l.take (i + 1)).map g by rw [List.take_add_one, hx, List.map_append]; rfl]
   exact ih (i + 1) (by omega)
 simpa using key l.length 0 (by omega)
theorem ins_loop {σ α ρ : Type} {B : σ → Option (σ ⊕ ρ)} {S : List Int → Nat → σ} {l : List α} {g : α → Int} {fin : List Int → Option ρ}
  (hs : ∀ acc i x, l[i]? = some x → i < l.length → acc.length ≤ i → B (S acc i) = some (.inl (S (insL (g x) acc) (i + 1)))) (he : ∀ acc, acc.length ≤ l.length → goOn (loop B) (B (S acc l.length)) = fin acc) :
  loop B (S [] 0) = fin ((l.map g).foldl (fun o x => insL x o) []) := by
 have key : ∀ (k i : Nat) acc, i + k = l.length → acc.length ≤ i → loop B (S acc i) = fin (((l.drop i).map g).foldl (fun o x => insL x o) acc) := by
  intro k
  induction k with
  | zero =>
   intro i acc h ha
   have : i = l.length := by omega
   subst this
   rw [loop_eq, he _ ha, List.drop_of_length_le (Nat.le_refl _)]
   rfl
  | succ k ih =>
   intro i acc h ha
   have hlt : i < l.length := by omega
   have hx := List.getElem?_eq_getElem hlt
   rw [loop_eq, hs _ i l[i] hx hlt ha, List.drop_eq_getElem_cons hlt]
   simp only [goOn, List.map_cons, List.foldl_cons]
   exact ih (i + 1) _ (by omega) (by have := insL_len (g l[i]) acc; omega)
 simpa using key l.length 0 [] (by omega) (by simp)
def msort (l : List Int) : List Int := l.mergeSort fun x y => decide (x ≤ y)
theorem msort_len (l : List Int) : (msort l).length = l.length := List.length_mergeSort l
theorem msort_mem {l : List Int} {x : Int} : x ∈ msort l ↔ x ∈ l := List.mem_mergeSort
theorem msort_srt {l : List Int} (hn : l.Nodup) : (msort l).Pairwise (· < ·) := by
 have h1 : (msort l).Pairwise fun a b => decide (a ≤ b) = true := List.pairwise_mergeSort (fun a b c h1 h2 => by simp at *; omega) (fun a b => by simp; omega) l
 have h2 : (msort l).Nodup := (List.mergeSort_perm l _).nodup_iff.2 hn
 refine (h1.and h2).imp fun {a b} h => ?_
 have := h.1
 have hne := h.2
 simp at this
 omega
theorem insF_srt : ∀ (l acc : List Int), acc.Pairwise (· < ·) → (l.foldl (fun o x => insL x o) acc).Pairwise (· < ·)
 | [], _, h => h
 | x :: l, acc, h => insF_srt l _ (insL_srt h)
theorem insF_mem : ∀ (l acc : List Int) (y : Int), y ∈ l.foldl (fun o x => insL x o) acc ↔ y ∈ l ∨ y ∈ acc
 | [], acc, y => by simp
 | x :: l, acc, y => by
  rw [List.foldl_cons, insF_mem l _ y, insL_mem, List.mem_cons, or_assoc]
  constructor
  ·rintro (h | h | h) <;> simp [h]
  ·rintro (h | h | h) <;> simp [h]
theorem insF_msort {l : List Int} (hn : l.Nodup) : l.foldl (fun o x => insL x o) [] = msort l :=
 srt_ext (insF_srt l [] .nil) (msort_srt hn) fun x => by rw [insF_mem, msort_mem]; simp
theorem rising_nodup {l : List Int} (h : l.Pairwise (· < ·)) : l.Nodup := h.imp fun h => by omega
theorem map_nodup {α β : Type} {f : α → β} : ∀ {l : List α}, l.Nodup → (∀ x ∈ l, ∀ y ∈ l, f x = f y → x = y) → (l.map f).Nodup
 | [], _, _ => .nil
 | a :: l, h, hf => by
  rw [List.nodup_cons] at h
  rw [List.map_cons, List.nodup_cons]
  refine ⟨fun hm => ?_, map_nodup h.2 fun x hx y hy => hf x (List.mem_cons_of_mem _ hx) y (List.mem_cons_of_mem _ hy)⟩
  obtain ⟨y, hy, he⟩ := List.mem_map.1 hm
  have := hf y (List.mem_cons_of_mem _ hy) a (List.mem_cons_self ..) he
  exact h.1 (this ▸ hy)

theorem rising_pw {l : List Int} (h : rising l = true) : l.Pairwise (· < ·) := by
 have h1 := rising_iff.1 h
 have key : ∀ (d i : Nat) x y, l[i]? = some x → l[i + 1 + d]? = some y → x < y := by
  intro d
  induction d with
  | zero => intro i x y hx hy; exact h1 (i + 1) x y (by omega) hx hy
  | succ d ih =>
   intro i x y hx hy
   have hl : i + 1 + d < l.length := by have := (List.getElem?_eq_some_iff.1 hy).1; omega
   have a1 := ih i x _ hx (List.getElem?_eq_getElem hl)
   have a2 := h1 (i + 1 + d + 1) _ y (by omega) (List.getElem?_eq_getElem hl) hy
   omega
 rw [List.pairwise_iff_getElem]
 intro i j hi hj hij
 exact key (j - i - 1) i _ _ (List.getElem?_eq_getElem hi) (by rw [show i + 1 + (j - i - 1) = j by omega]; exact List.getElem?_eq_getElem hj)
structure PlOk (m : Gi_Map) (l : List Int) : Prop where
 n : l.length ≤ 1000
 ndp : l.Nodup
 on : ∀ x ∈ l, 0 ≤ x ∧ x < m.Width * m.Height
theorem PlOk.mir {m : Gi_Map} (hd : MpDim m 10) {l : List Int} (h : PlOk m l) : (l.map (mirI m)).Nodup :=
 map_nodup h.ndp fun x hx y hy e => mirI_inj hd (h.on x hx) (h.on y hy) e
theorem sort_int {l : List Int} (h : l.length ≤ 3000000) : Dslices_Sort_int l = some (msort l) := by
 unfold Dslices_Sort_int
 rw [if_pos (by omega)]
 rfl
theorem mirPl_i {m : Gi_Map} (hd : MpDim m 10) {l : List Int} (h : PlOk m l) : Di_mirrorPlaces m l = some (msort (l.map (mirI m))) := by
 have hn := h.n
 unfold Di_mirrorPlaces
 have key := app_loop (B := Bi_mirrorPlaces) (S := fun acc i => .h1 l (l.length : Int) (i : Int) m acc) (l := l) (g := mirI m) (fin := fun acc => (Dslices_Sort_int acc).bind fun r => if r.length = acc.length then some r else none) (fun acc i x hx hi ha => by
  have hb := (mirI_b hd (h.on x (List.mem_of_getElem? hx))).1
  simp (disch := omega) only [Bi_mirrorPlaces, if_pos, Int.toNat_natCast, hx, Option.bind_some, hb, wsucc, List.length_append, List.length_singleton]
  ) fun acc ha => by
  have e := sort_int (l := acc) (by omega)
  simp (disch := omega) only [Bi_mirrorPlaces, if_neg, e, Option.bind_some, msort_len, if_pos, if_true, goOn]
 refine Eq.trans key ?_
 rw [sort_int (by simp; omega), Option.bind_some, if_pos (msort_len _)]
theorem mirHx_s {m : Gi_Map} (hd : MpDim m 10) {l : List Int} (h : PlOk m l) : Ds_snHexes m l = some (msort (l.map (mirI m))) := by
 have hn := h.n
 unfold Ds_snHexes
 have key := ins_loop (B := Bs_snHexes) (S := fun acc i => .h1 l (l.length : Int) (i : Int) m acc) (l := l) (g := mirI m) (fin := fun acc => some acc) (fun acc i x hx hi ha => by
  have hb := (mirI_b hd (h.on x (List.mem_of_getElem? hx))).2
  have hp := put_s (x := mirI m x) (l := acc) (by omega)
  simp (disch := omega) only [Bs_snHexes, if_pos, Int.toNat_natCast, hx, Option.bind_some, hb, hp, wsucc]) fun acc ha => by
  simp (disch := omega) only [Bs_snHexes, if_neg, goOn]
 refine Eq.trans key ?_
 rw [insF_msort (h.mir hd)]
structure EgOk (m : Gi_Map) (l : List Int) : Prop where
 n : l.length ≤ 2000000
 ok : ∀ x ∈ l, mpEdgeOk m x = true
 ndp : (l.map (mirE m)).Nodup
theorem EgOk.of {b : Gi_Board} (h : BdV b) {l : List Int} (hn : l.length ≤ 2000000) (hl : mpList b.Map l = true) : EgOk b.Map l := by
 unfold mpList at hl
 rw [Bool.and_eq_true] at hl
 have h1 := List.all_eq_true.1 hl.1
 exact ⟨hn, h1, map_nodup (rising_nodup (rising_pw hl.2)) fun x hx y hy e => mirE_inj h (h1 x hx) (h1 y hy) e⟩
theorem mirEd_i {m m' : Gi_Map} (hd : MpDim m 10) (hw : m'.Width = m.Height) (hh : m'.Height = m.Width) {l : List Int} (h : EgOk m l) : Di_mirrorMap_1 l m' m = some (msort (l.map (mirE m))) := by
 have hn := h.n
 have hm := mir_mul hd
 unfold Di_mirrorMap_1
 have key := app_loop (B := Bi_mirrorMap_1) (S := fun acc i => .h1 m' m l (l.length : Int) (i : Int) acc) (l := l) (g := mirE m) (fin := fun acc => (Dslices_Sort_int acc).bind fun r => if r.length = acc.length then some r else none) (fun acc i x hx hi ha => by
  have hok := h.ok x (List.mem_of_getElem? hx)
  obtain ⟨h1, h2, h3⟩ := edge_hex hok
  have hx0 := (mpEdge_iff.1 hok).1
  have hx1 := (mpEdge_iff.1 hok).2.1
  have hb := (mirI_b hd h1).1
  have he := (mirE_b hd hw hh hok).1
  have e1 : IntKind.wrap .i64 (Int.tdiv x 3) = x / 3 := by rw [Int.tdiv_eq_ediv_of_nonneg hx0, w64 (by omega)]
  have e2 : IntKind.wrap .i64 (5 - Int.tmod x 3) = 5 - x % 3 := by rw [Int.tmod_eq_emod_of_nonneg hx0, w64 (by omega)]
  simp (disch := omega) only [Bi_mirrorMap_1, if_pos, Int.toNat_natCast, hx, Option.bind_some, e1, e2, hb, he, wsucc, List.length_append, List.length_singleton]) fun acc ha => by
  have e := sort_int (l := acc) (by omega)
  simp (disch := omega) only [Bi_mirrorMap_1, if_neg, e, Option.bind_some, msort_len, if_pos, if_true, goOn]
 refine Eq.trans key ?_
 rw [sort_int (by simp; omega), Option.bind_some, if_pos (msort_len _)]
theorem mirEd_s {m m' : Gi_Map} (hd : MpDim m 10) (hw : m'.Width = m.Height) (hh : m'.Height = m.Width) {l : List Int} (h : EgOk m l) : Ds_mMirrorEdges m m' l = some (msort (l.map (mirE m))) := by
 have hn := h.n
 have hm := mir_mul hd
 unfold Ds_mMirrorEdges
 have key := ins_loop (B := Bs_mMirrorEdges) (S := fun acc i => .h1 l (l.length : Int) (i : Int) m m' acc) (l := l) (g := mirE m) (fin := fun acc => some acc) (fun acc i x hx hi ha => by
  have hok := h.ok x (List.mem_of_getElem? hx)
  obtain ⟨h1, h2, h3⟩ := edge_hex hok
  have hx0 := (mpEdge_iff.1 hok).1
  have hx1 := (mpEdge_iff.1 hok).2.1
  have hb := (mirI_b hd h1).2
  have he := (mirE_b hd hw hh hok).2
  have hp := put_s (x := mirE m x) (l := acc) (by omega)
  have e1 : IntKind.wrap .i64 (Int.tdiv x 3) = x / 3 := by rw [Int.tdiv_eq_ediv_of_nonneg hx0, w64 (by omega)]
  have e2 : IntKind.wrap .i64 (5 - Int.tmod x 3) = 5 - x % 3 := by rw [Int.tmod_eq_emod_of_nonneg hx0, w64 (by omega)]
  simp (disch := omega) only [Bs_mMirrorEdges, if_pos, Int.toNat_natCast, hx, Option.bind_some, e1, e2, hb, he, hp, wsucc]) fun acc ha => by
  simp (disch := omega) only [Bs_mMirrorEdges, if_neg, goOn]
 refine Eq.trans key ?_
 rw [insF_msort h.ndp]
def mirTs (m : Gi_Map) (acc : List Int) (i : Nat) : List Int := acc.set (mirI m i).toNat (m.Terrain.getD i 0)
def mirT (m : Gi_Map) : List Int := (List.range m.Terrain.length).foldl (mirTs m) (List.replicate m.Terrain.length 0)
theorem mirT_fold (m : Gi_Map) : ∀ (l : List Nat) (acc : List Int), (l.foldl (mirTs m) acc).length = acc.length
 | [], acc => rfl
 | i :: l, acc => by rw [List.foldl_cons, mirT_fold m l]; simp [mirTs]
theorem mirT_len (m : Gi_Map) : (mirT m).length = m.Terrain.length := by unfold mirT; rw [mirT_fold]; simp
def mirM (m : Gi_Map) : Gi_Map := ⟨m.Height, m.Width, mirT m, msort (m.Rivers.map (mirE m)), msort (m.Roads.map (mirE m))⟩
theorem mirMap_b {b : Gi_Board} (h : BdV b) : Di_mirrorMap b.Map = some (mirM b.Map) ∧ Ds_mMirror b.Map = some (mirM b.Map) := by
 have hd := h.ok.d
 have hn := h.ok.n
 have hn2 := h.ok.n2
 have hm := mir_mul hd
 obtain ⟨_, _, g3, g4⟩ := mpGood_dim (bdG_mp h.g)
 have hr := EgOk.of h h.l.m.2.1 g3
 have ho := EgOk.of h h.l.m.2.2 g4
 generalize hmm : b.Map = m at *
 have hT : ∀ (i : Nat) x, (List.range m.Terrain.length)[i]? = some x → x = i ∧ i < m.Terrain.length := fun i x hx => by
  have h1 := (List.getElem?_eq_some_iff.1 hx).1
  rw [List.getElem?_range (by simpa using h1)] at hx
  exact ⟨by cases hx; rfl, by simpa using h1⟩
 constructor
 ·unfold Di_mirrorMap
  rw [if_pos (by omega), Int.toNat_natCast]
  have key := fold_loop (B := Bi_mirrorMap) (S := fun acc i => .h1 m.Terrain (m.Terrain.length : Int) (i : Int) m 0 0 m.Height m.Width acc) (l := List.range m.Terrain.length) (g := mirTs m) (I := fun acc => acc.length = m.Terrain.length) (fin := fun acc => (⟨m.Height, m.Width, acc, msort (m.Rivers.map (mirE m)), msort (m.Roads.map (mirE m))⟩ : Gi_Map)) (fun acc i x hx _ ha => by
   obtain ⟨rfl, hi⟩ := hT i x hx
   have hx0 : m.Terrain[x]? = some (m.Terrain.getD x 0) := by rw [List.getElem?_eq_getElem hi, List.getD_eq_getElem?_getD, List.getElem?_eq_getElem hi]; rfl
   have hb := (mirI_b hd (i := (x : Int)) (by omega)).1
   have hon := mirI_on hd (i := (x : Int)) (by omega)
   have hg : acc[(mirI m (x : Int)).toNat]? = some acc[(mirI m (x : Int)).toNat] := List.getElem?_eq_getElem (by omega)
   refine ⟨?_, by simp [mirTs, ha]⟩
   simp (disch := omega) only [Bi_mirrorMap, if_pos, Int.toNat_natCast, hx0, Option.bind_some, hb, hg, wsucc]
   rfl) (fun acc ha => by
   rw [List.length_range]
   have e1 := mirEd_i (m' := ⟨m.Height, m.Width, acc, [], []⟩) hd rfl rfl hr
   have e2 := mirEd_i (m' := ⟨m.Height, m.Width, acc, [], []⟩) hd rfl rfl ho
   simp (disch := omega) only [Bi_mirrorMap, if_neg, e1, e2, Option.bind_some]) (a := List.replicate m.Terrain.length 0) (by simp)
  exact key
 ·unfold Ds_mMirror
  rw [mSize_s (b := 10) hd (by decide), Option.bind_some, if_pos (by omega), show (m.Width * m.Height).toNat = m.Terrain.length by omega, if_pos (by omega)]
  have key := fold_loop (B := Bs_mMirror) (S := fun acc i => .h1 m.Terrain (m.Terrain.length : Int) (i : Int) m 0 0 m.Height m.Width acc) (l := List.range m.Terrain.length) (g := mirTs m) (I := fun acc => acc.length = m.Terrain.length) (fin := fun acc => (⟨m.Height, m.Width, acc, msort (m.Rivers.map (mirE m)), msort (m.Roads.map (mirE m))⟩ : Gi_Map)) (fun acc i x hx _ ha => by
   obtain ⟨rfl, hi⟩ := hT i x hx
   have hx0 : m.Terrain[x]? = some (m.Terrain.getD x 0) := by rw [List.getElem?_eq_getElem hi, List.getD_eq_getElem?_getD, List.getElem?_eq_getElem hi]; rfl
   have hb := (mirI_b hd (i := (x : Int)) (by omega)).2
   have hon := mirI_on hd (i := (x : Int)) (by omega)
   have hg : acc[(mirI m (x : Int)).toNat]? = some acc[(mirI m (x : Int)).toNat] := List.getElem?_eq_getElem (by omega)
   refine ⟨?_, by simp [mirTs, ha]⟩
   simp (disch := omega) only [Bs_mMirror, if_pos, Int.toNat_natCast, hx0, Option.bind_some, hb, hg, wsucc]
   rfl) (fun acc ha => by
   rw [List.length_range]
   have e1 := mirEd_s (m' := ⟨m.Height, m.Width, acc, [], []⟩) hd rfl rfl hr
   have e2 := mirEd_s (m' := ⟨m.Height, m.Width, acc, msort (m.Rivers.map (mirE m)), []⟩) hd rfl rfl ho
   simp (disch := omega) only [Bs_mMirror, if_neg, e1, e2, Option.bind_some]) (a := List.replicate m.Terrain.length 0) (by simp)
  exact key

def mirU (m : Gi_Map) (u : Gi_Unit) : Gi_Unit := if u.At ≥ 0 then ⟨u.Side, u.Kind, mirI m u.At, u.Steps⟩ else u
def mirG (m : Gi_Map) (g : Gi_Goal) : Gi_Goal := ⟨mirI m g.At, g.Points⟩
noncomputable def mirS (x : Gi_Scenario) : Gi_Scenario := ⟨x.Name, ⟨x.Board.Rules, mirM x.Board.Map⟩, x.Table, ⟨x.Start.Turn, x.Start.Weather, x.Start.Units.map (mirU x.Board.Map)⟩,
 ⟨srtF Di_mirrorScenario_1 (x.Conditions.Goals.map (mirG x.Board.Map)), x.Conditions.Step, x.Conditions.Margin⟩, msort (x.First.map (mirI x.Board.Map)), msort (x.Other.map (mirI x.Board.Map))⟩
theorem pw_inj {α : Type} {k : α → Int} : ∀ {l : List α}, l.Pairwise (fun a b => k a < k b) → ∀ a ∈ l, ∀ b ∈ l, k a = k b → a = b
 | [], _, a, ha, _, _, _ => absurd ha (by simp)
 | x :: l, h, a, ha, b, hb, e => by
  rw [List.pairwise_cons] at h
  rcases List.mem_cons.1 ha with ea | ha1 <;> rcases List.mem_cons.1 hb with eb | hb1
  ·rw [ea, eb]
  ·have := h.1 b hb1; rw [ea] at e; omega
  ·have := h.1 a ha1; rw [eb] at e; omega
  ·exact pw_inj h.2 a ha1 b hb1 e
theorem key_ext {α : Type} {k : α → Int} : ∀ {a b : List α}, a.Pairwise (fun x y => k x < k y) → b.Pairwise (fun x y => k x < k y) → (∀ x, x ∈ a ↔ x ∈ b) → a = b
 | [], [], _, _, _ => rfl
 | [], y :: s, _, _, h => absurd ((h y).2 (List.mem_cons_self ..)) (by simp)
 | x :: r, [], _, _, h => absurd ((h x).1 (List.mem_cons_self ..)) (by simp)
 | x :: r, y :: s, ha, hb, h => by
  rw [List.pairwise_cons] at ha hb
  have e : x = y := by
   rcases List.mem_cons.1 ((h x).1 (List.mem_cons_self ..)) with e | h1
   ·exact e
   ·rcases List.mem_cons.1 ((h y).2 (List.mem_cons_self ..)) with e | h2
    ·exact e.symm
    ·have := hb.1 x h1
     have := ha.1 y h2
     omega
  subst e
  rw [key_ext ha.2 hb.2 fun z => ?_]
  have hz := h z
  rw [List.mem_cons, List.mem_cons] at hz
  constructor
  ·intro h1
   rcases hz.1 (.inr h1) with e | h2
   ·subst e; have := ha.1 z h1; omega
   ·exact h2
  ·intro h1
   rcases hz.2 (.inr h1) with e | h2
   ·subst e; have := hb.1 z h1; omega
   ·exact h2
structure GsOk (m : Gi_Map) (gs : List Gi_Goal) : Prop where
 n : gs.length ≤ 12
 on : ∀ g ∈ gs, 0 ≤ g.At ∧ g.At < m.Width * m.Height
 pw : gs.Pairwise fun a b => a.At < b.At
theorem cdG_ok {b : Gi_Board} (h : BdOk b) {x : Gi_Conditions} (hc : cdG b x = true) : GsOk b.Map x.Goals := by
 have hn := h.n
 have hl := cdG_len hc
 simp only [cdG, Bool.and_eq_true, decide_eq_true_eq] at hc
 have ha := alli_iff.1 hc.2
 refine ⟨hl, fun g hg => ?_, ?_⟩
 ·obtain ⟨i, hi⟩ := List.getElem?_of_mem hg
  have := ha i g hi
  simp only [glP, Bool.and_eq_true, kIn_iff] at this
  omega
 ·have h1 : rising (x.Goals.map fun g => g.At) = true := rising_iff.2 fun j u v hj hu hv => by
   rw [List.getElem?_map, Option.map_eq_some_iff] at hu hv
   obtain ⟨g, hg, rfl⟩ := hu
   obtain ⟨g', hg', rfl⟩ := hv
   have := ha j g' hg'
   simp only [glP, Bool.and_eq_true, Bool.or_eq_true, decide_eq_true_eq, hg] at this
   rcases this.2 with e | e
   ·omega
   ·exact e
  exact List.pairwise_map.1 (rising_pw h1)
theorem ltF_mir {x y : Gi_Goal} (h : -1000 ≤ x.At - y.At ∧ x.At - y.At ≤ 1000) : ltF Di_mirrorScenario_1 x y = decide (x.At < y.At) := by
 unfold ltF Di_mirrorScenario_1
 rw [Option.getD_some, w64 (by omega)]
 by_cases c : x.At < y.At
 ·rw [decide_eq_true c, decide_eq_true (by omega)]
 ·rw [decide_eq_false c, decide_eq_false (by omega)]
theorem gs_srtOk {m : Gi_Map} (hd : MpDim m 10) {gs : List Gi_Goal} (h : GsOk m gs) : SortOk Di_mirrorScenario_1 (gs.map (mirG m)) := by
 have hm := mir_mul hd
 have hb : ∀ x ∈ gs.map (mirG m), 0 ≤ x.At ∧ x.At ≤ 100 := fun x hx => by
  obtain ⟨g, hg, rfl⟩ := List.mem_map.1 hx
  have := mirI_on hd (h.on g hg)
  unfold mirG
  dsimp only
  omega
 have hl : ∀ x ∈ gs.map (mirG m), ∀ y ∈ gs.map (mirG m), ltF Di_mirrorScenario_1 x y = decide (x.At < y.At) := fun x hx y hy => ltF_mir (by have := hb x hx; have := hb y hy; omega)
 have hn := h.n
 refine ⟨by rw [List.length_map]; omega, fun x _ y _ => ⟨_, rfl⟩, fun x hx => ?_, fun x hx y hy z hz h1 h2 => ?_, fun x hx y hy z hz h1 h2 => ?_, fun x hx y hy h1 h2 => ?_⟩
 ·rw [hl x hx x hx]; simp
 ·rw [hl x hx y hy] at h1; rw [hl y hy z hz] at h2; rw [hl x hx z hz]; simp at *; omega
 ·rw [hl x hx y hy] at h1; rw [hl y hy z hz] at h2; rw [hl x hx z hz]; simp at *; omega
 ·rw [hl x hx y hy] at h1; rw [hl y hy x hx] at h2
  simp at h1 h2
  obtain ⟨g, hg, rfl⟩ := List.mem_map.1 hx
  obtain ⟨g', hg', rfl⟩ := List.mem_map.1 hy
  have e : mirI m g.At = mirI m g'.At := by unfold mirG at h1 h2; dsimp only at h1 h2; omega
  rw [pw_inj h.pw g hg g' hg' (mirI_inj hd (h.on g hg) (h.on g' hg') e)]
theorem srtF_mem {β : Type} {f : β → β → Option Int} {l : List β} {x : β} : x ∈ srtF f l ↔ x ∈ l := List.mem_mergeSort
theorem srtF_pw {β : Type} {f : β → β → Option Int} {l : List β} (h : SortOk f l) : (srtF f l).Pairwise fun a b => ltF f b a = false := by
 have e : srtF f l = (l.attach.mergeSort fun x y : { x : β // x ∈ l } => !ltF f y.1 x.1).map Subtype.val := by
  unfold srtF
  rw [List.map_mergeSort (f := Subtype.val) (s := fun x y => !ltF f y x) (fun a _ b _ => rfl)]
  simp
 rw [e, List.pairwise_map]
 refine (List.pairwise_mergeSort (fun a b c h1 h2 => ?_) (fun a b => ?_) _).imp fun {a b} h => by simpa using h
 ·simp only [Bool.not_eq_true'] at *
  exact h.ntr _ c.2 _ b.2 _ a.2 h2 h1
 ·cases hb : ltF f b.1 a.1 with
  | false => simp
  | true =>
   cases ha : ltF f a.1 b.1 with
   | false => simp
   | true => exact absurd (h.tr _ a.2 _ b.2 _ a.2 ha hb) (by rw [h.irr _ a.2]; simp)
def mirGl (m : Gi_Map) (gs : List Gi_Goal) (i : Int) : List Gi_Goal := gs.filterMap fun g => if mirI m g.At = i then some ⟨i, g.Points⟩ else none
theorem mirGl_eq {m : Gi_Map} (hd : MpDim m 10) {gs : List Gi_Goal} (h : GsOk m gs) : (msort (gs.map fun g => mirI m g.At)).flatMap (mirGl m gs) = srtF Di_mirrorScenario_1 (gs.map (mirG m)) := by
 have hS := gs_srtOk hd h
 have hm := mir_mul hd
 have hb : ∀ x ∈ gs.map (mirG m), 0 ≤ x.At ∧ x.At ≤ 100 := fun x hx => by
  obtain ⟨g, hg, rfl⟩ := List.mem_map.1 hx
  have := mirI_on hd (h.on g hg)
  unfold mirG
  dsimp only
  omega
 have hnd : (gs.map fun g => mirI m g.At).Nodup := map_nodup (h.pw.imp fun {a b} hab e => by rw [e] at hab; omega) fun x hx y hy e => pw_inj h.pw x hx y hy (mirI_inj hd (h.on x hx) (h.on y hy) e)
 have hnd2 : (gs.map (mirG m)).Nodup := map_nodup (h.pw.imp fun {a b} hab e => by rw [e] at hab; omega) fun x hx y hy e => pw_inj h.pw x hx y hy (mirI_inj hd (h.on x hx) (h.on y hy) (congrArg Gi_Goal.At e))
 have hat : ∀ i, ∀ x ∈ mirGl m gs i, x.At = i := fun i x hx => by
  obtain ⟨g, _, hg⟩ := List.mem_filterMap.1 hx
  split at hg
  ·cases hg; rfl
  ·cases hg
 refine key_ext (k := fun g => g.At) ?_ ?_ fun x => ?_
 ·rw [List.pairwise_flatMap]
  refine ⟨fun i _ => ?_, (msort_srt hnd).imp fun {i j} hij x hx y hy => ?_⟩
  ·unfold mirGl
   rw [List.pairwise_filterMap]
   refine h.pw.imp_of_mem fun {a b} hma hmb hab x hx y hy => ?_
   split at hx
   ·split at hy
    ·rename_i c1 c2
     have := mirI_inj hd (h.on a hma) (h.on b hmb) (c1.trans c2.symm)
     omega
    ·cases hy
   ·cases hx
  ·rw [hat i x hx, hat j y hy]; exact hij
 ·have h1 := srtF_pw hS
  have h2 : (srtF Di_mirrorScenario_1 (gs.map (mirG m))).Nodup := (List.mergeSort_perm _ _).nodup_iff.2 hnd2
  refine (h1.and h2).imp_of_mem fun {a b} hma hmb hab => ?_
  have ha := srtF_mem.1 hma
  have hb' := srtF_mem.1 hmb
  have h3 := hab.1
  rw [ltF_mir (by have := hb a ha; have := hb b hb'; omega)] at h3
  simp at h3
  have h4 : a.At ≠ b.At := fun e => hab.2 (hS.tie a ha b hb' (by rw [ltF_mir (by omega)]; simp; omega) (by rw [ltF_mir (by omega)]; simp; omega))
  omega
 ·rw [srtF_mem, List.mem_flatMap, List.mem_map]
  constructor
  ·rintro ⟨i, _, hx⟩
   obtain ⟨g, hg, he⟩ := List.mem_filterMap.1 hx
   refine ⟨g, hg, ?_⟩
   split at he
   ·rename_i c
    cases he
    unfold mirG
    rw [c]
   ·cases he
  ·rintro ⟨g, hg, rfl⟩
   exact ⟨mirI m g.At, msort_mem.2 (List.mem_map.2 ⟨g, hg, rfl⟩), List.mem_filterMap.2 ⟨g, hg, if_pos rfl⟩⟩
theorem ScOk.pl {x : Gi_Scenario} (h : ScOk x) {l : List Int} (hs : srG x.Board l = true) : PlOk x.Board.Map l := by
 have hn := (bdG_ok h.b).n
 have hl := srG_len hs
 simp only [srG, Bool.and_eq_true] at hs
 have ha := alli_iff.1 hs.2
 refine ⟨by omega, rising_nodup (rising_pw hs.1.2), fun y hy => ?_⟩
 obtain ⟨i, hi⟩ := List.getElem?_of_mem hy
 have := kIn_iff.1 (ha i y hi)
 omega
theorem mirS_i {x : Gi_Scenario} (hl : ScLen x) (h : ScOk x) : Di_mirrorScenario x = some (mirS x) := by
 have hV : BdV x.Board := ⟨hl.b, h.b⟩
 have hd := hV.ok.d
 have hT := hV.ok.n
 have hs := h.st
 have hn := hs.n
 have hg := cdG_ok hV.ok h.c
 have hgn := hg.n
 have hm := mir_mul hd
 unfold Di_mirrorScenario
 rw [cloneSc_i hl h, Option.bind_some, (mirMap_b hV).1, Option.bind_some]
 have k2 := map_goL (L := loop Bi_mirrorScenario) (S := fun i m => .h2 x.Conditions.Goals (x.Conditions.Goals.length : Int) (i : Int) x ⟨#[]⟩ 0 0 0 0 0 0 0 0 0 0 0 0 x.Name x.Board.Rules.Stack x.Board.Rules.River x.Board.Rules.Road x.Board.Rules.Supply x.Board.Rules.Turns (mirM x.Board.Map).Width (mirM x.Board.Map).Height x.Table.Dice x.Start.Turn x.Start.Weather x.Conditions.Step x.Conditions.Margin x.Board.Rules.Terrains x.Board.Rules.Kinds (mirM x.Board.Map).Terrain (mirM x.Board.Map).Rivers (mirM x.Board.Map).Roads x.Table.Columns x.Table.Results (x.Start.Units.map (mirU x.Board.Map)) m x.First x.Other) (l := x.Conditions.Goals) (g := mirG x.Board.Map) (r := fun m => (Dslices_SortFunc_i_Goal_i_mirrorScenario_1 m).bind fun r2 => if r2.length = m.length then some (Gi_Scenario.mk x.Name ⟨x.Board.Rules, mirM x.Board.Map⟩ x.Table ⟨x.Start.Turn, x.Start.Weather, (x.Start.Units.map (mirU x.Board.Map))⟩ ⟨r2, x.Conditions.Step, x.Conditions.Margin⟩ (msort (x.First.map (mirI x.Board.Map))) (msort (x.Other.map (mirI x.Board.Map)))) else none) (fun i g m hx hi hml hu => by
   have hb := (mirI_b hd (hg.on g (List.mem_of_getElem? hx))).1
   rw [loop_eq]
   simp (disch := omega) only [Bi_mirrorScenario, if_pos, Int.toNat_natCast, hx, hu, hb, Option.bind_some, wsucc, goOn]
   rfl) fun m hml => by
   rw [loop_eq]
   have e1 := mirPl_i hd (h.pl h.f)
   have e2 := mirPl_i hd (h.pl h.o)
   simp (disch := omega) only [Bi_mirrorScenario, if_neg, e1, e2, Option.bind_some]
   cases Dslices_SortFunc_i_Goal_i_mirrorScenario_1 m with
   | none => rfl
   | some r =>
    simp only [Option.bind_some]
    by_cases c : r.length = m.length
    ·rw [if_pos c, if_pos c]; rfl
    ·rw [if_neg c, if_neg c]; rfl
 have k1 := map_goL (L := loop Bi_mirrorScenario) (S := fun i m => .h1 x.Start.Units (x.Start.Units.length : Int) (i : Int) x ⟨#[]⟩ 0 0 0 0 0 0 0 0 0 0 0 0 x.Name x.Board.Rules.Stack x.Board.Rules.River x.Board.Rules.Road x.Board.Rules.Supply x.Board.Rules.Turns (mirM x.Board.Map).Width (mirM x.Board.Map).Height x.Table.Dice x.Start.Turn x.Start.Weather x.Conditions.Step x.Conditions.Margin x.Board.Rules.Terrains x.Board.Rules.Kinds (mirM x.Board.Map).Terrain (mirM x.Board.Map).Rivers (mirM x.Board.Map).Roads x.Table.Columns x.Table.Results m x.Conditions.Goals x.First x.Other) (l := x.Start.Units) (g := mirU x.Board.Map) (r := fun m => loop Bi_mirrorScenario (.h2 x.Conditions.Goals (x.Conditions.Goals.length : Int) 0 x ⟨#[]⟩ 0 0 0 0 0 0 0 0 0 0 0 0 x.Name x.Board.Rules.Stack x.Board.Rules.River x.Board.Rules.Road x.Board.Rules.Supply x.Board.Rules.Turns (mirM x.Board.Map).Width (mirM x.Board.Map).Height x.Table.Dice x.Start.Turn x.Start.Weather x.Conditions.Step x.Conditions.Margin x.Board.Rules.Terrains x.Board.Rules.Kinds (mirM x.Board.Map).Terrain (mirM x.Board.Map).Rivers (mirM x.Board.Map).Roads x.Table.Columns x.Table.Results m x.Conditions.Goals x.First x.Other)) (fun i u m hx hi hml hu => by
   have hun := hs.u u (List.mem_of_getElem? hx)
   rw [loop_eq]
   by_cases c : u.At ≥ 0
   ·have ha := hun.a
    have hb := (mirI_b hd (i := u.At) (by omega)).1
    simp (disch := omega) only [Bi_mirrorScenario, if_pos, Int.toNat_natCast, hx, hu, hb, Option.bind_some, wsucc, goOn, mirU]
   ·have he : m.set i (mirU x.Board.Map u) = m := by
     unfold mirU
     rw [if_neg c]
     refine List.ext_getElem? fun j => ?_
     rw [List.getElem?_set]
     split
     ·rename_i e; subst e; exact hu.symm
     ·rfl
    rw [he]
    simp (disch := omega) only [Bi_mirrorScenario, if_pos, if_neg, Int.toNat_natCast, hx, hu, Option.bind_some, wsucc, goOn]) fun m hml => by
   rw [loop_eq]
   simp (disch := omega) only [Bi_mirrorScenario, if_neg, goOn]
 refine Eq.trans k1 (Eq.trans k2 ?_)
 have e : Dslices_SortFunc_i_Goal_i_mirrorScenario_1 (x.Conditions.Goals.map (mirG x.Board.Map)) = some (srtF Di_mirrorScenario_1 (x.Conditions.Goals.map (mirG x.Board.Map))) := if_pos (gs_srtOk hd hg)
 rw [e, Option.bind_some, if_pos (srtF_len _ _)]
 rfl
theorem inn_s {x : Gi_Scenario} (hl : ScLen x) (h : ScOk x) (is : List Int) (hI : is.length ≤ 100) (i0 : Int) (k : Nat) (hk : k < is.length) : ∀ (n j : Nat) (out : List Gi_Goal), j + n = x.Conditions.Goals.length → out.length + n ≤ 100000 →
  (out ≠ [] → loop Bs_snMirror (.h5 i0 (is.length : Int) (k : Int) x.Conditions.Goals (x.Conditions.Goals.length : Int) (j : Int) x ⟨#[]⟩ 0 0 0 0 0 0 0 0 0 0 0 0 x.Board.Map x.Name x.Board.Rules.Stack x.Board.Rules.River x.Board.Rules.Road x.Board.Rules.Supply x.Board.Rules.Turns (mirM x.Board.Map).Width (mirM x.Board.Map).Height x.Table.Dice x.Start.Turn x.Start.Weather x.Conditions.Step x.Conditions.Margin is x.Board.Rules.Terrains x.Board.Rules.Kinds (mirM x.Board.Map).Terrain (mirM x.Board.Map).Rivers (mirM x.Board.Map).Roads x.Table.Columns x.Table.Results (x.Start.Units.map (mirU x.Board.Map)) out x.First x.Other) = loop Bs_snMirror (.h6 (is.length : Int) ((k + 1 : Nat) : Int) x ⟨#[]⟩ 0 0 0 0 0 0 0 0 0 0 0 0 x.Board.Map x.Name x.Board.Rules.Stack x.Board.Rules.River x.Board.Rules.Road x.Board.Rules.Supply x.Board.Rules.Turns (mirM x.Board.Map).Width (mirM x.Board.Map).Height x.Table.Dice x.Start.Turn x.Start.Weather x.Conditions.Step x.Conditions.Margin is x.Board.Rules.Terrains x.Board.Rules.Kinds (mirM x.Board.Map).Terrain (mirM x.Board.Map).Rivers (mirM x.Board.Map).Roads x.Table.Columns x.Table.Results (x.Start.Units.map (mirU x.Board.Map)) (out ++ mirGl x.Board.Map (x.Conditions.Goals.drop j) i0) x.First x.Other)) ∧
  (loop Bs_snMirror (.h4 i0 (is.length : Int) (k : Int) x.Conditions.Goals (x.Conditions.Goals.length : Int) (j : Int) x ⟨#[]⟩ 0 0 0 0 0 0 0 0 0 0 0 0 x.Board.Map x.Name x.Board.Rules.Stack x.Board.Rules.River x.Board.Rules.Road x.Board.Rules.Supply x.Board.Rules.Turns (mirM x.Board.Map).Width (mirM x.Board.Map).Height x.Table.Dice x.Start.Turn x.Start.Weather x.Conditions.Step x.Conditions.Margin is x.Board.Rules.Terrains x.Board.Rules.Kinds (mirM x.Board.Map).Terrain (mirM x.Board.Map).Rivers (mirM x.Board.Map).Roads x.Table.Columns x.Table.Results (x.Start.Units.map (mirU x.Board.Map)) x.First x.Other) = if mirGl x.Board.Map (x.Conditions.Goals.drop j) i0 = [] then loop Bs_snMirror (.h3 (is.length : Int) ((k + 1 : Nat) : Int) x ⟨#[]⟩ 0 0 0 0 0 0 0 0 0 0 0 0 x.Board.Map x.Name x.Board.Rules.Stack x.Board.Rules.River x.Board.Rules.Road x.Board.Rules.Supply x.Board.Rules.Turns (mirM x.Board.Map).Width (mirM x.Board.Map).Height x.Table.Dice x.Start.Turn x.Start.Weather x.Conditions.Step x.Conditions.Margin is x.Board.Rules.Terrains x.Board.Rules.Kinds (mirM x.Board.Map).Terrain (mirM x.Board.Map).Rivers (mirM x.Board.Map).Roads x.Table.Columns x.Table.Results (x.Start.Units.map (mirU x.Board.Map)) x.First x.Other) else loop Bs_snMirror (.h6 (is.length : Int) ((k + 1 : Nat) : Int) x ⟨#[]⟩ 0 0 0 0 0 0 0 0 0 0 0 0 x.Board.Map x.Name x.Board.Rules.Stack x.Board.Rules.River x.Board.Rules.Road x.Board.Rules.Supply x.Board.Rules.Turns (mirM x.Board.Map).Width (mirM x.Board.Map).Height x.Table.Dice x.Start.Turn x.Start.Weather x.Conditions.Step x.Conditions.Margin is x.Board.Rules.Terrains x.Board.Rules.Kinds (mirM x.Board.Map).Terrain (mirM x.Board.Map).Rivers (mirM x.Board.Map).Roads x.Table.Columns x.Table.Results (x.Start.Units.map (mirU x.Board.Map)) (mirGl x.Board.Map (x.Conditions.Goals.drop j) i0) x.First x.Other)) := by
 have hV : BdV x.Board := ⟨hl.b, h.b⟩
 have hd := hV.ok.d
 have hg := cdG_ok hV.ok h.c
 have hgn := hg.n
 intro n
 induction n with
 | zero =>
  intro j out hj ho
  have : j = x.Conditions.Goals.length := by omega
  subst this
  rw [List.drop_of_length_le (Nat.le_refl _)]
  refine ⟨fun _ => ?_, ?_⟩
  ·rw [loop_eq]
   simp (disch := omega) only [Bs_snMirror, if_neg, wsucc, goOn, mirGl, List.filterMap_nil, List.append_nil]
  ·rw [loop_eq]
   simp (disch := omega) only [Bs_snMirror, if_neg, wsucc, goOn, mirGl, List.filterMap_nil, if_pos]
   rfl
 | succ n ih =>
  intro j out hj ho
  have hlt : j < x.Conditions.Goals.length := by omega
  have hx := List.getElem?_eq_getElem hlt
  have hb := (mirI_b hd (hg.on _ (List.getElem_mem hlt))).2
  rw [List.drop_eq_getElem_cons hlt]
  generalize hge : x.Conditions.Goals[j] = g at *
  have e : mirGl x.Board.Map (g :: x.Conditions.Goals.drop (j + 1)) i0 = (if mirI x.Board.Map g.At = i0 then [⟨i0, g.Points⟩] else []) ++ mirGl x.Board.Map (x.Conditions.Goals.drop (j + 1)) i0 := by
   unfold mirGl
   rw [List.filterMap_cons]
   by_cases c : mirI x.Board.Map g.At = i0 <;> simp [c]
  rw [e]
  by_cases c : mirI x.Board.Map g.At = i0
  ·rw [if_pos c]
   refine ⟨fun hne => ?_, ?_⟩
   ·rw [loop_eq]
    have := ((ih (j + 1) (out ++ [⟨i0, g.Points⟩]) (by omega) (by simp; omega)).1 (by simp))
    simp (disch := first | omega | (simp; done) | (simp; omega)) only [Bs_snMirror, if_pos, if_true, Int.toNat_natCast, hx, hb, c, Option.bind_some, wsucc, goOn]
    rw [this, List.append_assoc]
   ·rw [loop_eq]
    have := ((ih (j + 1) [⟨i0, g.Points⟩] (by omega) (by simp; omega)).1 (by simp))
    simp (disch := first | omega | (simp; done) | (simp; omega)) only [Bs_snMirror, if_pos, if_true, Int.toNat_natCast, hx, hb, c, Option.bind_some, wsucc, goOn]
    rw [this, if_neg (by simp)]
  ·rw [if_neg c]
   refine ⟨fun hne => ?_, ?_⟩
   ·rw [loop_eq]
    have := ((ih (j + 1) out (by omega) (by omega)).1 hne)
    simp (disch := omega) only [Bs_snMirror, if_pos, if_false, Int.toNat_natCast, hx, hb, c, Option.bind_some, wsucc, goOn]
    rw [this, List.nil_append]
   ·rw [loop_eq]
    have := ((ih (j + 1) [] (by omega) (by simp; omega)).2)
    simp (disch := omega) only [Bs_snMirror, if_pos, if_false, Int.toNat_natCast, hx, hb, c, Option.bind_some, wsucc, goOn]
    rw [this, List.nil_append]
theorem mirGl_len (m : Gi_Map) (gs : List Gi_Goal) (i : Int) : (mirGl m gs i).length ≤ gs.length := List.length_filterMap_le _ _
theorem out_s {x : Gi_Scenario} (hl : ScLen x) (h : ScOk x) (is : List Int) (hI : is.length ≤ 100) : ∀ (n k : Nat) (out : List Gi_Goal), k + n = is.length → out.length ≤ 12 * k →
  loop Bs_snMirror (if out = [] then .h3 (is.length : Int) (k : Int) x ⟨#[]⟩ 0 0 0 0 0 0 0 0 0 0 0 0 x.Board.Map x.Name x.Board.Rules.Stack x.Board.Rules.River x.Board.Rules.Road x.Board.Rules.Supply x.Board.Rules.Turns (mirM x.Board.Map).Width (mirM x.Board.Map).Height x.Table.Dice x.Start.Turn x.Start.Weather x.Conditions.Step x.Conditions.Margin is x.Board.Rules.Terrains x.Board.Rules.Kinds (mirM x.Board.Map).Terrain (mirM x.Board.Map).Rivers (mirM x.Board.Map).Roads x.Table.Columns x.Table.Results (x.Start.Units.map (mirU x.Board.Map)) x.First x.Other else .h6 (is.length : Int) (k : Int) x ⟨#[]⟩ 0 0 0 0 0 0 0 0 0 0 0 0 x.Board.Map x.Name x.Board.Rules.Stack x.Board.Rules.River x.Board.Rules.Road x.Board.Rules.Supply x.Board.Rules.Turns (mirM x.Board.Map).Width (mirM x.Board.Map).Height x.Table.Dice x.Start.Turn x.Start.Weather x.Conditions.Step x.Conditions.Margin is x.Board.Rules.Terrains x.Board.Rules.Kinds (mirM x.Board.Map).Terrain (mirM x.Board.Map).Rivers (mirM x.Board.Map).Roads x.Table.Columns x.Table.Results (x.Start.Units.map (mirU x.Board.Map)) out x.First x.Other) =
   some (Gi_Scenario.mk x.Name ⟨x.Board.Rules, mirM x.Board.Map⟩ x.Table ⟨x.Start.Turn, x.Start.Weather, (x.Start.Units.map (mirU x.Board.Map))⟩ ⟨out ++ (is.drop k).flatMap (mirGl x.Board.Map x.Conditions.Goals), x.Conditions.Step, x.Conditions.Margin⟩ (msort (x.First.map (mirI x.Board.Map))) (msort (x.Other.map (mirI x.Board.Map)))) := by
 have hV : BdV x.Board := ⟨hl.b, h.b⟩
 have hd := hV.ok.d
 have hg := cdG_ok hV.ok h.c
 have hgn := hg.n
 have e1 := mirHx_s hd (h.pl h.f)
 have e2 := mirHx_s hd (h.pl h.o)
 intro n
 induction n with
 | zero =>
  intro k out hk ho
  have : k = is.length := by omega
  subst this
  rw [List.drop_of_length_le (Nat.le_refl _), List.flatMap_nil, List.append_nil]
  by_cases c : out = []
  ·rw [if_pos c, loop_eq, c]
   simp (disch := omega) only [Bs_snMirror, if_neg, e1, e2, Option.bind_some, goOn]
  ·rw [if_neg c, loop_eq]
   simp (disch := omega) only [Bs_snMirror, if_neg, e1, e2, Option.bind_some, goOn]
 | succ n ih =>
  intro k out hk ho
  have hlt : k < is.length := by omega
  have hx := List.getElem?_eq_getElem hlt
  rw [List.drop_eq_getElem_cons hlt, List.flatMap_cons]
  have hin := inn_s hl h is hI is[k] k hlt x.Conditions.Goals.length 0 out (by omega) (by omega)
  rw [List.drop_zero] at hin
  have hgl := mirGl_len x.Board.Map x.Conditions.Goals is[k]
  have hih := ih (k + 1) (out ++ mirGl x.Board.Map x.Conditions.Goals is[k]) (by omega) (by simp; omega)
  rw [List.append_assoc] at hih
  rw [← hih]
  by_cases c : out = []
  ·rw [if_pos c, loop_eq]
   simp (disch := omega) only [Bs_snMirror, if_pos, Int.toNat_natCast, hx, Option.bind_some, goOn]
   refine Eq.trans hin.2 ?_
   rw [c, List.nil_append]
   by_cases c2 : mirGl x.Board.Map x.Conditions.Goals is[k] = []
   ·rw [if_pos c2, if_pos c2]
   ·rw [if_neg c2, if_neg c2]
  ·rw [if_neg c, if_neg (by simp [c]), loop_eq]
   simp (disch := omega) only [Bs_snMirror, if_pos, Int.toNat_natCast, hx, Option.bind_some, goOn]
   exact hin.1 c
end Go.Proofs.YtogomlkoocbhcaaGreatDoor.Ab
