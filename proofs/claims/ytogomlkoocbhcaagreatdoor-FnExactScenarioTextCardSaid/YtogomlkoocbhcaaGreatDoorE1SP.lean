/- Part of the proof of FnExactScenarioTextCard: no condition of its own. -/
import Derived.Test.YtogomlkoocbhcaaGreatDoorE1SD
import Derived.Test.YtogomlkoocbhcaaGreatDoorPuA
set_option linter.unusedVariables false
set_option linter.unusedSimpArgs false
open Go
namespace Go.Proofs.YtogomlkoocbhcaaGreatDoor.Ab
def md (x m : Int) : Int := Int.tmod (IntKind.wrap .i64 (Int.tmod x m + m)) m
def mx (x : Int) (s : Int × Int) : Int × Int :=
 (Int.tmod (IntKind.wrap .i64 (IntKind.wrap .i64 (IntKind.wrap .i64 (16807 * s.1) + md x 2147483647) + s.2)) 2147483647,
  Int.tmod (IntKind.wrap .i64 (IntKind.wrap .i64 (IntKind.wrap .i64 (39373 * s.2) + md x 2147483629) + Int.tmod (IntKind.wrap .i64 (IntKind.wrap .i64 (IntKind.wrap .i64 (16807 * s.1) + md x 2147483647) + s.2)) 2147483647)) 2147483629)
def mixR (l : List Int) : Int × Int := mx 1 (mx 1 (mx 1 (l.foldl (fun s x => mx x s) (7, (l.length : Int) + 1))))

def below (s k n : Int) : Int := Int.tmod (mixR [s, k, n]).1 n
theorem mulb {a b A B : Int} (ha : -A ≤ a ∧ a ≤ A) (hb : -B ≤ b ∧ b ≤ B) : -(A * B) ≤ a * b ∧ a * b ≤ A * B := by
 have h1 : a.natAbs ≤ A.natAbs := by omega
 have h2 : b.natAbs ≤ B.natAbs := by omega
 have h3 := Nat.mul_le_mul h1 h2
 rw [← Int.natAbs_mul, ← Int.natAbs_mul] at h3
 have : 0 ≤ A * B := Int.mul_nonneg (by omega) (by omega)
 omega

def hd (A B : Gi_Hex) : Int := ((B.Q - A.Q).natAbs + (B.R - A.R).natAbs + (B.Q - A.Q + (B.R - A.R)).natAbs : Nat) / 2

theorem side {A B : Gi_Hex} {n i q r : Int} (hn : 0 < n) (e : n = hd A B) (eq : q = A.Q * n + (B.Q - A.Q) * i) (er : r = A.R * n + (B.R - A.R) * i) : q % n = 0 ∨ r % n = 0 ∨ q % n + r % n = n := by
 have h : B.Q - A.Q = n ∨ B.Q - A.Q = -n ∨ B.R - A.R = n ∨ B.R - A.R = -n ∨ B.Q - A.Q + (B.R - A.R) = n ∨ B.Q - A.Q + (B.R - A.R) = -n := by
  unfold hd at e
  omega
 have z : ∀ k x y : Int, x = y * n + k * i → (k = n ∨ k = -n) → x % n = 0 := by
  intro k x y h1 h2
  apply Int.emod_eq_zero_of_dvd
  rcases h2 with h2 | h2
  ·exact ⟨y + i, by subst h2; subst h1; grind⟩
  ·exact ⟨y - i, by subst h2; subst h1; grind⟩
 rcases h with h | h | h | h | h | h
 ·exact .inl (z _ _ _ eq (.inl h))
 ·exact .inl (z _ _ _ eq (.inr h))
 ·exact .inr (.inl (z _ _ _ er (.inl h)))
 ·exact .inr (.inl (z _ _ _ er (.inr h)))
 all_goals
  have hs : (q + r) % n = 0 := z (B.Q - A.Q + (B.R - A.R)) (q + r) (A.Q + A.R) (by subst eq; subst er; grind) (by omega)
  rw [Int.add_emod] at hs
  have q3 := Int.emod_nonneg q (b := n) (by omega)
  have q4 := Int.emod_lt_of_pos q hn
  have r3 := Int.emod_nonneg r (b := n) (by omega)
  have r4 := Int.emod_lt_of_pos r hn
  rcases Int.lt_or_le (q % n + r % n) n with c | c
  ·rw [Int.emod_eq_of_lt (by omega) c] at hs
   omega
  ·have := Int.emod_add_mul_ediv (q % n + r % n - n) n
   have e2 : (q % n + r % n) % n = (q % n + r % n - n) % n := (Int.sub_emod_right ..).symm
   rw [e2, Int.emod_eq_of_lt (by omega) (by omega)] at hs
   omega

def dQ (d : Int) : Int := if d = 0 then 1 else if d = 1 then 1 else if d = 2 then 0 else if d = 3 then -1 else if d = 4 then -1 else 0
def dR (d : Int) : Int := if d = 0 then 0 else if d = 1 then -1 else if d = 2 then -1 else if d = 3 then 0 else 1
def hexGo (h : Gi_Hex) (d n : Int) : Gi_Hex := ⟨h.Q + n * dQ d, h.R + n * dR d⟩
def HexMid (h : Gi_Hex) : Prop := -10000 ≤ h.Q ∧ h.Q ≤ 10000 ∧ -10000 ≤ h.R ∧ h.R ≤ 10000

theorem sixDirs {d : Int} (h : 0 ≤ d ∧ d < 6) : d = 0 ∨ d = 1 ∨ d = 2 ∨ d = 3 ∨ d = 4 ∨ d = 5 := by omega
theorem dirGet {d : Int} (h : 0 ≤ d ∧ d < 6) : gv0[d.toNat]? = some ⟨dQ d, dR d⟩ := by
 rcases sixDirs h with rfl | rfl | rfl | rfl | rfl | rfl <;> rfl
theorem dirQ {d : Int} (h : 0 ≤ d ∧ d < 6) : [1, 1, 0, (-1), (-1), 0][d.toNat]? = some (dQ d) := by
 rcases sixDirs h with rfl | rfl | rfl | rfl | rfl | rfl <;> rfl
theorem dirR {d : Int} (h : 0 ≤ d ∧ d < 6) : [0, (-1), (-1), 0, 1, 1][d.toNat]? = some (dR d) := by
 rcases sixDirs h with rfl | rfl | rfl | rfl | rfl | rfl <;> rfl
theorem dirB {d : Int} (h : 0 ≤ d ∧ d < 6) (n : Int) : (n * dQ d = n ∨ n * dQ d = 0 ∨ n * dQ d = -n) ∧ (n * dR d = n ∨ n * dR d = 0 ∨ n * dR d = -n) := by
 rcases sixDirs h with rfl | rfl | rfl | rfl | rfl | rfl <;> simp [dQ, dR] <;> omega
theorem stepBy_i {h : Gi_Hex} {d n : Int} (hd : 0 ≤ d ∧ d < 6) (hh : HexMid h) (hn : -10000 ≤ n ∧ n ≤ 10000) : Di_stepBy h d n = some (hexGo h d n) := by
 obtain ⟨b1, b2⟩ := dirB hd n
 unfold HexMid at hh
 unfold Di_stepBy hexGo
 rw [if_pos hd.1, dirGet hd, Option.bind_some, if_pos hd.1, Option.bind_some]
 rw [w64 (n := n * dQ d) (by omega), w64 (n := n * dR d) (by omega), w64 (by omega), w64 (by omega)]
theorem hStep_s {h : Gi_Hex} {d : Int} (hd : 0 ≤ d ∧ d < 6) (hh : HexMid h) : Ds_hStep h d = some (hexGo h d 1) := by
 obtain ⟨b1, b2⟩ := dirB hd 1
 unfold HexMid at hh
 unfold Ds_hStep hexGo
 rw [if_pos hd.1, dirQ hd, Option.bind_some, if_pos hd.1, dirR hd, Option.bind_some]
 simp only [Int.one_mul] at b1 b2 ⊢
 rw [w64 (by omega), w64 (by omega)]
def MpDim (m : Gi_Map) (b : Int) : Prop := 1 ≤ m.Width ∧ m.Width ≤ b ∧ 1 ≤ m.Height ∧ m.Height ≤ b
def mpHex (m : Gi_Map) (i : Int) : Gi_Hex := ⟨i % m.Width, i / m.Width⟩
theorem mpDiv {i w : Int} (hi : 0 ≤ i) (hw : 1 ≤ w) : 0 ≤ i / w ∧ i / w ≤ i ∧ 0 ≤ i % w ∧ i % w < w := ⟨Int.ediv_nonneg hi (by omega), Int.ediv_le_self _ hi, Int.emod_nonneg _ (by omega), Int.emod_lt_of_pos _ (by omega)⟩
theorem hexOf_b {m : Gi_Map} {i : Int} (hw : 1 ≤ m.Width) (hi : 0 ≤ i ∧ i ≤ 10000) : Di_hexOf m i = some (mpHex m i) ∧ Ds_mHex m i = some (mpHex m i) := by
 obtain ⟨d1, d2, d3, d4⟩ := mpDiv hi.1 hw
 have h0 : ¬ m.Width = 0 := by omega
 unfold Di_hexOf Ds_mHex mpHex
 rw [if_pos h0, if_pos h0, Int.tmod_eq_emod_of_nonneg hi.1, Int.tdiv_eq_ediv_of_nonneg hi.1, w64 (by omega)]
 exact ⟨rfl, rfl⟩
theorem mpHex_mid {m : Gi_Map} {i : Int} (hw : 1 ≤ m.Width ∧ m.Width ≤ 100) (hi : 0 ≤ i ∧ i ≤ 10000) : HexMid (mpHex m i) := by
 obtain ⟨d1, d2, d3, d4⟩ := mpDiv hi.1 hw.1
 unfold HexMid mpHex
 simp only
 omega
def mpIdx (m : Gi_Map) (h : Gi_Hex) : Int := if 0 ≤ h.Q ∧ h.Q ≤ m.Width - 1 ∧ 0 ≤ h.R ∧ h.R ≤ m.Height - 1 then h.R * m.Width + h.Q else -1
theorem indexOf_b {m : Gi_Map} {h : Gi_Hex} (hd : MpDim m 100) : Di_indexOf m h = some (mpIdx m h) ∧ Ds_mIndex m h = some (mpIdx m h) := by
 unfold MpDim at hd
 unfold Di_indexOf Ds_mIndex Di_isIndex Di_inRange Ds_l1In mpIdx
 rw [w64 (n := m.Width - 1) (by omega), w64 (n := m.Height - 1) (by omega)]
 by_cases c1 : 0 ≤ h.Q
 ·by_cases c2 : h.Q ≤ m.Width - 1
  ·by_cases c3 : 0 ≤ h.R
   ·by_cases c4 : h.R ≤ m.Height - 1
    ·have hm := mulb (a := h.R) (b := m.Width) (A := 100) (B := 100) (by omega) (by omega)
     simp only [c1, c2, c3, c4, if_true, Option.bind_some, decide_true, ge_iff_le, and_self]
     rw [w64 (n := h.R * m.Width) (by omega), w64 (by omega)]
    ·simp [c1, c2, c3, c4]
   ·simp [c1, c2, c3]
  ·simp [c1, c2]
 ·simp [c1]
def mpNext (m : Gi_Map) (i d : Int) : Int := mpIdx m (hexGo (mpHex m i) d 1)
theorem next_b {m : Gi_Map} {i d : Int} (hd : MpDim m 100) (hi : 0 ≤ i ∧ i ≤ 10000) (h6 : 0 ≤ d ∧ d < 6) : Di_nextTo m i d = some (mpNext m i d) ∧ Ds_mNext m i d = some (mpNext m i d) := by
 have hd' := hd
 unfold MpDim at hd'
 have hm := mpHex_mid (m := m) (i := i) ⟨hd'.1, hd'.2.1⟩ hi
 obtain ⟨a1, a2⟩ := hexOf_b (m := m) hd'.1 hi
 obtain ⟨b1, b2⟩ := indexOf_b (h := hexGo (mpHex m i) d 1) hd
 unfold Di_nextTo Ds_mNext
 rw [a1, a2, Option.bind_some, Option.bind_some, stepBy_i h6 hm (by decide), hStep_s h6 hm, Option.bind_some, Option.bind_some, b1, b2]
 exact ⟨rfl, rfl⟩
theorem mpMul {w h r q : Int} (hq : 0 ≤ q ∧ q ≤ w - 1) (hr : 0 ≤ r ∧ r ≤ h - 1) : 0 ≤ r * w + q ∧ r * w + q < w * h := by
 have h1 : r * w ≤ (h - 1) * w := Int.mul_le_mul_of_nonneg_right hr.2 (by omega)
 have h2 : 0 ≤ r * w := Int.mul_nonneg hr.1 (by omega)
 rw [Int.sub_mul, Int.one_mul, Int.mul_comm h w] at h1
 omega
theorem mpIdx_hex {m : Gi_Map} {h : Gi_Hex} (hk : 0 ≤ mpIdx m h) : mpHex m (mpIdx m h) = h ∧ mpIdx m h < m.Width * m.Height := by
 unfold mpIdx at hk ⊢
 by_cases c : 0 ≤ h.Q ∧ h.Q ≤ m.Width - 1 ∧ 0 ≤ h.R ∧ h.R ≤ m.Height - 1
 ·rw [if_pos c]
  have e := (Int.ediv_emod_unique (a := h.R * m.Width + h.Q) (b := m.Width) (r := h.Q) (q := h.R) (by omega)).2 ⟨by rw [Int.mul_comm]; omega, c.1, by omega⟩
  refine ⟨?_, (mpMul ⟨c.1, c.2.1⟩ c.2.2).2⟩
  unfold mpHex
  rw [e.1, e.2]
 ·rw [if_neg c] at hk
  omega
theorem mpSize {m : Gi_Map} {b : Int} (hd : MpDim m b) : 1 ≤ m.Width * m.Height ∧ m.Width * m.Height ≤ b * b := by
 unfold MpDim at hd
 constructor
 ·have := Int.mul_le_mul hd.1 hd.2.2.1 (by decide) (by omega)
  omega
 ·exact Int.mul_le_mul hd.2.1 hd.2.2.2 (by omega) (by omega)
theorem mSize_s {m : Gi_Map} {b : Int} (hd : MpDim m b) (hb : b * b ≤ 2000000) : Ds_mSize m = some (m.Width * m.Height) := by
 have := mpSize hd
 unfold Ds_mSize
 rw [w64 (by omega)]

def mpEdgeOk (m : Gi_Map) (e : Int) : Bool := decide (0 ≤ e) && decide (e ≤ 3 * (m.Width * m.Height) - 1) && decide (0 ≤ mpNext m (e / 3) (e % 3))
theorem mpEdge_iff {m : Gi_Map} {e : Int} : mpEdgeOk m e = true ↔ 0 ≤ e ∧ e ≤ 3 * (m.Width * m.Height) - 1 ∧ 0 ≤ mpNext m (e / 3) (e % 3) := by
 simp [mpEdgeOk, and_assoc]
theorem isEdge_i {m : Gi_Map} {e : Int} (hd : MpDim m 10) : Di_isEdge m e = some (mpEdgeOk m e) := by
 have hs := mpSize hd
 have hd1 : MpDim m 100 := by unfold MpDim at hd ⊢; omega
 have hd' := hd
 unfold MpDim at hd'
 unfold Di_isEdge Di_inRange mpEdgeOk
 have e1 : 3 * m.Width * m.Height = 3 * (m.Width * m.Height) := Int.mul_assoc _ _ _
 rw [w64 (n := 3 * m.Width) (by omega), e1, w64 (n := 3 * (m.Width * m.Height)) (by omega), w64 (n := 3 * (m.Width * m.Height) - 1) (by omega)]
 by_cases c1 : 0 ≤ e
 ·by_cases c2 : e ≤ 3 * (m.Width * m.Height) - 1
  ·have h3 : 0 ≤ e / 3 ∧ e / 3 ≤ 10000 := by omega
   simp only [c1, c2, if_true, Option.bind_some, decide_true, Bool.true_and]
   rw [Int.tdiv_eq_ediv_of_nonneg c1, Int.tmod_eq_emod_of_nonneg c1, w64 (by omega), (next_b hd1 h3 (by omega)).1]
   rfl
  ·simp [c1, c2]
 ·simp [c1]
def rsB (l : List Int) : Nat → Nat → Bool
 | 0, _ => true
 | n + 1, i => (match l[i - 1]?, l[i]? with
  | some x, some y => decide (x < y)
  | _, _ => true) && rsB l n (i + 1)
def rising (l : List Int) : Bool := rsB l (l.length - 1) 1
theorem incr_i {l : List Int} (hl : l.length ≤ 2000000) : ∀ (n i : Nat), 1 ≤ i → (i + n = l.length ∨ n = 0 ∧ l.length ≤ i ∧ i ≤ 1) → loop Bi_increasing (.h1 l (i : Int)) = some (rsB l n i)
 | 0, i, h1, h => by
  rw [loop_eq]
  simp only [Bi_increasing]
  rw [if_neg (by omega)]
  rfl
 | n + 1, i, h1, h => by
  have hx : l[i - 1]? = some l[i - 1] := List.getElem?_eq_getElem (by omega)
  have hy : l[i]? = some l[i] := List.getElem?_eq_getElem (by omega)
  have ih := incr_i hl n (i + 1) (by omega) (by omega)
  have e : IntKind.wrap .i64 ((i : Int) - 1) = ((i - 1 : Nat) : Int) := by rw [w64 (by omega)]; omega
  rw [loop_eq]
  simp only [Bi_increasing, rsB, e, Int.toNat_natCast, hx, hy, Option.bind_some]
  rw [if_pos (by omega), if_pos (by omega), if_pos (by omega), wsucc (by omega)]
  by_cases c : l[i - 1] < l[i]
  ·rw [if_neg (by omega), decide_eq_true c, Bool.true_and]
   exact ih
  ·rw [if_pos (by omega), decide_eq_false c, Bool.false_and]
   rfl
theorem increasing_i {l : List Int} (hl : l.length ≤ 2000000) : Di_increasing l = some (rising l) := incr_i hl (l.length - 1) 1 (Nat.le_refl _) (by omega)
theorem in_b {x lo hi : Int} : Ds_l1In x lo hi = some (decide (lo ≤ x) && decide (x ≤ hi)) := by
 unfold Ds_l1In
 by_cases c : lo ≤ x <;> simp [c]
theorem rise_s {l : List Int} {hi : Int} (hl : l.length ≤ 2000000) (ha : ∀ x ∈ l, 0 ≤ x ∧ x ≤ hi) : ∀ (n i : Nat), 1 ≤ i → (i + n = l.length) → loop Bs_l1Rising (.h1 l 0 hi l (l.length : Int) (i : Int)) = some (rsB l n i)
 | 0, i, h1, h => by
  rw [loop_eq]
  simp only [Bs_l1Rising]
  rw [if_neg (by omega)]
  rfl
 | n + 1, i, h1, h => by
  have hx : l[i - 1]? = some l[i - 1] := List.getElem?_eq_getElem (by omega)
  have hy : l[i]? = some l[i] := List.getElem?_eq_getElem (by omega)
  have ih := rise_s hl ha n (i + 1) (by omega) (by omega)
  obtain ⟨a1, a2⟩ := ha l[i] (List.getElem_mem (by omega))
  have e : IntKind.wrap .i64 ((i : Int) - 1) = ((i - 1 : Nat) : Int) := by rw [w64 (by omega)]; omega
  rw [loop_eq]
  simp only [Bs_l1Rising, rsB, e, Int.toNat_natCast, hx, hy, Option.bind_some, in_b, a1, a2, decide_true, Bool.and_self, if_true]
  rw [if_pos (by omega), if_pos (by omega), if_pos (by omega), if_pos (by omega), wsucc (by omega)]
  by_cases c : l[i - 1] < l[i]
  ·rw [if_neg (by omega), decide_eq_true c, Bool.true_and]
   exact ih
  ·rw [if_pos (by omega), decide_eq_false c, Bool.false_and]
   rfl
theorem rising_s {l : List Int} {hi : Int} (hl : l.length ≤ 2000000) (ha : ∀ x ∈ l, 0 ≤ x ∧ x ≤ hi) : Ds_l1Rising l 0 hi = some (rising l) := by
 unfold Ds_l1Rising rising
 by_cases z : l.length = 0
 ·have : l = [] := List.length_eq_zero_iff.1 z
  subst this
  rw [loop_eq]
  rfl
 ·have hy : l[0]? = some l[0] := List.getElem?_eq_getElem (by omega)
  obtain ⟨a1, a2⟩ := ha l[0] (List.getElem_mem (by omega))
  have := rise_s hl ha (l.length - 1) 1 (Nat.le_refl _) (by omega)
  rw [loop_eq]
  have e0 : l[Int.toNat 0]? = some l[0] := hy
  simp only [Bs_l1Rising, e0, Option.bind_some, in_b, a1, a2, decide_true, Bool.and_self, if_true]
  rw [if_pos (by omega), if_pos (by decide), if_neg (by decide)]
  exact this
def mpList (m : Gi_Map) (l : List Int) : Bool := l.all (mpEdgeOk m) && rising l
theorem edgesGo_s {m : Gi_Map} (hd : MpDim m 10) {l : List Int} (hl : l.length ≤ 2000000) : ∀ (n i : Nat), i + n = l.length → (∀ x ∈ l.take i, mpEdgeOk m x = true) → loop Bs_mEdges (.h1 l l (l.length : Int) (i : Int) m) = some ((l.drop i).all (mpEdgeOk m) && rising l)
 | 0, i, h, hb => by
  have hs := mpSize hd
  rw [List.take_of_length_le (by omega)] at hb
  rw [loop_eq, List.drop_of_length_le (by omega)]
  simp only [Bs_mEdges]
  rw [if_neg (by omega), mSize_s hd (by decide), Option.bind_some, w64 (n := 3 * (m.Width * m.Height)) (by omega), w64 (by omega), rising_s hl (fun x hx => by
   have := mpEdge_iff.1 (hb x hx)
   omega)]
  rfl
 | n + 1, i, h, hb => by
  have hs := mpSize hd
  have hd1 : MpDim m 100 := by unfold MpDim at hd ⊢; omega
  have hx : l[i]? = some l[i] := List.getElem?_eq_getElem (by omega)
  rw [loop_eq, List.drop_eq_getElem_cons (by omega), List.all_cons]
  simp only [Bs_mEdges]
  rw [if_pos (by omega), if_pos (by omega), Int.toNat_natCast, hx, Option.bind_some, mSize_s hd (by decide), Option.bind_some, w64 (n := 3 * (m.Width * m.Height)) (by omega), w64 (n := 3 * (m.Width * m.Height) - 1) (by omega), in_b, Option.bind_some, wsucc (by omega)]
  by_cases c : 0 ≤ l[i] ∧ l[i] ≤ 3 * (m.Width * m.Height) - 1
  ·rw [if_pos (by simp [c.1, c.2])]
   have h3 : 0 ≤ l[i] / 3 ∧ l[i] / 3 ≤ 10000 := by omega
   rw [Int.tdiv_eq_ediv_of_nonneg c.1, Int.tmod_eq_emod_of_nonneg c.1, w64 (by omega), (next_b hd1 h3 (by omega)).2, Option.bind_some]
   by_cases c3 : 0 ≤ mpNext m (l[i] / 3) (l[i] % 3)
   ·have hok : mpEdgeOk m l[i] = true := mpEdge_iff.2 ⟨c.1, c.2, c3⟩
    rw [if_neg (by omega), hok, Bool.true_and]
    refine edgesGo_s hd hl n (i + 1) (by omega) fun x hx' => ?_
    rw [List.take_add_one, hx] at hx'
    rcases List.mem_append.1 hx' with hx' | hx'
    ·exact hb x hx'
    ·simp at hx'; subst hx'; exact hok
   ·have hok : mpEdgeOk m l[i] = false := by
     cases hh : mpEdgeOk m l[i] with
     | false => rfl
     | true => exact absurd (mpEdge_iff.1 hh).2.2 c3
    rw [if_pos (by omega), hok, Bool.false_and, Bool.false_and]
    rfl
  ·have hok : mpEdgeOk m l[i] = false := by
    cases hh : mpEdgeOk m l[i] with
    | false => rfl
    | true => exact absurd ⟨(mpEdge_iff.1 hh).1, (mpEdge_iff.1 hh).2.1⟩ c
   rw [if_neg (by simp only [Bool.and_eq_true, decide_eq_true_eq]; exact c), hok, Bool.false_and, Bool.false_and]
   rfl
theorem edges_s {m : Gi_Map} (hd : MpDim m 10) {l : List Int} (hl : l.length ≤ 2000000) : Ds_mEdges m l = some (mpList m l) := by
 have := edgesGo_s hd hl l.length 0 (by omega) (fun x hx => by simp at hx)
 rw [List.drop_zero] at this
 exact this
def terrOk (x : Int) : Bool := decide (0 ≤ x) && decide (x ≤ 5)
theorem terr_s {l : List Int} (hl : l.length ≤ 2000000) : ∀ (n i : Nat), i + n = l.length → loop Bs_l1All (.h1 0 5 l (l.length : Int) (i : Int)) = some ((l.drop i).all terrOk)
 | 0, i, h => by
  rw [loop_eq, List.drop_of_length_le (by omega)]
  simp only [Bs_l1All]
  rw [if_neg (by omega)]
  rfl
 | n + 1, i, h => by
  have hx : l[i]? = some l[i] := List.getElem?_eq_getElem (by omega)
  have ih := terr_s hl n (i + 1) (by omega)
  rw [loop_eq, List.drop_eq_getElem_cons (by omega), List.all_cons]
  simp only [Bs_l1All]
  rw [if_pos (by omega), if_pos (by omega), Int.toNat_natCast, hx, Option.bind_some, in_b, Option.bind_some, wsucc (by omega)]
  by_cases c : terrOk l[i] = true
  ·have c' := c
   unfold terrOk at c'
   rw [if_pos c', c, Bool.true_and]
   exact ih
  ·have c' := c
   unfold terrOk at c'
   rw [if_neg c']
   simp only [Bool.not_eq_true] at c
   rw [c, Bool.false_and]
   rfl
theorem edgeLoop_i {m : Gi_Map} (hd : MpDim m 10) {l : List Int} (hl : l.length ≤ 2000000) {t0 t1 : Int} {L : List (List Int)} : ∀ (n i : Nat), i + n = l.length →
  loop Bi_IsMap (.h3 t0 t1 l (l.length : Int) (i : Int) m L) = if (l.drop i).all (mpEdgeOk m) = true then loop Bi_IsMap (.h2 t0 (IntKind.wrap .i64 (t1 + 1)) m L) else some false
 | 0, i, h => by
  rw [loop_eq, List.drop_of_length_le (by omega)]
  simp only [Bi_IsMap]
  rw [if_neg (by omega), if_pos (by rfl)]
  rfl
 | n + 1, i, h => by
  have hx : l[i]? = some l[i] := List.getElem?_eq_getElem (by omega)
  have ih := edgeLoop_i hd hl (t0 := t0) (t1 := t1) (L := L) n (i + 1) (by omega)
  rw [loop_eq, List.drop_eq_getElem_cons (by omega), List.all_cons]
  simp only [Bi_IsMap]
  rw [if_pos (by omega), if_pos (by omega), Int.toNat_natCast, hx, Option.bind_some, isEdge_i hd, Option.bind_some, wsucc (by omega)]
  by_cases c : mpEdgeOk m l[i] = true
  ·rw [if_pos c, c, Bool.true_and]
   exact ih
  ·rw [if_neg c]
   simp only [Bool.not_eq_true] at c
   rw [c, Bool.false_and, if_neg (by decide)]
   rfl
theorem lists_i {m : Gi_Map} (hd : MpDim m 10) (hr : m.Rivers.length ≤ 2000000) (ho : m.Roads.length ≤ 2000000) : loop Bi_IsMap (.h2 2 0 m [m.Rivers, m.Roads]) = some (mpList m m.Rivers && mpList m m.Roads) := by
 have i1 := edgeLoop_i hd hr (t0 := 2) (t1 := 0) (L := [m.Rivers, m.Roads]) m.Rivers.length 0 (by omega)
 have i2 := edgeLoop_i hd ho (t0 := 2) (t1 := 1) (L := [m.Rivers, m.Roads]) m.Roads.length 0 (by omega)
 rw [List.drop_zero, show IntKind.wrap .i64 (0 + 1) = 1 from by decide] at i1
 rw [List.drop_zero, show IntKind.wrap .i64 (1 + 1) = 2 from by decide] at i2
 have e3 : loop Bi_IsMap (.h2 2 2 m [m.Rivers, m.Roads]) = some true := by rw [loop_eq]; rfl
 have e2 : loop Bi_IsMap (.h2 2 1 m [m.Rivers, m.Roads]) = some (mpList m m.Roads) := by
  rw [loop_eq]
  simp only [Bi_IsMap]
  rw [if_pos (by decide), if_pos (by decide), show [m.Rivers, m.Roads][Int.toNat 1]? = some m.Roads from rfl, Option.bind_some, increasing_i ho, Option.bind_some]
  unfold mpList
  by_cases c : rising m.Roads = true
  ·rw [if_pos c, c, Bool.and_true]
   refine (show _ = _ from i2).trans ?_
   rw [e3]
   by_cases c2 : m.Roads.all (mpEdgeOk m) = true
   ·rw [if_pos c2, c2]
   ·rw [if_neg c2]
    simp only [Bool.not_eq_true] at c2
    rw [c2]
  ·rw [if_neg c]
   simp only [Bool.not_eq_true] at c
   rw [c, Bool.and_false]
   rfl
 rw [loop_eq]
 simp only [Bi_IsMap]
 rw [if_pos (by decide), if_pos (by decide), show [m.Rivers, m.Roads][Int.toNat 0]? = some m.Rivers from rfl, Option.bind_some, increasing_i hr, Option.bind_some]
 by_cases c : rising m.Rivers = true
 ·rw [if_pos c]
  refine (show _ = _ from i1).trans ?_
  rw [e2]
  unfold mpList
  rw [c, Bool.and_true]
  by_cases c2 : m.Rivers.all (mpEdgeOk m) = true
  ·rw [if_pos c2, c2, Bool.true_and]
  ·rw [if_neg c2]
   simp only [Bool.not_eq_true] at c2
   rw [c2, Bool.false_and]
 ·rw [if_neg c]
  simp only [Bool.not_eq_true] at c
  unfold mpList
  rw [c, Bool.and_false, Bool.false_and]
  rfl
theorem terr_i {m : Gi_Map} {l : List Int} (hl : l.length ≤ 2000000) : ∀ (n i : Nat), i + n = l.length → loop Bi_IsMap (.h1 l (l.length : Int) (i : Int) m) = if (l.drop i).all terrOk = true then loop Bi_IsMap (.h2 2 0 m [m.Rivers, m.Roads]) else some false
 | 0, i, h => by
  rw [loop_eq, List.drop_of_length_le (by omega)]
  simp only [Bi_IsMap]
  rw [if_neg (by omega), if_pos (by rfl)]
  rfl
 | n + 1, i, h => by
  have hx : l[i]? = some l[i] := List.getElem?_eq_getElem (by omega)
  have ih := terr_i hl (m := m) n (i + 1) (by omega)
  have e : Di_isIndex l[i] 6 = some (terrOk l[i]) := by
   unfold Di_isIndex Di_inRange terrOk
   rw [show IntKind.wrap .i64 (6 - 1) = 5 from by decide]
   by_cases c : 0 ≤ l[i] <;> simp [c]
  rw [loop_eq, List.drop_eq_getElem_cons (by omega), List.all_cons]
  simp only [Bi_IsMap]
  rw [if_pos (by omega), if_pos (by omega), Int.toNat_natCast, hx, Option.bind_some, e, Option.bind_some, wsucc (by omega)]
  by_cases c : terrOk l[i] = true
  ·rw [if_pos c, c, Bool.true_and]
   exact ih
  ·rw [if_neg c]
   simp only [Bool.not_eq_true] at c
   rw [c, Bool.false_and, if_neg (by decide)]
   rfl
def MpLen (m : Gi_Map) : Prop := m.Terrain.length ≤ 2000000 ∧ m.Rivers.length ≤ 2000000 ∧ m.Roads.length ≤ 2000000
def mpGood (m : Gi_Map) : Bool := decide (1 ≤ m.Width) && decide (m.Width ≤ 10) && decide (1 ≤ m.Height) && decide (m.Height ≤ 10) && decide ((m.Terrain.length : Int) = m.Width * m.Height) && m.Terrain.all terrOk && mpList m m.Rivers && mpList m m.Roads
theorem mpGood_dim {m : Gi_Map} (h : mpGood m = true) : MpDim m 10 ∧ (m.Terrain.length : Int) = m.Width * m.Height ∧ mpList m m.Rivers = true ∧ mpList m m.Roads = true := by
 simp only [mpGood, Bool.and_eq_true, decide_eq_true_eq] at h
 exact ⟨⟨h.1.1.1.1.1.1.1, h.1.1.1.1.1.1.2, h.1.1.1.1.1.2, h.1.1.1.1.2⟩, h.1.1.1.2, h.1.2, h.2⟩
theorem isMap_i {m : Gi_Map} (hl : MpLen m) : Di_IsMap m = some (mpGood m) := by
 unfold Di_IsMap Di_inRange mpGood
 by_cases c1 : 1 ≤ m.Width
 ·by_cases c2 : m.Width ≤ 10
  ·by_cases c3 : 1 ≤ m.Height
   ·by_cases c4 : m.Height ≤ 10
    ·have hd : MpDim m 10 := ⟨c1, c2, c3, c4⟩
     have hs := mpSize hd
     have t := terr_i hl.1 (m := m) m.Terrain.length 0 (by omega)
     rw [List.drop_zero, lists_i hd hl.2.1 hl.2.2] at t
     simp only [c1, c2, c3, c4, if_true, Option.bind_some, decide_true, Bool.true_and]
     rw [w64 (by omega)]
     by_cases c5 : (m.Terrain.length : Int) = m.Width * m.Height
     ·rw [if_pos c5]
      refine (show _ = _ from t).trans ?_
      simp only [c5, decide_true, Bool.true_and]
      by_cases c6 : m.Terrain.all terrOk = true
      ·rw [if_pos c6, c6, Bool.true_and]
      ·rw [if_neg c6]
       simp only [Bool.not_eq_true] at c6
       rw [c6]
       rfl
     ·rw [if_neg c5]
      simp [c5]
    ·simp [c1, c2, c3, c4]
   ·simp [c1, c2, c3]
  ·simp [c1, c2]
 ·simp [c1]
theorem good_m {m : Gi_Map} (hl : MpLen m) : Ds_mGood m = some (mpGood m) := by
 unfold Ds_mGood mpGood
 rw [in_b, in_b]
 by_cases c1 : 1 ≤ m.Width
 ·by_cases c2 : m.Width ≤ 10
  ·by_cases c3 : 1 ≤ m.Height
   ·by_cases c4 : m.Height ≤ 10
    ·have hd : MpDim m 10 := ⟨c1, c2, c3, c4⟩
     have t := terr_s hl.1 m.Terrain.length 0 (by omega)
     rw [List.drop_zero] at t
     have t' : Ds_l1All m.Terrain 0 5 = some (m.Terrain.all terrOk) := t
     simp only [c1, c2, c3, c4, if_true, Option.bind_some, decide_true, Bool.true_and, mSize_s hd (by decide), edges_s hd hl.2.1, edges_s hd hl.2.2, t']
     by_cases c5 : (m.Terrain.length : Int) = m.Width * m.Height
     ·simp only [c5, decide_true, Bool.true_and, if_true]
      by_cases c6 : m.Terrain.all terrOk = true
      ·rw [if_pos c6, c6, Bool.true_and]
       by_cases c7 : mpList m m.Rivers = true
       ·rw [if_pos c7, c7, Bool.true_and]
       ·rw [if_neg c7]
        simp only [Bool.not_eq_true] at c7
        rw [c7, Bool.false_and]
      ·rw [if_neg c6]
       simp only [Bool.not_eq_true] at c6
       rw [c6]
       rfl
     ·simp [c5]
    ·simp [c1, c2, c3, c4]
   ·simp [c1, c2, c3]
  ·simp [c1, c2]
 ·simp [c1]


def mpOn (m : Gi_Map) (i : Int) : Bool := mpGood m && (decide (0 ≤ i) && decide (i ≤ m.Width * m.Height - 1))
theorem mpOn_iff {m : Gi_Map} {i : Int} : mpOn m i = true ↔ mpGood m = true ∧ 0 ≤ i ∧ i < m.Width * m.Height := by
 simp only [mpOn, Bool.and_eq_true, decide_eq_true_eq]
 exact ⟨fun h => ⟨h.1, h.2.1, by omega⟩, fun h => ⟨h.1, h.2.1, by omega⟩⟩
theorem mpNext_lt {m : Gi_Map} {i d : Int} (h : 0 ≤ mpNext m i d) : mpNext m i d < m.Width * m.Height ∧ mpHex m (mpNext m i d) = hexGo (mpHex m i) d 1 := by
 obtain ⟨h1, h2⟩ := mpIdx_hex (m := m) (h := hexGo (mpHex m i) d 1) h
 exact ⟨h2, h1⟩
def kIn (x lo hi : Int) : Bool := decide (lo ≤ x) && decide (x ≤ hi)
theorem kIn_iff {x lo hi : Int} : kIn x lo hi = true ↔ lo ≤ x ∧ x ≤ hi := by simp [kIn]
theorem kin_i (x lo hi : Int) : Di_inRange x lo hi = some (kIn x lo hi) := by
 unfold Di_inRange kIn
 by_cases c : lo ≤ x <;> simp [c]
theorem kin_s (x lo hi : Int) : Ds_l1In x lo hi = some (kIn x lo hi) := by
 unfold Ds_l1In kIn
 by_cases c : lo ≤ x
 ·rw [if_pos c]; simp [c]
 ·rw [if_neg c]; simp [c]
theorem ifB (b : Bool) : (if b = true then some true else some false) = some b := by cases b <;> rfl
theorem ifNB (b : Bool) : (if b = true then some false else some true) = some (!b) := by cases b <;> rfl

theorem all_goL {σ α ρ : Type} {L : σ → Option ρ} {S : Nat → σ} {l : List α} {q : Nat → α → Bool} {f : ρ} {r : Option ρ}
  (hs : ∀ i x, l[i]? = some x → i < l.length → (∀ j y, j < i → l[j]? = some y → q j y = true) → L (S i) = if q i x = true then L (S (i + 1)) else some f)
  (he : (∀ j y, l[j]? = some y → q j y = true) → L (S l.length) = r) : L (S 0) = if alli q l = true then r else some f := by
 have key : ∀ (k i : Nat), i + k = l.length → (∀ j x, j < i → l[j]? = some x → q j x = true) → L (S i) = if alli q l = true then r else some f := by
  intro k
  induction k with
  | zero =>
   intro i h hb
   have : i = l.length := by omega
   subst this
   have hall : ∀ j y, l[j]? = some y → q j y = true := fun j x hj => hb j x (List.getElem?_eq_some_iff.1 hj).1 hj
   rw [he hall, if_pos (alli_iff.2 hall)]
  | succ k ih =>
   intro i h hb
   have hlt : i < l.length := by omega
   have hx := List.getElem?_eq_getElem hlt
   rw [hs i l[i] hx hlt hb]
   by_cases hp : q i l[i] = true
   ·rw [if_pos hp]
    refine ih (i + 1) (by omega) fun j x hj hx' => ?_
    by_cases hji : j = i
    ·subst hji
     rw [hx] at hx'
     cases hx'
     exact hp
    ·exact hb j x (by omega) hx'
   ·rw [if_neg hp, if_neg fun h => hp (alli_iff.1 h i _ hx)]
 exact key l.length 0 (by omega) fun j x h => by omega

theorem l1All_s {l : List Int} (hl : l.length ≤ 2000000) (lo hi : Int) : Ds_l1All l lo hi = some (alli (fun _ x => kIn x lo hi) l) := by
 rw [← ifB]
 exact all_goL (L := loop Bs_l1All) (S := fun i => .h1 lo hi l (l.length : Int) (i : Int)) (fun i x hx hlt _ => by
  rw [loop_eq]
  simp only [Bs_l1All]
  rw [if_pos (by omega), if_pos (by omega), Int.toNat_natCast, hx, Option.bind_some, kin_s, Option.bind_some, wsucc (by omega)]
  by_cases c : kIn x lo hi = true
  ·rw [if_pos c, if_pos c]; rfl
  ·rw [if_neg c, if_neg c]; rfl) fun _ => by
  rw [loop_eq]
  simp only [Bs_l1All]
  rw [if_neg (by omega)]
  rfl
theorem bad_i (x : Int) : Di_IsCombatTable_1 x = some (!(kIn x 0 7)) := by
 unfold Di_IsCombatTable_1 Di_isResult
 rw [kin_i]
 rfl
theorem contains_bad {l : List Int} (hl : l.length ≤ 2000000) : Dslices_ContainsFunc_int_i_IsCombatTable_1 l = some (!(alli (fun _ x => kIn x 0 7) l)) := by
 rw [← ifNB]
 have := all_goL (L := fun s => (loop Bslices_IndexFunc_int_i_IsCombatTable_1 s).map fun r => decide (r ≥ 0)) (S := fun i => .h1 l (l.length : Int) (i : Int)) (l := l) (q := fun _ x => kIn x 0 7) (f := true) (r := some false) (fun i x hx hlt _ => by
  rw [loop_eq]
  simp only [Bslices_IndexFunc_int_i_IsCombatTable_1]
  rw [if_pos (by omega), if_pos (by omega), Int.toNat_natCast, hx, Option.bind_some, bad_i, Option.bind_some, wsucc (by omega)]
  by_cases c : kIn x 0 7 = true
  ·rw [if_pos c, c, if_neg (by decide)]; rfl
  ·rw [if_neg c, if_pos (by simpa using c)]; simp [goOn]) fun _ => by
  rw [loop_eq]
  simp only [Bslices_IndexFunc_int_i_IsCombatTable_1]
  rw [if_neg (by omega)]
  rfl
 refine Eq.trans ?_ this
 unfold Dslices_ContainsFunc_int_i_IsCombatTable_1 Dslices_IndexFunc_int_i_IsCombatTable_1
 cases loop Bslices_IndexFunc_int_i_IsCombatTable_1 (.h1 l (l.length : Int) 0) <;> rfl

def kCol (cs : List Gi_Odds) (i : Nat) (x : Gi_Odds) : Bool := kIn x.Num 1 20 && kIn x.Den 1 20 && (decide (i = 0) || match cs[i - 1]? with
 | some p => !decide (IntKind.wrap .i64 (p.Num * x.Den) ≥ IntKind.wrap .i64 (x.Num * p.Den))
 | none => false)
def kRow (cs : List Gi_Odds) (x : List Int) : Bool := decide (x.length = cs.length) && alli (fun _ y => kIn y 0 7) x
def kG (t : Gi_CombatTable) : Bool := kIn t.Columns.length 1 8 && kIn t.Dice 1 2 && decide ((t.Results.length : Int) = 5 * t.Dice + 1) && alli (kCol t.Columns) t.Columns && alli (fun _ x => kRow t.Columns x) t.Results

theorem rows_i {t : Gi_CombatTable} (hc : t.Columns.length ≤ 8) (hr : t.Results.length ≤ 100) : loop Bi_IsCombatTable (.h2 t.Results (t.Results.length : Int) 0 t) = some (alli (fun _ x => kRow t.Columns x) t.Results) := by
 rw [← ifB]
 exact all_goL (L := loop Bi_IsCombatTable) (S := fun i => .h2 t.Results (t.Results.length : Int) (i : Int) t) (fun i x hx hlt _ => by
  rw [loop_eq]
  simp only [Bi_IsCombatTable]
  rw [if_pos (by omega), if_pos (by omega), Int.toNat_natCast, hx, Option.bind_some, wsucc (by omega)]
  by_cases c : x.length = t.Columns.length
  ·rw [if_pos (by omega), contains_bad (by omega), Option.bind_some]
   by_cases c2 : alli (fun _ y => kIn y 0 7) x = true
   ·rw [c2, if_neg (by decide), if_pos (by simp [kRow, c, c2])]; rfl
   ·rw [if_pos (by simpa using c2), if_neg (by simp [kRow, c2])]; rfl
  ·rw [if_neg (by omega), if_neg (by simp [kRow, c])]; rfl) fun _ => by
  rw [loop_eq]
  simp only [Bi_IsCombatTable]
  rw [if_neg (by omega)]
  rfl
theorem rows_s {t : Gi_CombatTable} (hc : t.Columns.length ≤ 8) (hr : t.Results.length ≤ 100) : loop Bs_kGood (.h2 t.Results (t.Results.length : Int) 0 t) = some (alli (fun _ x => kRow t.Columns x) t.Results) := by
 rw [← ifB]
 exact all_goL (L := loop Bs_kGood) (S := fun i => .h2 t.Results (t.Results.length : Int) (i : Int) t) (fun i x hx hlt _ => by
  rw [loop_eq]
  simp only [Bs_kGood]
  rw [if_pos (by omega), if_pos (by omega), Int.toNat_natCast, hx, Option.bind_some, wsucc (by omega)]
  by_cases c : x.length = t.Columns.length
  ·rw [if_pos (by omega), l1All_s (by omega), Option.bind_some]
   by_cases c2 : alli (fun _ y => kIn y 0 7) x = true
   ·rw [if_pos c2, if_pos (by simp [kRow, c, c2])]; rfl
   ·rw [if_neg c2, if_neg (by simp [kRow, c2])]; rfl
  ·rw [if_neg (by omega), if_neg (by simp [kRow, c])]; rfl) fun _ => by
  rw [loop_eq]
  simp only [Bs_kGood]
  rw [if_neg (by omega)]
  rfl
theorem wpred {i : Nat} (h : i < 9223372036854775807) (h0 : 0 < i) : IntKind.wrap .i64 ((i : Int) - 1) = ((i - 1 : Nat) : Int) := by rw [w64 (by omega)]; omega
theorem cols_i {t : Gi_CombatTable} (hc : t.Columns.length ≤ 8) (hr : t.Results.length ≤ 100) : loop Bi_IsCombatTable (.h1 t.Columns (t.Columns.length : Int) 0 t) = some (alli (kCol t.Columns) t.Columns && alli (fun _ x => kRow t.Columns x) t.Results) := by
 have := all_goL (L := loop Bi_IsCombatTable) (S := fun i => .h1 t.Columns (t.Columns.length : Int) (i : Int) t) (l := t.Columns) (q := kCol t.Columns) (f := false) (r := some (alli (fun _ x => kRow t.Columns x) t.Results)) (fun i x hx hlt _ => by
  rw [loop_eq]
  simp only [Bi_IsCombatTable]
  rw [if_pos (by omega), if_pos (by omega), Int.toNat_natCast, hx, Option.bind_some, kin_i, Option.bind_some, wsucc (by omega)]
  by_cases c1 : kIn x.Num 1 20 = true
  ·rw [if_pos c1, kin_i, Option.bind_some]
   by_cases c2 : kIn x.Den 1 20 = true
   ·rw [if_pos c2]
    by_cases c3 : i = 0
    ·subst c3
     rw [if_neg (by decide), if_pos (by simp [kCol, c1, c2])]
     rfl
    ·have hp : t.Columns[i - 1]? = some t.Columns[i - 1] := List.getElem?_eq_getElem (by omega)
     rw [if_pos (by omega), wpred (by omega) (by omega), if_pos (by omega), Int.toNat_natCast, hp, Option.bind_some, if_pos (by omega), Option.bind_some]
     by_cases c4 : IntKind.wrap .i64 (t.Columns[i - 1].Num * x.Den) ≥ IntKind.wrap .i64 (x.Num * t.Columns[i - 1].Den)
     ·have e : kCol t.Columns i x = false := by simp only [kCol, hp, decide_eq_true c4]; simp [c3]
      rw [if_pos c4, e, if_neg (by decide)]; rfl
     ·have e : kCol t.Columns i x = true := by simp only [kCol, hp, decide_eq_false c4]; simp [c1, c2]
      rw [if_neg c4, if_pos e]; rfl
   ·rw [if_neg c2, if_neg (by simp [kCol, c2])]; rfl
  ·rw [if_neg c1, if_neg (by simp [kCol, c1])]; rfl) fun _ => by
  rw [loop_eq]
  simp only [Bi_IsCombatTable]
  rw [if_neg (by omega)]
  exact rows_i hc hr
 refine this.trans ?_
 cases alli (kCol t.Columns) t.Columns <;> rfl
theorem cols_s {t : Gi_CombatTable} (hc : t.Columns.length ≤ 8) (hr : t.Results.length ≤ 100) : loop Bs_kGood (.h1 t.Columns (t.Columns.length : Int) 0 t) = some (alli (kCol t.Columns) t.Columns && alli (fun _ x => kRow t.Columns x) t.Results) := by
 have := all_goL (L := loop Bs_kGood) (S := fun i => .h1 t.Columns (t.Columns.length : Int) (i : Int) t) (l := t.Columns) (q := kCol t.Columns) (f := false) (r := some (alli (fun _ x => kRow t.Columns x) t.Results)) (fun i x hx hlt _ => by
  rw [loop_eq]
  simp only [Bs_kGood]
  rw [if_pos (by omega), if_pos (by omega), Int.toNat_natCast, hx, Option.bind_some, kin_s, Option.bind_some, wsucc (by omega)]
  by_cases c1 : kIn x.Num 1 20 = true
  ·rw [if_pos c1, kin_s, Option.bind_some]
   by_cases c2 : kIn x.Den 1 20 = true
   ·rw [if_pos c2]
    by_cases c3 : i = 0
    ·subst c3
     rw [if_neg (by decide), if_pos (by simp [kCol, c1, c2])]
     rfl
    ·have hp : t.Columns[i - 1]? = some t.Columns[i - 1] := List.getElem?_eq_getElem (by omega)
     rw [if_pos (by omega), wpred (by omega) (by omega), if_pos (by omega), Int.toNat_natCast, hp, Option.bind_some, if_pos (by omega), Option.bind_some]
     by_cases c4 : IntKind.wrap .i64 (t.Columns[i - 1].Num * x.Den) ≥ IntKind.wrap .i64 (x.Num * t.Columns[i - 1].Den)
     ·have e : kCol t.Columns i x = false := by simp only [kCol, hp, decide_eq_true c4]; simp [c3]
      rw [if_pos c4, e, if_neg (by decide)]; rfl
     ·have e : kCol t.Columns i x = true := by simp only [kCol, hp, decide_eq_false c4]; simp [c1, c2]
      rw [if_neg c4, if_pos e]; rfl
   ·rw [if_neg c2, if_neg (by simp [kCol, c2])]; rfl
  ·rw [if_neg c1, if_neg (by simp [kCol, c1])]; rfl) fun _ => by
  rw [loop_eq]
  simp only [Bs_kGood]
  rw [if_neg (by omega)]
  exact rows_s hc hr
 refine this.trans ?_
 cases alli (kCol t.Columns) t.Columns <;> rfl
theorem isTable_i (t : Gi_CombatTable) : Di_IsCombatTable t = some (kG t) := by
 unfold Di_IsCombatTable kG
 rw [kin_i, Option.bind_some]
 by_cases c1 : kIn (t.Columns.length : Int) 1 8 = true
 ·rw [if_pos c1, c1, kin_i, Option.bind_some]
  by_cases c2 : kIn t.Dice 1 2 = true
  ·obtain ⟨d1, d2⟩ := kIn_iff.1 c2
   obtain ⟨d3, d4⟩ := kIn_iff.1 c1
   rw [if_pos c2, c2, w64 (n := 5 * t.Dice) (by omega), w64 (by omega)]
   by_cases c3 : (t.Results.length : Int) = 5 * t.Dice + 1
   ·rw [if_pos c3, decide_eq_true c3, cols_i (by omega) (by omega)]
    simp
   ·rw [if_neg c3, decide_eq_false c3]
    rfl
  ·rw [if_neg c2]
   simp only [Bool.not_eq_true] at c2
   rw [c2]
   rfl
 ·rw [if_neg c1]
  simp only [Bool.not_eq_true] at c1
  rw [c1]
  rfl
theorem tabGood_s (t : Gi_CombatTable) : Ds_kGood t = some (kG t) := by
 unfold Ds_kGood Ds_kRows kG
 rw [kin_s, Option.bind_some]
 by_cases c1 : kIn (t.Columns.length : Int) 1 8 = true
 ·rw [if_pos c1, c1, kin_s, Option.bind_some]
  by_cases c2 : kIn t.Dice 1 2 = true
  ·obtain ⟨d1, d2⟩ := kIn_iff.1 c2
   obtain ⟨d3, d4⟩ := kIn_iff.1 c1
   rw [if_pos c2, c2, w64 (n := 5 * t.Dice) (by omega), w64 (by omega), Option.bind_some]
   by_cases c3 : (t.Results.length : Int) = 5 * t.Dice + 1
   ·rw [if_pos c3, decide_eq_true c3, cols_s (by omega) (by omega)]
    simp
   ·rw [if_neg c3, decide_eq_false c3]
    rfl
  ·rw [if_neg c2]
   simp only [Bool.not_eq_true] at c2
   rw [c2]
   rfl
 ·rw [if_neg c1]
  simp only [Bool.not_eq_true] at c1
  rw [c1]
  rfl
theorem three {x : List Int} (h : x.length = 3) : ∃ a b c, x = [a, b, c] := by
 match x, h with
 | [a, b, c], _ => exact ⟨a, b, c, rfl⟩
def Ok {α : Type} (o : Option α) (Q : α → Prop) : Prop := ∃ a, o = some a ∧ Q a
theorem Ok.ret {α : Type} {a : α} {Q : α → Prop} (h : Q a) : Ok (some a) Q := ⟨a, rfl, h⟩
theorem Ok.mono {α : Type} {o : Option α} {P Q : α → Prop} (h : Ok o P) (k : ∀ a, P a → Q a) : Ok o Q := by
 obtain ⟨a, e, h⟩ := h
 exact ⟨a, e, k a h⟩
theorem Ok.bind {α β : Type} {o : Option α} {f : α → Option β} {P : α → Prop} {Q : β → Prop} (h : Ok o P) (k : ∀ a, P a → Ok (f a) Q) : Ok (Option.bind o f) Q := by
 obtain ⟨a, rfl, h⟩ := h
 exact k a h
theorem Ok.ite {α : Type} {c : Prop} [Decidable c] {a b : Option α} {Q : α → Prop} (h1 : c → Ok a Q) (h2 : ¬ c → Ok b Q) : Ok (if c then a else b) Q := by
 by_cases h : c
 ·rw [if_pos h]; exact h1 h
 ·rw [if_neg h]; exact h2 h
theorem Ok.chk {α : Type} {c : Prop} [Decidable c] {a b : Option α} {Q : α → Prop} (h : c) (h1 : Ok a Q) : Ok (if c then a else b) Q := by
 rw [if_pos h]; exact h1
theorem Ok.els {α : Type} {c : Prop} [Decidable c] {a b : Option α} {Q : α → Prop} (h : ¬ c) (h1 : Ok b Q) : Ok (if c then a else b) Q := by
 rw [if_neg h]; exact h1
theorem Ok.get {α β : Type} {l : List α} {i : Nat} {f : α → Option β} {Q : β → Prop} (h : i < l.length) (k : ∀ x, l[i]? = some x → x ∈ l → Ok (f x) Q) : Ok (Option.bind l[i]? f) Q := by
 have e := List.getElem?_eq_getElem h
 rw [e]
 exact k _ e (List.mem_of_getElem? e)
theorem Ok.eq {α β : Type} {o : Option α} {a : α} {f : α → Option β} {Q : β → Prop} (e : o = some a) (k : Ok (f a) Q) : Ok (Option.bind o f) Q := by
 rw [e]; exact k
theorem Ok.loop {σ ρ : Type} {B : σ → Option (σ ⊕ ρ)} {Q : ρ → Prop} (I : σ → Prop) (m : σ → Nat) (hs : ∀ s, I s → Ok (B s) fun o => match o with | .inl s' => I s' ∧ m s' < m s | .inr r => Q r) : ∀ {s}, I s → Ok (loop B s) Q := by
 have key : ∀ n s, m s < n → I s → Ok (Ab.loop B s) Q := by
  intro n
  induction n with
  | zero => intro s h; omega
  | succ n ih =>
   intro s hn hI
   obtain ⟨o, e, h⟩ := hs s hI
   rw [loop_eq, e]
   cases o with
   | inl s' => exact ih s' (by omega) h.1
   | inr r => exact ⟨r, rfl, h⟩
 intro s h
 exact key _ s (Nat.lt_succ_self _) h

theorem ltc {i n : Nat} (h : i < n) : ((i : Int) < (n : Int)) = True := by simp [h]
theorem nltc (n : Nat) : ((n : Int) < (n : Int)) = False := by simp
theorem nnc (i : Nat) : ((0 : Int) ≤ (i : Int)) = True := by simp

def nmB (s : ByteArray) : Bool := alli (fun i _ => decide (97 ≤ byteAt s i) && decide (byteAt s i ≤ 122)) (List.range s.size) && kIn s.size 1 8
theorem nm_i {s : ByteArray} (hs : s.size ≤ 2000000) : Di_isName s = some (nmB s) := by
 unfold Di_isName nmB
 refine all_loop2 (B := Bi_isName) (S := fun i => .h1 s (i : Int)) (fun i x hx hi _ => ?_) ?_
 ·rw [List.length_range] at hi
  simp only [Bi_isName, ltc hi, nnc, if_true, Int.toNat_natCast, wsucc (show i < 9223372036854775807 by omega)]
  by_cases c1 : byteAt s i < 97
  ·rw [if_pos (by omega), if_neg (by simp only [Bool.and_eq_true, decide_eq_true_eq]; omega)]
  ·rw [if_neg (by omega)]
   by_cases c2 : byteAt s i > 122
   ·rw [if_pos (by omega), if_neg (by simp only [Bool.and_eq_true, decide_eq_true_eq]; omega)]
   ·rw [if_neg (by omega), if_pos (by simp only [Bool.and_eq_true, decide_eq_true_eq]; omega)]
 ·simp only [Bi_isName, List.length_range, nltc, if_false, kin_i, Option.bind_some]
theorem nm_s {s : ByteArray} (hs : s.size ≤ 2000000) : Ds_rName s = some (nmB s) := by
 unfold Ds_rName nmB
 refine all_loop2 (B := Bs_rName) (S := fun i => .h1 s (i : Int)) (fun i x hx hi _ => ?_) ?_
 ·rw [List.length_range] at hi
  simp only [Bs_rName, ltc hi, nnc, if_true, Int.toNat_natCast, wsucc (show i < 9223372036854775807 by omega)]
  by_cases c1 : byteAt s i < 97
  ·rw [if_pos (by omega), if_neg (by simp only [Bool.and_eq_true, decide_eq_true_eq]; omega)]
  ·rw [if_neg (by omega)]
   by_cases c2 : byteAt s i > 122
   ·rw [if_pos (by omega), if_neg (by simp only [Bool.and_eq_true, decide_eq_true_eq]; omega)]
   ·rw [if_neg (by omega), if_pos (by simp only [Bool.and_eq_true, decide_eq_true_eq]; omega)]
 ·simp only [Bs_rName, List.length_range, nltc, if_false, kin_s, Option.bind_some]
def trIx (nm : ByteArray) (l : List Gi_Terrain) : Int := ix (fun t => t.Name == nm) l
def kdIx (nm : ByteArray) (l : List Gi_Kind) : Int := ix (fun t => t.Name == nm) l
theorem trIx_i {l : List Gi_Terrain} (hl : l.length ≤ 2000000) (nm : ByteArray) : Di_terrainIndex l nm = some (trIx nm l) := by
 have h : loop Bslices_IndexFunc_i_Terrain_i_terrainIndex_1 (.h1 l nm (l.length : Int) 0) = some (trIx nm l) := find_loop (B := Bslices_IndexFunc_i_Terrain_i_terrainIndex_1) (S := fun i => .h1 l nm (l.length : Int) (i : Int)) (p := fun t => t.Name == nm) (l := l) (fun i x hx hi => by
  simp only [Bslices_IndexFunc_i_Terrain_i_terrainIndex_1, ltc hi, nnc, if_true, Int.toNat_natCast, hx, Option.bind_some, Di_terrainIndex_1, wsucc (show i < 9223372036854775807 by omega)]) (by
  simp only [Bslices_IndexFunc_i_Terrain_i_terrainIndex_1, nltc, if_false])
 unfold Di_terrainIndex Dslices_IndexFunc_i_Terrain_i_terrainIndex_1
 rw [h]; rfl
theorem kdIx_i {l : List Gi_Kind} (hl : l.length ≤ 2000000) (nm : ByteArray) : Di_kindIndex l nm = some (kdIx nm l) := by
 have h : loop Bslices_IndexFunc_i_Kind_i_kindIndex_1 (.h1 l nm (l.length : Int) 0) = some (kdIx nm l) := find_loop (B := Bslices_IndexFunc_i_Kind_i_kindIndex_1) (S := fun i => .h1 l nm (l.length : Int) (i : Int)) (p := fun t => t.Name == nm) (l := l) (fun i x hx hi => by
  simp only [Bslices_IndexFunc_i_Kind_i_kindIndex_1, ltc hi, nnc, if_true, Int.toNat_natCast, hx, Option.bind_some, Di_kindIndex_1, wsucc (show i < 9223372036854775807 by omega)]) (by
  simp only [Bslices_IndexFunc_i_Kind_i_kindIndex_1, nltc, if_false])
 unfold Di_kindIndex Dslices_IndexFunc_i_Kind_i_kindIndex_1
 rw [h]; rfl
theorem trIx_s {l : List Gi_Terrain} (hl : l.length ≤ 2000000) (nm : ByteArray) : Ds_rTerrain l nm = some (trIx nm l) :=
 find_loop (B := Bs_rTerrain) (S := fun i => .h1 nm l (l.length : Int) (i : Int)) (p := fun t => t.Name == nm) (l := l) (fun i x hx hi => by
  simp only [Bs_rTerrain, ltc hi, nnc, if_true, Int.toNat_natCast, hx, Option.bind_some, beq_iff_eq, wsucc (show i < 9223372036854775807 by omega)]) (by
  simp only [Bs_rTerrain, nltc, if_false])
theorem kdIx_s {l : List Gi_Kind} (hl : l.length ≤ 2000000) (nm : ByteArray) : Ds_rKind l nm = some (kdIx nm l) :=
 find_loop (B := Bs_rKind) (S := fun i => .h1 nm l (l.length : Int) (i : Int)) (p := fun t => t.Name == nm) (l := l) (fun i x hx hi => by
  simp only [Bs_rKind, ltc hi, nnc, if_true, Int.toNat_natCast, hx, Option.bind_some, beq_iff_eq, wsucc (show i < 9223372036854775807 by omega)]) (by
  simp only [Bs_rKind, nltc, if_false])
theorem contains_cost {l : List Int} (hl : l.length ≤ 2000000) : Dslices_ContainsFunc_int_i_goodTerrain_1 l = some (!(alli (fun _ x => kIn x 0 9) l)) := by
 rw [← ifNB]
 have := all_goL (L := fun s => (loop Bslices_IndexFunc_int_i_goodTerrain_1 s).map fun r => decide (r ≥ 0)) (S := fun i => .h1 l (l.length : Int) (i : Int)) (l := l) (q := fun _ x => kIn x 0 9) (f := true) (r := some false) (fun i x hx hi _ => by
  rw [loop_eq]
  simp only [Bslices_IndexFunc_int_i_goodTerrain_1, ltc hi, nnc, if_true, Int.toNat_natCast, hx, Option.bind_some, Di_goodTerrain_1, kin_i, wsucc (show i < 9223372036854775807 by omega)]
  cases kIn x 0 9 <;> simp [goOn]) fun _ => by
  rw [loop_eq]
  simp only [Bslices_IndexFunc_int_i_goodTerrain_1, nltc, if_false]
  rfl
 refine Eq.trans ?_ this
 unfold Dslices_ContainsFunc_int_i_goodTerrain_1 Dslices_IndexFunc_int_i_goodTerrain_1
 cases loop Bslices_IndexFunc_int_i_goodTerrain_1 (.h1 l (l.length : Int) 0) <;> rfl
structure TrLen (t : Gi_Terrain) : Prop where
 n : t.Name.size ≤ 2000000
 c : t.Cost.length ≤ 2000000
structure RlLen (r : Gi_Rules) : Prop where
 t : r.Terrains.length ≤ 2000000
 ts : ∀ x ∈ r.Terrains, TrLen x
 k : r.Kinds.length ≤ 2000000
 ks : ∀ x ∈ r.Kinds, x.Name.size ≤ 2000000
def trOk (K : Nat) (t : Gi_Terrain) : Bool := nmB t.Name && decide (t.Cost.length = K) && kIn t.Shift (-3) 3 && kIn t.Height 0 3 && alli (fun _ x => kIn x 0 9) t.Cost
def kdOk (k : Gi_Kind) : Bool := nmB k.Name && kIn k.Strength 1 9 && kIn k.Moves 0 9 && kIn k.Steps 1 4 && kIn k.View 0 4
def rlEnd (r : Gi_Rules) : Bool := kIn r.Stack 1 4 && kIn r.River 0 9 && kIn r.Road 1 9 && kIn r.Supply 0 20 && kIn r.Turns 1 30
def rlG (r : Gi_Rules) : Bool := kIn r.Terrains.length 1 6 && kIn r.Kinds.length 1 4 && alli (fun i t => trOk r.Kinds.length t && decide (trIx t.Name r.Terrains = i)) r.Terrains && alli (fun i k => kdOk k && decide (kdIx k.Name r.Kinds = i)) r.Kinds && rlEnd r
theorem goodTr_i {t : Gi_Terrain} (h : TrLen t) (K : Nat) : Di_goodTerrain t (K : Int) = some (trOk K t) := by
 unfold Di_goodTerrain trOk
 simp only [nm_i h.n, Option.bind_some, kin_i, contains_cost h.c, Int.ofNat_inj, Bool.not_not]
 by_cases c1 : t.Cost.length = K
 ·simp only [c1, decide_true, Bool.and_true, if_true]
  cases nmB t.Name <;> cases kIn t.Shift (-3) 3 <;> cases kIn t.Height 0 3 <;> simp
 ·cases nmB t.Name <;> simp [c1]
theorem goodKd_i {k : Gi_Kind} (h : k.Name.size ≤ 2000000) : Di_goodKind k = some (kdOk k) := by
 unfold Di_goodKind kdOk
 simp only [nm_i h, Option.bind_some, kin_i]
 cases nmB k.Name <;> cases kIn k.Strength 1 9 <;> cases kIn k.Moves 0 9 <;> cases kIn k.Steps 1 4 <;> simp
theorem rlKinds_i {r : Gi_Rules} (h : RlLen r) : loop Bi_IsRules (.h2 r.Kinds (r.Kinds.length : Int) 0 r) = some (alli (fun i k => kdOk k && decide (kdIx k.Name r.Kinds = i)) r.Kinds && rlEnd r) := by
 have hk := h.k
 refine all_loop2 (B := Bi_IsRules) (S := fun i => .h2 r.Kinds (r.Kinds.length : Int) (i : Int) r) (fun i x hx hi _ => ?_) ?_
 ·have hn := h.ks x (List.mem_of_getElem? hx)
  simp only [Bi_IsRules, ltc hi, nnc, if_true, Int.toNat_natCast, hx, Option.bind_some, goodKd_i hn, kdIx_i hk, wsucc (show i < 9223372036854775807 by omega)]
  by_cases c : kdIx x.Name r.Kinds = i
  ·cases kdOk x <;> simp [c]
  ·cases kdOk x <;> simp [c]
 ·simp only [Bi_IsRules, nltc, if_false, kin_i, Option.bind_some, rlEnd]
  cases kIn r.Stack 1 4 <;> cases kIn r.River 0 9 <;> cases kIn r.Road 1 9 <;> cases kIn r.Supply 0 20 <;> simp
theorem rlKinds_s {r : Gi_Rules} (h : RlLen r) : loop Bs_rGood (.h2 r.Kinds (r.Kinds.length : Int) 0 r) = some (alli (fun i k => kdOk k && decide (kdIx k.Name r.Kinds = i)) r.Kinds && rlEnd r) := by
 have hk := h.k
 refine all_loop2 (B := Bs_rGood) (S := fun i => .h2 r.Kinds (r.Kinds.length : Int) (i : Int) r) (fun i x hx hi _ => ?_) ?_
 ·have hn := h.ks x (List.mem_of_getElem? hx)
  simp only [Bs_rGood, ltc hi, nnc, if_true, Int.toNat_natCast, hx, Option.bind_some, nm_s hn, kin_s, kdIx_s hk, wsucc (show i < 9223372036854775807 by omega)]
  have b1 := Bool.eq_false_or_eq_true (nmB x.Name)
  have b2 := Bool.eq_false_or_eq_true (kIn x.Strength 1 9)
  have b3 := Bool.eq_false_or_eq_true (kIn x.Moves 0 9)
  have b4 := Bool.eq_false_or_eq_true (kIn x.Steps 1 4)
  have b5 := Bool.eq_false_or_eq_true (kIn x.View 0 4)
  by_cases c : kdIx x.Name r.Kinds = i
  ·rcases b1 with b1 | b1 <;> rcases b2 with b2 | b2 <;> rcases b3 with b3 | b3 <;> rcases b4 with b4 | b4 <;> rcases b5 with b5 | b5 <;> simp [kdOk, c, b1, b2, b3, b4, b5]
  ·rcases b1 with b1 | b1 <;> simp [kdOk, c, b1]
 ·simp only [Bs_rGood, nltc, if_false, kin_s, Option.bind_some, rlEnd]
  cases kIn r.Stack 1 4 <;> cases kIn r.River 0 9 <;> cases kIn r.Road 1 9 <;> cases kIn r.Supply 0 20 <;> simp
theorem isRules_i {r : Gi_Rules} (h : RlLen r) : Di_IsRules r = some (rlG r) := by
 have ht := h.t
 have key := all_goL (L := loop Bi_IsRules) (S := fun i => .h1 r.Terrains (r.Terrains.length : Int) (i : Int) r) (l := r.Terrains) (q := fun i t => trOk r.Kinds.length t && decide (trIx t.Name r.Terrains = i)) (f := false) (r := some (alli (fun i k => kdOk k && decide (kdIx k.Name r.Kinds = i)) r.Kinds && rlEnd r)) (fun i x hx hi _ => by
   have hn := h.ts x (List.mem_of_getElem? hx)
   rw [loop_eq]
   simp only [Bi_IsRules, ltc hi, nnc, if_true, Int.toNat_natCast, hx, Option.bind_some, goodTr_i hn, trIx_i ht, wsucc (show i < 9223372036854775807 by omega)]
   by_cases c : trIx x.Name r.Terrains = i
   ·cases trOk r.Kinds.length x <;> simp [c, goOn]
   ·cases trOk r.Kinds.length x <;> simp [c, goOn]) fun _ => by
   rw [loop_eq]
   simp only [Bi_IsRules, nltc, if_false, goOn]
   exact rlKinds_i h
 unfold Di_IsRules
 simp only [kin_i, Option.bind_some, rlG]
 have key' : loop Bi_IsRules (.h1 r.Terrains (r.Terrains.length : Int) 0 r) = _ := key
 rw [key']
 cases kIn r.Terrains.length 1 6 <;> cases kIn r.Kinds.length 1 4 <;> cases alli (fun i t => trOk r.Kinds.length t && decide (trIx t.Name r.Terrains = i)) r.Terrains <;> simp
theorem isRules_s {r : Gi_Rules} (h : RlLen r) : Ds_rGood r = some (rlG r) := by
 have ht := h.t
 have key := all_goL (L := loop Bs_rGood) (S := fun i => .h1 r.Terrains (r.Terrains.length : Int) (i : Int) r) (l := r.Terrains) (q := fun i t => trOk r.Kinds.length t && decide (trIx t.Name r.Terrains = i)) (f := false) (r := some (alli (fun i k => kdOk k && decide (kdIx k.Name r.Kinds = i)) r.Kinds && rlEnd r)) (fun i x hx hi _ => by
   have hn := h.ts x (List.mem_of_getElem? hx)
   have hn1 := hn.n
   have hn2 := hn.c
   rw [loop_eq]
   simp only [Bs_rGood, ltc hi, nnc, if_true, Int.toNat_natCast, hx, Option.bind_some, nm_s hn1, l1All_s hn2, kin_s, trIx_s ht, wsucc (show i < 9223372036854775807 by omega), Int.ofNat_inj]
   have b1 := Bool.eq_false_or_eq_true (nmB x.Name)
   have b2 := Bool.eq_false_or_eq_true (kIn x.Shift (-3) 3)
   have b3 := Bool.eq_false_or_eq_true (kIn x.Height 0 3)
   have b4 := Bool.eq_false_or_eq_true (alli (fun _ x => kIn x 0 9) x.Cost)
   by_cases c : trIx x.Name r.Terrains = i
   ·by_cases c1 : x.Cost.length = r.Kinds.length
    ·rcases b1 with b1 | b1 <;> rcases b2 with b2 | b2 <;> rcases b3 with b3 | b3 <;> rcases b4 with b4 | b4 <;> simp [trOk, c, c1, b1, b2, b3, b4, goOn]
    ·rcases b1 with b1 | b1 <;> simp [trOk, c, c1, b1, goOn]
   ·rcases b1 with b1 | b1 <;> simp [trOk, c, b1, goOn]) fun _ => by
   rw [loop_eq]
   simp only [Bs_rGood, nltc, if_false, goOn]
   exact rlKinds_s h
 unfold Ds_rGood
 simp only [kin_s, Option.bind_some, rlG]
 have key' : loop Bs_rGood (.h1 r.Terrains (r.Terrains.length : Int) 0 r) = _ := key
 rw [key']
 cases kIn r.Terrains.length 1 6 <;> cases kIn r.Kinds.length 1 4 <;> cases alli (fun i t => trOk r.Kinds.length t && decide (trIx t.Name r.Terrains = i)) r.Terrains <;> simp
structure RlOk (r : Gi_Rules) : Prop where
 t : 1 ≤ r.Terrains.length ∧ r.Terrains.length ≤ 6
 k : 1 ≤ r.Kinds.length ∧ r.Kinds.length ≤ 4
 ts : ∀ x ∈ r.Terrains, x.Cost.length = r.Kinds.length ∧ ∀ c ∈ x.Cost, 0 ≤ c ∧ c ≤ 9
 ks : ∀ x ∈ r.Kinds, (1 ≤ x.Strength ∧ x.Strength ≤ 9) ∧ (0 ≤ x.Moves ∧ x.Moves ≤ 9) ∧ (1 ≤ x.Steps ∧ x.Steps ≤ 4) ∧ (0 ≤ x.View ∧ x.View ≤ 4)
 sh : ∀ x ∈ r.Terrains, (-3 ≤ x.Shift ∧ x.Shift ≤ 3) ∧ (0 ≤ x.Height ∧ x.Height ≤ 3)
 e : (1 ≤ r.Stack ∧ r.Stack ≤ 4) ∧ (0 ≤ r.River ∧ r.River ≤ 9) ∧ (1 ≤ r.Road ∧ r.Road ≤ 9) ∧ (0 ≤ r.Supply ∧ r.Supply ≤ 20) ∧ (1 ≤ r.Turns ∧ r.Turns ≤ 30)
theorem rlG_ok {r : Gi_Rules} (h : rlG r = true) : RlOk r := by
 simp only [rlG, rlEnd, Bool.and_eq_true, kIn_iff] at h
 obtain ⟨⟨⟨⟨h1, h2⟩, h3⟩, h4⟩, h5⟩ := h
 have h3' := alli_iff.1 h3
 have h4' := alli_iff.1 h4
 refine ⟨by omega, by omega, fun x hx => ?_, fun x hx => ?_, fun x hx => ?_, by omega⟩
 ·obtain ⟨i, hi⟩ := List.getElem?_of_mem hx
  have := h3' i x hi
  simp only [trOk, Bool.and_eq_true, decide_eq_true_eq, kIn_iff] at this
  refine ⟨this.1.1.1.1.2, fun c hc => ?_⟩
  obtain ⟨j, hj⟩ := List.getElem?_of_mem hc
  have := alli_iff.1 this.1.2 j c hj
  simpa [kIn_iff] using this
 ·obtain ⟨i, hi⟩ := List.getElem?_of_mem hx
  have := h4' i x hi
  simp only [kdOk, Bool.and_eq_true, decide_eq_true_eq, kIn_iff] at this
  omega
 ·obtain ⟨i, hi⟩ := List.getElem?_of_mem hx
  have := h3' i x hi
  simp only [trOk, Bool.and_eq_true, decide_eq_true_eq, kIn_iff] at this
  omega

theorem fm_goL {σ α ρ : Type} {L : σ → Option ρ} {S : Nat → List α → σ} {n : Nat} {f : Nat → Option α} {r : List α → Option ρ}
  (hs : ∀ i acc, i < n → acc.length ≤ i → L (S i acc) = L (S (i + 1) (match f i with | some a => acc ++ [a] | none => acc))) (he : ∀ acc, acc.length ≤ n → L (S n acc) = r acc) : L (S 0 []) = r ((List.range n).filterMap f) := by
 have key : ∀ (k i : Nat) acc, i + k = n → acc.length ≤ i → L (S i acc) = r (acc ++ (List.range' i k).filterMap f) := by
  intro k
  induction k with
  | zero =>
   intro i acc h hl
   have : i = n := by omega
   subst this
   rw [he acc hl]
   simp
  | succ k ih =>
   intro i acc h hl
   rw [hs i acc (by omega) hl, List.range'_succ, List.filterMap_cons]
   cases hf : f i with
   | none => exact ih (i + 1) acc (by omega) (by omega)
   | some a =>
    simp only
    rw [ih (i + 1) _ (by omega) (by simp; omega)]
    simp
 have := key n 0 [] (by omega) (by simp)
 rw [this, List.range_eq_range']
 rfl
theorem ap8 {α : Type} {l : List α} {x : α} (h : l.length ≤ 3000000) : (l ++ [x]).length * 8 ≤ 70368744177664 := by simp; omega
theorem if8 {α β : Type} {l : List α} {x : α} (h : l.length ≤ 3000000) (a b : β) : (if (l ++ [x]).length * 8 ≤ 70368744177664 then a else b) = a := if_pos (ap8 h)

structure BdLen (b : Gi_Board) : Prop where
 r : RlLen b.Rules
 m : MpLen b.Map
def bdG (b : Gi_Board) : Bool := rlG b.Rules && mpGood b.Map && alli (fun _ x => kIn x 0 (b.Rules.Terrains.length - 1)) b.Map.Terrain
theorem mpGood_terr {m : Gi_Map} (h : mpGood m = true) : ∀ x ∈ m.Terrain, 0 ≤ x ∧ x ≤ 5 := by
 simp only [mpGood, Bool.and_eq_true, List.all_eq_true] at h
 intro x hx
 have := h.1.1.2 x hx
 simpa [terrOk] using this
theorem contains_terr {b : Gi_Board} {l : List Int} (hl : l.length ≤ 2000000) : Dslices_ContainsFunc_int_i_IsBoard_1 l b = some (!(alli (fun _ (x : Int) => decide (x < b.Rules.Terrains.length)) l)) := by
 rw [← ifNB]
 have := all_goL (L := fun s => (loop Bslices_IndexFunc_int_i_IsBoard_1 s).map fun r => decide (r ≥ 0)) (S := fun i => .h1 l b (l.length : Int) (i : Int)) (l := l) (q := fun _ (x : Int) => decide (x < b.Rules.Terrains.length)) (f := true) (r := some false) (fun i x hx hi _ => by
  rw [loop_eq]
  simp only [Bslices_IndexFunc_int_i_IsBoard_1, ltc hi, nnc, if_true, Int.toNat_natCast, hx, Option.bind_some, Di_IsBoard_1, wsucc (show i < 9223372036854775807 by omega)]
  by_cases c : x < b.Rules.Terrains.length
  ·have : ¬ x ≥ b.Rules.Terrains.length := by omega
   simp [c, this, goOn]
  ·have : x ≥ b.Rules.Terrains.length := by omega
   simp [c, this, goOn]) fun _ => by
  rw [loop_eq]
  simp only [Bslices_IndexFunc_int_i_IsBoard_1, nltc, if_false]
  rfl
 refine Eq.trans ?_ this
 unfold Dslices_ContainsFunc_int_i_IsBoard_1 Dslices_IndexFunc_int_i_IsBoard_1
 cases loop Bslices_IndexFunc_int_i_IsBoard_1 (.h1 l b (l.length : Int) 0) <;> rfl
theorem isBoard_i {b : Gi_Board} (h : BdLen b) : Di_IsBoard b = some (bdG b) := by
 unfold Di_IsBoard bdG
 rw [isRules_i h.r, Option.bind_some]
 cases c1 : rlG b.Rules with
 | false => simp
 | true =>
  rw [isMap_i h.m]
  simp only [if_true, Option.bind_some]
  cases c2 : mpGood b.Map with
  | false => simp
  | true =>
   have ht := mpGood_terr c2
   simp only [if_true, contains_terr h.m.1, Option.bind_some, Bool.not_not, Bool.true_and, Option.some.injEq]
   rw [Bool.eq_iff_iff, alli_iff, alli_iff]
   constructor
   ·intro k i x hx
    have h1 := k i x hx
    have h2 := ht x (List.mem_of_getElem? hx)
    simp only [decide_eq_true_eq] at h1
    exact kIn_iff.2 ⟨h2.1, by omega⟩
   ·intro k i x hx
    have h1 := kIn_iff.1 (k i x hx)
    simp only [decide_eq_true_eq]
    omega
theorem isBoard_s {b : Gi_Board} (h : BdLen b) : Ds_bGood b = some (bdG b) := by
 have hr := h.r.t
 unfold Ds_bGood bdG
 rw [isRules_s h.r, Option.bind_some]
 cases c1 : rlG b.Rules with
 | false => simp
 | true =>
  rw [good_m h.m]
  simp only [if_true, Option.bind_some]
  cases c2 : mpGood b.Map with
  | false => simp
  | true =>
   rw [w64 (by omega)]
   simp only [if_true, l1All_s h.m.1, Option.bind_some, Bool.true_and]
structure BdOk (b : Gi_Board) : Prop where
 r : RlOk b.Rules
 d : MpDim b.Map 10
 n : (b.Map.Terrain.length : Int) = b.Map.Width * b.Map.Height
 n2 : 1 ≤ b.Map.Terrain.length ∧ b.Map.Terrain.length ≤ 100
 t : ∀ x ∈ b.Map.Terrain, 0 ≤ x ∧ x < b.Rules.Terrains.length
theorem bdG_ok {b : Gi_Board} (h : bdG b = true) : BdOk b := by
 simp only [bdG, Bool.and_eq_true] at h
 obtain ⟨⟨h1, h2⟩, h3⟩ := h
 obtain ⟨d, n, _, _⟩ := mpGood_dim h2
 have hs := mpSize d
 refine ⟨rlG_ok h1, d, n, by omega, fun x hx => ?_⟩
 obtain ⟨i, hi⟩ := List.getElem?_of_mem hx
 have := kIn_iff.1 (alli_iff.1 h3 i x hi)
 omega
theorem BdOk.d100 {b : Gi_Board} (h : BdOk b) : MpDim b.Map 100 := by
 have := h.d
 unfold MpDim at this ⊢
 omega

def bdT (b : Gi_Board) (i : Int) : Gi_Terrain := match b.Map.Terrain[i.toNat]? with
 | some t => (match b.Rules.Terrains[t.toNat]? with
  | some x => x
  | none => ⟨⟨#[]⟩, [], 0, 0, false⟩)
 | none => ⟨⟨#[]⟩, [], 0, 0, false⟩
def bdC (b : Gi_Board) (k i : Int) : Int := match (bdT b i).Cost[k.toNat]? with
 | some c => c
 | none => 0
theorem bdT_b {b : Gi_Board} (h : BdOk b) {i : Int} (hi : 0 ≤ i ∧ i < b.Map.Terrain.length) : Di_terrainAt b i = some (bdT b i) ∧ Ds_bTerrain b i = some (bdT b i) ∧ bdT b i ∈ b.Rules.Terrains := by
 have h1 : b.Map.Terrain[i.toNat]? = some b.Map.Terrain[i.toNat] := List.getElem?_eq_getElem (by omega)
 have h2 := h.t _ (List.mem_of_getElem? h1)
 have h3 : b.Rules.Terrains[b.Map.Terrain[i.toNat].toNat]? = some b.Rules.Terrains[b.Map.Terrain[i.toNat].toNat] := List.getElem?_eq_getElem (by omega)
 have e : bdT b i = b.Rules.Terrains[b.Map.Terrain[i.toNat].toNat] := by
  unfold bdT
  rw [h1]
  simp only
  rw [h3]
 rw [e]
 unfold Di_terrainAt Ds_bTerrain
 rw [if_pos hi.1, h1, Option.bind_some, if_pos h2.1, h3]
 exact ⟨rfl, rfl, List.getElem_mem _⟩
theorem bdC_b {b : Gi_Board} (h : BdOk b) {k i : Int} (hk : 0 ≤ k ∧ k < b.Rules.Kinds.length) (hi : 0 ≤ i ∧ i < b.Map.Terrain.length) : Di_enterCost b k i = some (bdC b k i) ∧ Ds_bCost b k i = some (bdC b k i) ∧ 0 ≤ bdC b k i ∧ bdC b k i ≤ 9 := by
 obtain ⟨e1, e2, hm⟩ := bdT_b h hi
 obtain ⟨hl, hc⟩ := h.r.ts _ hm
 have h1 : (bdT b i).Cost[k.toNat]? = some (bdT b i).Cost[k.toNat] := List.getElem?_eq_getElem (by omega)
 have h2 := hc _ (List.mem_of_getElem? h1)
 have e : bdC b k i = (bdT b i).Cost[k.toNat] := by
  unfold bdC
  rw [h1]
 rw [e]
 unfold Di_enterCost Ds_bCost
 rw [e1, e2, Option.bind_some, if_pos hk.1, h1]
 exact ⟨rfl, rfl, h2⟩
theorem isIndex_i {x n : Int} (h : -1000000000 ≤ n ∧ n ≤ 1000000000) : Di_isIndex x n = some (kIn x 0 (n - 1)) := by
 unfold Di_isIndex
 rw [w64 (by omega), kin_i]
 rfl
theorem le_map {α β : Type} {f : α → β} {l : List α} {n : Nat} (h : l.length ≤ n) : (l.map f).length ≤ n := by rw [List.length_map]; exact h
theorem sz_IntS {l : (List Int)} (hw : l.length < 9223372036854775808) {left : Int} (hl : 0 ≤ left ∧ left ≤ 1048576) : Ok (Dw_szIntS l left) fun r => r < 0 ∨ (0 ≤ r ∧ r ≤ left) ∧ l.length ≤ 1048576 := by
 unfold Dw_szIntS
 rw [w64 (by omega)]
 exact Ok.ite (fun _ => Ok.ret (.inl (by decide))) fun c => Ok.ret (.inr ⟨⟨by omega, by omega⟩, by omega⟩)
theorem to_IntS {l : (List Int)} (h : l.length ≤ 1048576) : Dw_toIntS l = some l := by
 have hl := h
 unfold Dw_toIntS
 rw [Int.toNat_natCast, if_pos (by omega)]
 have := fill_loop (B := Bw_toIntS) (S := fun i out => .h1 l (i : Int) out) (l := l) (g := id) (fun i x y out hx hi hy => by
  simp only [Bw_toIntS, ltc hi, nnc, if_true, Int.toNat_natCast, hx, hy, Option.bind_some, wsucc (show i < 9223372036854775807 by omega), id]) (fun out => by
  simp only [Bw_toIntS, nltc, if_false]) (0 : Int)
 rw [List.map_id] at this
 exact this
theorem eq_IntS {l : (List Int)} (h : l.length ≤ 1048576) : Dw_eqIntS l l = some true := by
 have hl := h
 unfold Dw_eqIntS
 rw [if_pos rfl]
 refine true_loop (B := Bw_eqIntS) (S := fun i => .h1 l l (i : Int)) (n := l.length) (fun i hi => ?_) ?_
 ·have hx : l[i]? = some l[i] := List.getElem?_eq_getElem hi
  generalize l[i] = x at hx
  simp only [Bw_eqIntS, ltc hi, nnc, if_true, Int.toNat_natCast, hx, Option.bind_some, wsucc (show i < 9223372036854775807 by omega)]
 ·simp only [Bw_eqIntS, nltc, if_false]
def Wf_Terrain (x : Gw_Terrain) : Prop := x.Name.size < 9223372036854775808 ∧ x.Cost.length < 9223372036854775808
def Sz_Terrain (x : Gw_Terrain) : Prop := x.Name.size ≤ 1048576 ∧ x.Cost.length ≤ 1048576
def Si_Terrain (x : Gi_Terrain) : Prop := x.Name.size ≤ 1048576 ∧ x.Cost.length ≤ 1048576
def cv_Terrain (x : Gw_Terrain) : Gi_Terrain := ⟨x.Name, x.Cost, x.Shift, x.Height, x.Blocks⟩
theorem szi_Terrain {x : Gw_Terrain} (h : Sz_Terrain x) : Si_Terrain (cv_Terrain x) := ⟨h.1, h.2⟩
theorem sz_Terrain {x : Gw_Terrain} (hw : Wf_Terrain x) {left : Int} (hl : 0 ≤ left ∧ left ≤ 1048576) : Ok (Dw_szTerrain x left) fun r => r < 0 ∨ (0 ≤ r ∧ r ≤ left) ∧ Sz_Terrain x := by
 unfold Dw_szTerrain
 have b0 : x.Name.size < 9223372036854775808 := hw.1
 rw [w64 (n := left - ((ByteArray.size x.Name : Nat) : Int)) (by omega)]
 refine Ok.ite (fun _ => Ok.ret (.inl (by decide))) fun c0 => ?_
 refine Ok.bind (sz_IntS hw.2 (left := (left - ((ByteArray.size x.Name : Nat) : Int))) ⟨by omega, by omega⟩) fun r1 h1 => Ok.ite (fun _ => Ok.ret (.inl (by decide))) fun c1 => ?_
 replace h1 := h1.resolve_left c1
 exact Ok.ret (.inr ⟨⟨by omega, by omega⟩, ⟨(show x.Name.size ≤ 1048576 by omega), h1.2⟩⟩)
theorem to_Terrain {x : Gw_Terrain} (h : Sz_Terrain x) : Dw_toTerrain x = some (cv_Terrain x) := by
 unfold Dw_toTerrain cv_Terrain
 simp only [to_IntS h.2, Option.bind_some]
theorem eq_Terrain {x : Gi_Terrain} (h : Si_Terrain x) : Dw_eqTerrain x x = some true := by
 unfold Dw_eqTerrain
 simp [eq_IntS h.2]
theorem sz_TerrainS {l : (List Gw_Terrain)} (hw : (l.length < 9223372036854775808 ∧ ∀ y ∈ l, Wf_Terrain y)) {left : Int} (hl : 0 ≤ left ∧ left ≤ 1048576) : Ok (Dw_szTerrainS l left) fun r => r < 0 ∨ (0 ≤ r ∧ r ≤ left) ∧ (l.length ≤ 1048576 ∧ ∀ y ∈ l, Sz_Terrain y) := by
 unfold Dw_szTerrainS
 obtain ⟨hw1, hw2⟩ := hw
 rw [w64 (by omega)]
 refine Ok.ite (fun _ => Ok.ret (.inl (by decide))) fun c => ?_
 refine Ok.loop (B := Bw_szTerrainS) (fun | .h1 va lf i => va = l ∧ (0 ≤ lf ∧ lf ≤ left) ∧ 0 ≤ i ∧ i ≤ l.length ∧ ∀ (j : Nat) y, (j : Int) < i → l[j]? = some y → Sz_Terrain y) (fun | .h1 va lf i => (l.length - i).toNat) (fun s hI => ?_) ⟨rfl, ⟨by omega, by omega⟩, by omega, by omega, fun j y hj => by omega⟩
 match s, hI with
 | .h1 va lf i, ⟨rfl, h1, h2, h3, h4⟩ =>
  simp only [Bw_szTerrainS]
  refine Ok.ite (fun ci => Ok.chk h2 (Ok.get (by omega) fun x hx hm => Ok.bind (sz_Terrain (hw2 x hm) (left := lf) ⟨h1.1, by omega⟩) fun r hr => Ok.ite (fun _ => Ok.ret (.inl (by decide))) fun cr => Ok.ret ?_)) fun ci => Ok.ret (.inr ⟨h1, by omega, fun y hy => ?_⟩)
  ·replace hr := hr.resolve_left cr
   rw [w64 (by omega)]
   dsimp only
   refine ⟨⟨rfl, ⟨hr.1.1, by omega⟩, by omega, by omega, fun j y hj hy => ?_⟩, by omega⟩
   by_cases e : (j : Int) = i
   ·subst e
    rw [Int.toNat_natCast, hy] at hx
    cases hx
    exact hr.2
   ·exact h4 j y (by omega) hy
  ·obtain ⟨j, hj⟩ := List.getElem?_of_mem hy
   exact h4 j y (by have := (List.getElem?_eq_some_iff.1 hj).1; omega) hj
theorem to_TerrainS {l : (List Gw_Terrain)} (h : (l.length ≤ 1048576 ∧ ∀ y ∈ l, Sz_Terrain y)) : Dw_toTerrainS l = some (l.map cv_Terrain) := by
 have hl := h.1
 unfold Dw_toTerrainS
 rw [Int.toNat_natCast, if_pos (by omega)]
 have := fill_loop (B := Bw_toTerrainS) (S := fun i out => .h1 l (i : Int) out) (l := l) (g := cv_Terrain) (fun i x y out hx hi hy => by
  simp only [Bw_toTerrainS, ltc hi, nnc, if_true, Int.toNat_natCast, hx, hy, Option.bind_some, to_Terrain (h.2 x (List.mem_of_getElem? hx)), wsucc (show i < 9223372036854775807 by omega), id]) (fun out => by
  simp only [Bw_toTerrainS, nltc, if_false]) (Gi_Terrain.mk ⟨#[]⟩ [] 0 0 false)
 exact this
theorem eq_TerrainS {l : (List Gi_Terrain)} (h : (l.length ≤ 1048576 ∧ ∀ y ∈ l, Si_Terrain y)) : Dw_eqTerrainS l l = some true := by
 have hl := h.1
 unfold Dw_eqTerrainS
 rw [if_pos rfl]
 refine true_loop (B := Bw_eqTerrainS) (S := fun i => .h1 l l (i : Int)) (n := l.length) (fun i hi => ?_) ?_
 ·have hx : l[i]? = some l[i] := List.getElem?_eq_getElem hi
  generalize l[i] = x at hx
  simp only [Bw_eqTerrainS, ltc hi, nnc, if_true, Int.toNat_natCast, hx, Option.bind_some, wsucc (show i < 9223372036854775807 by omega), eq_Terrain (h.2 x (List.mem_of_getElem? hx))]
 ·simp only [Bw_eqTerrainS, nltc, if_false]
def Wf_Kind (x : Gw_Kind) : Prop := x.Name.size < 9223372036854775808
def Sz_Kind (x : Gw_Kind) : Prop := x.Name.size ≤ 1048576
def Si_Kind (x : Gi_Kind) : Prop := x.Name.size ≤ 1048576
def cv_Kind (x : Gw_Kind) : Gi_Kind := ⟨x.Name, x.Strength, x.Moves, x.Steps, x.Zone, x.View⟩
theorem szi_Kind {x : Gw_Kind} (h : Sz_Kind x) : Si_Kind (cv_Kind x) := h
theorem sz_Kind {x : Gw_Kind} (hw : Wf_Kind x) {left : Int} (hl : 0 ≤ left ∧ left ≤ 1048576) : Ok (Dw_szKind x left) fun r => r < 0 ∨ (0 ≤ r ∧ r ≤ left) ∧ Sz_Kind x := by
 unfold Dw_szKind
 have b0 : x.Name.size < 9223372036854775808 := hw
 rw [w64 (n := left - ((ByteArray.size x.Name : Nat) : Int)) (by omega)]
 refine Ok.ite (fun _ => Ok.ret (.inl (by decide))) fun c0 => ?_
 exact Ok.ret (.inr ⟨⟨by omega, by omega⟩, (show x.Name.size ≤ 1048576 by omega)⟩)
theorem to_Kind {x : Gw_Kind} (h : Sz_Kind x) : Dw_toKind x = some (cv_Kind x) := by
 unfold Dw_toKind cv_Kind
 rfl
theorem eq_Kind {x : Gi_Kind} (h : Si_Kind x) : Dw_eqKind x x = some true := by
 unfold Dw_eqKind
 simp
theorem sz_KindS {l : (List Gw_Kind)} (hw : (l.length < 9223372036854775808 ∧ ∀ y ∈ l, Wf_Kind y)) {left : Int} (hl : 0 ≤ left ∧ left ≤ 1048576) : Ok (Dw_szKindS l left) fun r => r < 0 ∨ (0 ≤ r ∧ r ≤ left) ∧ (l.length ≤ 1048576 ∧ ∀ y ∈ l, Sz_Kind y) := by
 unfold Dw_szKindS
 obtain ⟨hw1, hw2⟩ := hw
 rw [w64 (by omega)]
 refine Ok.ite (fun _ => Ok.ret (.inl (by decide))) fun c => ?_
 refine Ok.loop (B := Bw_szKindS) (fun | .h1 va lf i => va = l ∧ (0 ≤ lf ∧ lf ≤ left) ∧ 0 ≤ i ∧ i ≤ l.length ∧ ∀ (j : Nat) y, (j : Int) < i → l[j]? = some y → Sz_Kind y) (fun | .h1 va lf i => (l.length - i).toNat) (fun s hI => ?_) ⟨rfl, ⟨by omega, by omega⟩, by omega, by omega, fun j y hj => by omega⟩
 match s, hI with
 | .h1 va lf i, ⟨rfl, h1, h2, h3, h4⟩ =>
  simp only [Bw_szKindS]
  refine Ok.ite (fun ci => Ok.chk h2 (Ok.get (by omega) fun x hx hm => Ok.bind (sz_Kind (hw2 x hm) (left := lf) ⟨h1.1, by omega⟩) fun r hr => Ok.ite (fun _ => Ok.ret (.inl (by decide))) fun cr => Ok.ret ?_)) fun ci => Ok.ret (.inr ⟨h1, by omega, fun y hy => ?_⟩)
  ·replace hr := hr.resolve_left cr
   rw [w64 (by omega)]
   dsimp only
   refine ⟨⟨rfl, ⟨hr.1.1, by omega⟩, by omega, by omega, fun j y hj hy => ?_⟩, by omega⟩
   by_cases e : (j : Int) = i
   ·subst e
    rw [Int.toNat_natCast, hy] at hx
    cases hx
    exact hr.2
   ·exact h4 j y (by omega) hy
  ·obtain ⟨j, hj⟩ := List.getElem?_of_mem hy
   exact h4 j y (by have := (List.getElem?_eq_some_iff.1 hj).1; omega) hj
theorem to_KindS {l : (List Gw_Kind)} (h : (l.length ≤ 1048576 ∧ ∀ y ∈ l, Sz_Kind y)) : Dw_toKindS l = some (l.map cv_Kind) := by
 have hl := h.1
 unfold Dw_toKindS
 rw [Int.toNat_natCast, if_pos (by omega)]
 have := fill_loop (B := Bw_toKindS) (S := fun i out => .h1 l (i : Int) out) (l := l) (g := cv_Kind) (fun i x y out hx hi hy => by
  simp only [Bw_toKindS, ltc hi, nnc, if_true, Int.toNat_natCast, hx, hy, Option.bind_some, to_Kind (h.2 x (List.mem_of_getElem? hx)), wsucc (show i < 9223372036854775807 by omega), id]) (fun out => by
  simp only [Bw_toKindS, nltc, if_false]) (Gi_Kind.mk ⟨#[]⟩ 0 0 0 false 0)
 exact this
theorem eq_KindS {l : (List Gi_Kind)} (h : (l.length ≤ 1048576 ∧ ∀ y ∈ l, Si_Kind y)) : Dw_eqKindS l l = some true := by
 have hl := h.1
 unfold Dw_eqKindS
 rw [if_pos rfl]
 refine true_loop (B := Bw_eqKindS) (S := fun i => .h1 l l (i : Int)) (n := l.length) (fun i hi => ?_) ?_
 ·have hx : l[i]? = some l[i] := List.getElem?_eq_getElem hi
  generalize l[i] = x at hx
  simp only [Bw_eqKindS, ltc hi, nnc, if_true, Int.toNat_natCast, hx, Option.bind_some, wsucc (show i < 9223372036854775807 by omega), eq_Kind (h.2 x (List.mem_of_getElem? hx))]
 ·simp only [Bw_eqKindS, nltc, if_false]
def Wf_Rules (x : Gw_Rules) : Prop := (x.Terrains.length < 9223372036854775808 ∧ ∀ y ∈ x.Terrains, Wf_Terrain y) ∧ (x.Kinds.length < 9223372036854775808 ∧ ∀ y ∈ x.Kinds, Wf_Kind y)
def Sz_Rules (x : Gw_Rules) : Prop := (x.Terrains.length ≤ 1048576 ∧ ∀ y ∈ x.Terrains, Sz_Terrain y) ∧ (x.Kinds.length ≤ 1048576 ∧ ∀ y ∈ x.Kinds, Sz_Kind y)
def Si_Rules (x : Gi_Rules) : Prop := (x.Terrains.length ≤ 1048576 ∧ ∀ y ∈ x.Terrains, Si_Terrain y) ∧ (x.Kinds.length ≤ 1048576 ∧ ∀ y ∈ x.Kinds, Si_Kind y)
def cv_Rules (x : Gw_Rules) : Gi_Rules := ⟨(x.Terrains.map cv_Terrain), (x.Kinds.map cv_Kind), x.Stack, x.River, x.Road, x.Supply, x.Turns⟩
theorem szi_Rules {x : Gw_Rules} (h : Sz_Rules x) : Si_Rules (cv_Rules x) := ⟨⟨le_map h.1.1, fun y hy => by obtain ⟨z, hz, rfl⟩ := List.mem_map.1 hy; exact szi_Terrain (h.1.2 z hz)⟩, ⟨le_map h.2.1, fun y hy => by obtain ⟨z, hz, rfl⟩ := List.mem_map.1 hy; exact szi_Kind (h.2.2 z hz)⟩⟩
theorem sz_Rules {x : Gw_Rules} (hw : Wf_Rules x) {left : Int} (hl : 0 ≤ left ∧ left ≤ 1048576) : Ok (Dw_szRules x left) fun r => r < 0 ∨ (0 ≤ r ∧ r ≤ left) ∧ Sz_Rules x := by
 unfold Dw_szRules
 refine Ok.bind (sz_TerrainS hw.1 (left := left) hl) fun r0 h0 => Ok.ite (fun _ => Ok.ret (.inl (by decide))) fun c0 => ?_
 replace h0 := h0.resolve_left c0
 refine Ok.bind (sz_KindS hw.2 (left := r0) ⟨h0.1.1, by omega⟩) fun r1 h1 => Ok.ite (fun _ => Ok.ret (.inl (by decide))) fun c1 => ?_
 replace h1 := h1.resolve_left c1
 exact Ok.ret (.inr ⟨⟨by omega, by omega⟩, ⟨h0.2, h1.2⟩⟩)
theorem to_Rules {x : Gw_Rules} (h : Sz_Rules x) : Dw_toRules x = some (cv_Rules x) := by
 unfold Dw_toRules cv_Rules
 simp only [to_TerrainS h.1, to_KindS h.2, Option.bind_some]
theorem eq_Rules {x : Gi_Rules} (h : Si_Rules x) : Dw_eqRules x x = some true := by
 unfold Dw_eqRules
 simp [eq_TerrainS h.1, eq_KindS h.2]
def Wf_Map (x : Gw_Map) : Prop := x.Terrain.length < 9223372036854775808 ∧ x.Rivers.length < 9223372036854775808 ∧ x.Roads.length < 9223372036854775808
def Sz_Map (x : Gw_Map) : Prop := x.Terrain.length ≤ 1048576 ∧ x.Rivers.length ≤ 1048576 ∧ x.Roads.length ≤ 1048576
def Si_Map (x : Gi_Map) : Prop := x.Terrain.length ≤ 1048576 ∧ x.Rivers.length ≤ 1048576 ∧ x.Roads.length ≤ 1048576
def cv_Map (x : Gw_Map) : Gi_Map := ⟨x.Width, x.Height, x.Terrain, x.Rivers, x.Roads⟩
theorem szi_Map {x : Gw_Map} (h : Sz_Map x) : Si_Map (cv_Map x) := ⟨h.1, h.2.1, h.2.2⟩
theorem sz_Map {x : Gw_Map} (hw : Wf_Map x) {left : Int} (hl : 0 ≤ left ∧ left ≤ 1048576) : Ok (Dw_szMap x left) fun r => r < 0 ∨ (0 ≤ r ∧ r ≤ left) ∧ Sz_Map x := by
 unfold Dw_szMap
 refine Ok.bind (sz_IntS hw.1 (left := left) hl) fun r0 h0 => Ok.ite (fun _ => Ok.ret (.inl (by decide))) fun c0 => ?_
 replace h0 := h0.resolve_left c0
 refine Ok.bind (sz_IntS hw.2.1 (left := r0) ⟨h0.1.1, by omega⟩) fun r1 h1 => Ok.ite (fun _ => Ok.ret (.inl (by decide))) fun c1 => ?_
 replace h1 := h1.resolve_left c1
 refine Ok.bind (sz_IntS hw.2.2 (left := r1) ⟨h1.1.1, by omega⟩) fun r2 h2 => Ok.ite (fun _ => Ok.ret (.inl (by decide))) fun c2 => ?_
 replace h2 := h2.resolve_left c2
 exact Ok.ret (.inr ⟨⟨by omega, by omega⟩, ⟨h0.2, h1.2, h2.2⟩⟩)
theorem to_Map {x : Gw_Map} (h : Sz_Map x) : Dw_toMap x = some (cv_Map x) := by
 unfold Dw_toMap cv_Map
 simp only [to_IntS h.1, to_IntS h.2.1, to_IntS h.2.2, Option.bind_some]
theorem eq_Map {x : Gi_Map} (h : Si_Map x) : Dw_eqMap x x = some true := by
 unfold Dw_eqMap
 simp [eq_IntS h.1, eq_IntS h.2.1, eq_IntS h.2.2]
def Wf_Board (x : Gw_Board) : Prop := Wf_Rules x.Rules ∧ Wf_Map x.Map
def Sz_Board (x : Gw_Board) : Prop := Sz_Rules x.Rules ∧ Sz_Map x.Map
def Si_Board (x : Gi_Board) : Prop := Si_Rules x.Rules ∧ Si_Map x.Map
def cv_Board (x : Gw_Board) : Gi_Board := ⟨(cv_Rules x.Rules), (cv_Map x.Map)⟩
theorem szi_Board {x : Gw_Board} (h : Sz_Board x) : Si_Board (cv_Board x) := ⟨szi_Rules h.1, szi_Map h.2⟩
theorem sz_Board {x : Gw_Board} (hw : Wf_Board x) {left : Int} (hl : 0 ≤ left ∧ left ≤ 1048576) : Ok (Dw_szBoard x left) fun r => r < 0 ∨ (0 ≤ r ∧ r ≤ left) ∧ Sz_Board x := by
 unfold Dw_szBoard
 refine Ok.bind (sz_Rules hw.1 (left := left) hl) fun r0 h0 => Ok.ite (fun _ => Ok.ret (.inl (by decide))) fun c0 => ?_
 replace h0 := h0.resolve_left c0
 refine Ok.bind (sz_Map hw.2 (left := r0) ⟨h0.1.1, by omega⟩) fun r1 h1 => Ok.ite (fun _ => Ok.ret (.inl (by decide))) fun c1 => ?_
 replace h1 := h1.resolve_left c1
 exact Ok.ret (.inr ⟨⟨by omega, by omega⟩, ⟨h0.2, h1.2⟩⟩)
theorem to_Board {x : Gw_Board} (h : Sz_Board x) : Dw_toBoard x = some (cv_Board x) := by
 unfold Dw_toBoard cv_Board
 simp only [to_Rules h.1, to_Map h.2, Option.bind_some]
theorem eq_Board {x : Gi_Board} (h : Si_Board x) : Dw_eqBoard x x = some true := by
 unfold Dw_eqBoard
 simp [eq_Rules h.1, eq_Map h.2]
def cv_Odds (x : Gw_Odds) : Gi_Odds := ⟨x.Num, x.Den⟩
theorem to_Odds (x : Gw_Odds) : Dw_toOdds x = some (cv_Odds x) := by
 unfold Dw_toOdds cv_Odds
 rfl
theorem eq_Odds (x : Gi_Odds) : Dw_eqOdds x x = some true := by
 unfold Dw_eqOdds
 simp
theorem sz_OddsS {l : (List Gw_Odds)} (hw : l.length < 9223372036854775808) {left : Int} (hl : 0 ≤ left ∧ left ≤ 1048576) : Ok (Dw_szOddsS l left) fun r => r < 0 ∨ (0 ≤ r ∧ r ≤ left) ∧ l.length ≤ 1048576 := by
 unfold Dw_szOddsS
 rw [w64 (by omega)]
 exact Ok.ite (fun _ => Ok.ret (.inl (by decide))) fun c => Ok.ret (.inr ⟨⟨by omega, by omega⟩, by omega⟩)
theorem to_OddsS {l : (List Gw_Odds)} (h : l.length ≤ 1048576) : Dw_toOddsS l = some (l.map cv_Odds) := by
 have hl := h
 unfold Dw_toOddsS
 rw [Int.toNat_natCast, if_pos (by omega)]
 have := fill_loop (B := Bw_toOddsS) (S := fun i out => .h1 l (i : Int) out) (l := l) (g := cv_Odds) (fun i x y out hx hi hy => by
  simp only [Bw_toOddsS, ltc hi, nnc, if_true, Int.toNat_natCast, hx, hy, Option.bind_some, to_Odds x, wsucc (show i < 9223372036854775807 by omega), id]) (fun out => by
  simp only [Bw_toOddsS, nltc, if_false]) (Gi_Odds.mk 0 0)
 exact this
theorem eq_OddsS {l : (List Gi_Odds)} (h : l.length ≤ 1048576) : Dw_eqOddsS l l = some true := by
 have hl := h
 unfold Dw_eqOddsS
 rw [if_pos rfl]
 refine true_loop (B := Bw_eqOddsS) (S := fun i => .h1 l l (i : Int)) (n := l.length) (fun i hi => ?_) ?_
 ·have hx : l[i]? = some l[i] := List.getElem?_eq_getElem hi
  generalize l[i] = x at hx
  simp only [Bw_eqOddsS, ltc hi, nnc, if_true, Int.toNat_natCast, hx, Option.bind_some, wsucc (show i < 9223372036854775807 by omega), eq_Odds x]
 ·simp only [Bw_eqOddsS, nltc, if_false]
theorem sz_IntSS {l : (List (List Int))} (hw : (l.length < 9223372036854775808 ∧ ∀ y ∈ l, y.length < 9223372036854775808)) {left : Int} (hl : 0 ≤ left ∧ left ≤ 1048576) : Ok (Dw_szIntSS l left) fun r => r < 0 ∨ (0 ≤ r ∧ r ≤ left) ∧ (l.length ≤ 1048576 ∧ ∀ y ∈ l, y.length ≤ 1048576) := by
 unfold Dw_szIntSS
 obtain ⟨hw1, hw2⟩ := hw
 rw [w64 (by omega)]
 refine Ok.ite (fun _ => Ok.ret (.inl (by decide))) fun c => ?_
 refine Ok.loop (B := Bw_szIntSS) (fun | .h1 va lf i => va = l ∧ (0 ≤ lf ∧ lf ≤ left) ∧ 0 ≤ i ∧ i ≤ l.length ∧ ∀ (j : Nat) y, (j : Int) < i → l[j]? = some y → y.length ≤ 1048576) (fun | .h1 va lf i => (l.length - i).toNat) (fun s hI => ?_) ⟨rfl, ⟨by omega, by omega⟩, by omega, by omega, fun j y hj => by omega⟩
 match s, hI with
 | .h1 va lf i, ⟨rfl, h1, h2, h3, h4⟩ =>
  simp only [Bw_szIntSS]
  refine Ok.ite (fun ci => Ok.chk h2 (Ok.get (by omega) fun x hx hm => Ok.bind (sz_IntS (hw2 x hm) (left := lf) ⟨h1.1, by omega⟩) fun r hr => Ok.ite (fun _ => Ok.ret (.inl (by decide))) fun cr => Ok.ret ?_)) fun ci => Ok.ret (.inr ⟨h1, by omega, fun y hy => ?_⟩)
  ·replace hr := hr.resolve_left cr
   rw [w64 (by omega)]
   dsimp only
   refine ⟨⟨rfl, ⟨hr.1.1, by omega⟩, by omega, by omega, fun j y hj hy => ?_⟩, by omega⟩
   by_cases e : (j : Int) = i
   ·subst e
    rw [Int.toNat_natCast, hy] at hx
    cases hx
    exact hr.2
   ·exact h4 j y (by omega) hy
  ·obtain ⟨j, hj⟩ := List.getElem?_of_mem hy
   exact h4 j y (by have := (List.getElem?_eq_some_iff.1 hj).1; omega) hj
theorem to_IntSS {l : (List (List Int))} (h : (l.length ≤ 1048576 ∧ ∀ y ∈ l, y.length ≤ 1048576)) : Dw_toIntSS l = some l := by
 have hl := h.1
 unfold Dw_toIntSS
 rw [Int.toNat_natCast, if_pos (by omega)]
 have := fill_loop (B := Bw_toIntSS) (S := fun i out => .h1 l (i : Int) out) (l := l) (g := id) (fun i x y out hx hi hy => by
  simp only [Bw_toIntSS, ltc hi, nnc, if_true, Int.toNat_natCast, hx, hy, Option.bind_some, to_IntS (h.2 x (List.mem_of_getElem? hx)), wsucc (show i < 9223372036854775807 by omega), id]) (fun out => by
  simp only [Bw_toIntSS, nltc, if_false]) []
 rw [List.map_id] at this
 exact this
theorem eq_IntSS {l : (List (List Int))} (h : (l.length ≤ 1048576 ∧ ∀ y ∈ l, y.length ≤ 1048576)) : Dw_eqIntSS l l = some true := by
 have hl := h.1
 unfold Dw_eqIntSS
 rw [if_pos rfl]
 refine true_loop (B := Bw_eqIntSS) (S := fun i => .h1 l l (i : Int)) (n := l.length) (fun i hi => ?_) ?_
 ·have hx : l[i]? = some l[i] := List.getElem?_eq_getElem hi
  generalize l[i] = x at hx
  simp only [Bw_eqIntSS, ltc hi, nnc, if_true, Int.toNat_natCast, hx, Option.bind_some, wsucc (show i < 9223372036854775807 by omega), eq_IntS (h.2 x (List.mem_of_getElem? hx))]
 ·simp only [Bw_eqIntSS, nltc, if_false]
def Wf_CombatTable (x : Gw_CombatTable) : Prop := x.Columns.length < 9223372036854775808 ∧ (x.Results.length < 9223372036854775808 ∧ ∀ y ∈ x.Results, y.length < 9223372036854775808)
def Sz_CombatTable (x : Gw_CombatTable) : Prop := x.Columns.length ≤ 1048576 ∧ (x.Results.length ≤ 1048576 ∧ ∀ y ∈ x.Results, y.length ≤ 1048576)
def Si_CombatTable (x : Gi_CombatTable) : Prop := x.Columns.length ≤ 1048576 ∧ (x.Results.length ≤ 1048576 ∧ ∀ y ∈ x.Results, y.length ≤ 1048576)
def cv_CombatTable (x : Gw_CombatTable) : Gi_CombatTable := ⟨(x.Columns.map cv_Odds), x.Dice, x.Results⟩
theorem szi_CombatTable {x : Gw_CombatTable} (h : Sz_CombatTable x) : Si_CombatTable (cv_CombatTable x) := ⟨(le_map h.1), h.2⟩
theorem sz_CombatTable {x : Gw_CombatTable} (hw : Wf_CombatTable x) {left : Int} (hl : 0 ≤ left ∧ left ≤ 1048576) : Ok (Dw_szCombatTable x left) fun r => r < 0 ∨ (0 ≤ r ∧ r ≤ left) ∧ Sz_CombatTable x := by
 unfold Dw_szCombatTable
 refine Ok.bind (sz_OddsS hw.1 (left := left) hl) fun r0 h0 => Ok.ite (fun _ => Ok.ret (.inl (by decide))) fun c0 => ?_
 replace h0 := h0.resolve_left c0
 refine Ok.bind (sz_IntSS hw.2 (left := r0) ⟨h0.1.1, by omega⟩) fun r1 h1 => Ok.ite (fun _ => Ok.ret (.inl (by decide))) fun c1 => ?_
 replace h1 := h1.resolve_left c1
 exact Ok.ret (.inr ⟨⟨by omega, by omega⟩, ⟨h0.2, h1.2⟩⟩)
theorem to_CombatTable {x : Gw_CombatTable} (h : Sz_CombatTable x) : Dw_toCombatTable x = some (cv_CombatTable x) := by
 unfold Dw_toCombatTable cv_CombatTable
 simp only [to_OddsS h.1, to_IntSS h.2, Option.bind_some]
theorem eq_CombatTable {x : Gi_CombatTable} (h : Si_CombatTable x) : Dw_eqCombatTable x x = some true := by
 unfold Dw_eqCombatTable
 simp [eq_OddsS h.1, eq_IntSS h.2]
def cv_Unit (x : Gw_Unit) : Gi_Unit := ⟨x.Side, x.Kind, x.At, x.Steps⟩
theorem to_Unit (x : Gw_Unit) : Dw_toUnit x = some (cv_Unit x) := by
 unfold Dw_toUnit cv_Unit
 rfl
theorem eq_Unit (x : Gi_Unit) : Dw_eqUnit x x = some true := by
 unfold Dw_eqUnit
 simp
theorem sz_UnitS {l : (List Gw_Unit)} (hw : l.length < 9223372036854775808) {left : Int} (hl : 0 ≤ left ∧ left ≤ 1048576) : Ok (Dw_szUnitS l left) fun r => r < 0 ∨ (0 ≤ r ∧ r ≤ left) ∧ l.length ≤ 1048576 := by
 unfold Dw_szUnitS
 rw [w64 (by omega)]
 exact Ok.ite (fun _ => Ok.ret (.inl (by decide))) fun c => Ok.ret (.inr ⟨⟨by omega, by omega⟩, by omega⟩)
theorem to_UnitS {l : (List Gw_Unit)} (h : l.length ≤ 1048576) : Dw_toUnitS l = some (l.map cv_Unit) := by
 have hl := h
 unfold Dw_toUnitS
 rw [Int.toNat_natCast, if_pos (by omega)]
 have := fill_loop (B := Bw_toUnitS) (S := fun i out => .h1 l (i : Int) out) (l := l) (g := cv_Unit) (fun i x y out hx hi hy => by
  simp only [Bw_toUnitS, ltc hi, nnc, if_true, Int.toNat_natCast, hx, hy, Option.bind_some, to_Unit x, wsucc (show i < 9223372036854775807 by omega), id]) (fun out => by
  simp only [Bw_toUnitS, nltc, if_false]) (Gi_Unit.mk 0 0 0 0)
 exact this
theorem eq_UnitS {l : (List Gi_Unit)} (h : l.length ≤ 1048576) : Dw_eqUnitS l l = some true := by
 have hl := h
 unfold Dw_eqUnitS
 rw [if_pos rfl]
 refine true_loop (B := Bw_eqUnitS) (S := fun i => .h1 l l (i : Int)) (n := l.length) (fun i hi => ?_) ?_
 ·have hx : l[i]? = some l[i] := List.getElem?_eq_getElem hi
  generalize l[i] = x at hx
  simp only [Bw_eqUnitS, ltc hi, nnc, if_true, Int.toNat_natCast, hx, Option.bind_some, wsucc (show i < 9223372036854775807 by omega), eq_Unit x]
 ·simp only [Bw_eqUnitS, nltc, if_false]
def Wf_State (x : Gw_State) : Prop := x.Units.length < 9223372036854775808
def Sz_State (x : Gw_State) : Prop := x.Units.length ≤ 1048576
def Si_State (x : Gi_State) : Prop := x.Units.length ≤ 1048576
def cv_State (x : Gw_State) : Gi_State := ⟨x.Turn, x.Weather, (x.Units.map cv_Unit)⟩
theorem szi_State {x : Gw_State} (h : Sz_State x) : Si_State (cv_State x) := (le_map h)
theorem sz_State {x : Gw_State} (hw : Wf_State x) {left : Int} (hl : 0 ≤ left ∧ left ≤ 1048576) : Ok (Dw_szState x left) fun r => r < 0 ∨ (0 ≤ r ∧ r ≤ left) ∧ Sz_State x := by
 unfold Dw_szState
 refine Ok.bind (sz_UnitS hw (left := left) hl) fun r0 h0 => Ok.ite (fun _ => Ok.ret (.inl (by decide))) fun c0 => ?_
 replace h0 := h0.resolve_left c0
 exact Ok.ret (.inr ⟨⟨by omega, by omega⟩, h0.2⟩)
theorem to_State {x : Gw_State} (h : Sz_State x) : Dw_toState x = some (cv_State x) := by
 unfold Dw_toState cv_State
 simp only [to_UnitS h, Option.bind_some]
theorem eq_State {x : Gi_State} (h : Si_State x) : Dw_eqState x x = some true := by
 unfold Dw_eqState
 simp [eq_UnitS h]
def cv_Goal (x : Gw_Goal) : Gi_Goal := ⟨x.At, x.Points⟩
theorem to_Goal (x : Gw_Goal) : Dw_toGoal x = some (cv_Goal x) := by
 unfold Dw_toGoal cv_Goal
 rfl
theorem eq_Goal (x : Gi_Goal) : Dw_eqGoal x x = some true := by
 unfold Dw_eqGoal
 simp
theorem sz_GoalS {l : (List Gw_Goal)} (hw : l.length < 9223372036854775808) {left : Int} (hl : 0 ≤ left ∧ left ≤ 1048576) : Ok (Dw_szGoalS l left) fun r => r < 0 ∨ (0 ≤ r ∧ r ≤ left) ∧ l.length ≤ 1048576 := by
 unfold Dw_szGoalS
 rw [w64 (by omega)]
 exact Ok.ite (fun _ => Ok.ret (.inl (by decide))) fun c => Ok.ret (.inr ⟨⟨by omega, by omega⟩, by omega⟩)
theorem to_GoalS {l : (List Gw_Goal)} (h : l.length ≤ 1048576) : Dw_toGoalS l = some (l.map cv_Goal) := by
 have hl := h
 unfold Dw_toGoalS
 rw [Int.toNat_natCast, if_pos (by omega)]
 have := fill_loop (B := Bw_toGoalS) (S := fun i out => .h1 l (i : Int) out) (l := l) (g := cv_Goal) (fun i x y out hx hi hy => by
  simp only [Bw_toGoalS, ltc hi, nnc, if_true, Int.toNat_natCast, hx, hy, Option.bind_some, to_Goal x, wsucc (show i < 9223372036854775807 by omega), id]) (fun out => by
  simp only [Bw_toGoalS, nltc, if_false]) (Gi_Goal.mk 0 0)
 exact this
theorem eq_GoalS {l : (List Gi_Goal)} (h : l.length ≤ 1048576) : Dw_eqGoalS l l = some true := by
 have hl := h
 unfold Dw_eqGoalS
 rw [if_pos rfl]
 refine true_loop (B := Bw_eqGoalS) (S := fun i => .h1 l l (i : Int)) (n := l.length) (fun i hi => ?_) ?_
 ·have hx : l[i]? = some l[i] := List.getElem?_eq_getElem hi
  generalize l[i] = x at hx
  simp only [Bw_eqGoalS, ltc hi, nnc, if_true, Int.toNat_natCast, hx, Option.bind_some, wsucc (show i < 9223372036854775807 by omega), eq_Goal x]
 ·simp only [Bw_eqGoalS, nltc, if_false]
def Wf_Conditions (x : Gw_Conditions) : Prop := x.Goals.length < 9223372036854775808
def Sz_Conditions (x : Gw_Conditions) : Prop := x.Goals.length ≤ 1048576
def Si_Conditions (x : Gi_Conditions) : Prop := x.Goals.length ≤ 1048576
def cv_Conditions (x : Gw_Conditions) : Gi_Conditions := ⟨(x.Goals.map cv_Goal), x.Step, x.Margin⟩
theorem szi_Conditions {x : Gw_Conditions} (h : Sz_Conditions x) : Si_Conditions (cv_Conditions x) := (le_map h)
theorem sz_Conditions {x : Gw_Conditions} (hw : Wf_Conditions x) {left : Int} (hl : 0 ≤ left ∧ left ≤ 1048576) : Ok (Dw_szConditions x left) fun r => r < 0 ∨ (0 ≤ r ∧ r ≤ left) ∧ Sz_Conditions x := by
 unfold Dw_szConditions
 refine Ok.bind (sz_GoalS hw (left := left) hl) fun r0 h0 => Ok.ite (fun _ => Ok.ret (.inl (by decide))) fun c0 => ?_
 replace h0 := h0.resolve_left c0
 exact Ok.ret (.inr ⟨⟨by omega, by omega⟩, h0.2⟩)
theorem to_Conditions {x : Gw_Conditions} (h : Sz_Conditions x) : Dw_toConditions x = some (cv_Conditions x) := by
 unfold Dw_toConditions cv_Conditions
 simp only [to_GoalS h, Option.bind_some]
theorem eq_Conditions {x : Gi_Conditions} (h : Si_Conditions x) : Dw_eqConditions x x = some true := by
 unfold Dw_eqConditions
 simp [eq_GoalS h]
def Wf_Scenario (x : Gw_Scenario) : Prop := x.Name.size < 9223372036854775808 ∧ Wf_Board x.Board ∧ Wf_CombatTable x.Table ∧ Wf_State x.Start ∧ Wf_Conditions x.Conditions ∧ x.First.length < 9223372036854775808 ∧ x.Other.length < 9223372036854775808
def Sz_Scenario (x : Gw_Scenario) : Prop := x.Name.size ≤ 1048576 ∧ Sz_Board x.Board ∧ Sz_CombatTable x.Table ∧ Sz_State x.Start ∧ Sz_Conditions x.Conditions ∧ x.First.length ≤ 1048576 ∧ x.Other.length ≤ 1048576
def Si_Scenario (x : Gi_Scenario) : Prop := x.Name.size ≤ 1048576 ∧ Si_Board x.Board ∧ Si_CombatTable x.Table ∧ Si_State x.Start ∧ Si_Conditions x.Conditions ∧ x.First.length ≤ 1048576 ∧ x.Other.length ≤ 1048576
def cv_Scenario (x : Gw_Scenario) : Gi_Scenario := ⟨x.Name, (cv_Board x.Board), (cv_CombatTable x.Table), (cv_State x.Start), (cv_Conditions x.Conditions), x.First, x.Other⟩
theorem szi_Scenario {x : Gw_Scenario} (h : Sz_Scenario x) : Si_Scenario (cv_Scenario x) := ⟨h.1, szi_Board h.2.1, szi_CombatTable h.2.2.1, szi_State h.2.2.2.1, szi_Conditions h.2.2.2.2.1, h.2.2.2.2.2.1, h.2.2.2.2.2.2⟩
theorem sz_Scenario {x : Gw_Scenario} (hw : Wf_Scenario x) {left : Int} (hl : 0 ≤ left ∧ left ≤ 1048576) : Ok (Dw_szScenario x left) fun r => r < 0 ∨ (0 ≤ r ∧ r ≤ left) ∧ Sz_Scenario x := by
 unfold Dw_szScenario
 have b0 : x.Name.size < 9223372036854775808 := hw.1
 rw [w64 (n := left - ((ByteArray.size x.Name : Nat) : Int)) (by omega)]
 refine Ok.ite (fun _ => Ok.ret (.inl (by decide))) fun c0 => ?_
 refine Ok.bind (sz_Board hw.2.1 (left := (left - ((ByteArray.size x.Name : Nat) : Int))) ⟨by omega, by omega⟩) fun r1 h1 => Ok.ite (fun _ => Ok.ret (.inl (by decide))) fun c1 => ?_
 replace h1 := h1.resolve_left c1
 refine Ok.bind (sz_CombatTable hw.2.2.1 (left := r1) ⟨h1.1.1, by omega⟩) fun r2 h2 => Ok.ite (fun _ => Ok.ret (.inl (by decide))) fun c2 => ?_
 replace h2 := h2.resolve_left c2
 refine Ok.bind (sz_State hw.2.2.2.1 (left := r2) ⟨h2.1.1, by omega⟩) fun r3 h3 => Ok.ite (fun _ => Ok.ret (.inl (by decide))) fun c3 => ?_
 replace h3 := h3.resolve_left c3
 refine Ok.bind (sz_Conditions hw.2.2.2.2.1 (left := r3) ⟨h3.1.1, by omega⟩) fun r4 h4 => Ok.ite (fun _ => Ok.ret (.inl (by decide))) fun c4 => ?_
 replace h4 := h4.resolve_left c4
 refine Ok.bind (sz_IntS hw.2.2.2.2.2.1 (left := r4) ⟨h4.1.1, by omega⟩) fun r5 h5 => Ok.ite (fun _ => Ok.ret (.inl (by decide))) fun c5 => ?_
 replace h5 := h5.resolve_left c5
 refine Ok.bind (sz_IntS hw.2.2.2.2.2.2 (left := r5) ⟨h5.1.1, by omega⟩) fun r6 h6 => Ok.ite (fun _ => Ok.ret (.inl (by decide))) fun c6 => ?_
 replace h6 := h6.resolve_left c6
 exact Ok.ret (.inr ⟨⟨by omega, by omega⟩, ⟨(show x.Name.size ≤ 1048576 by omega), h1.2, h2.2, h3.2, h4.2, h5.2, h6.2⟩⟩)
theorem to_Scenario {x : Gw_Scenario} (h : Sz_Scenario x) : Dw_toScenario x = some (cv_Scenario x) := by
 unfold Dw_toScenario cv_Scenario
 simp only [to_Board h.2.1, to_CombatTable h.2.2.1, to_State h.2.2.2.1, to_Conditions h.2.2.2.2.1, to_IntS h.2.2.2.2.2.1, to_IntS h.2.2.2.2.2.2, Option.bind_some]
theorem eq_Scenario {x : Gi_Scenario} (h : Si_Scenario x) : Dw_eqScenario x x = some true := by
 unfold Dw_eqScenario
 simp [eq_Board h.2.1, eq_CombatTable h.2.2.1, eq_State h.2.2.2.1, eq_Conditions h.2.2.2.2.1, eq_IntS h.2.2.2.2.2.1, eq_IntS h.2.2.2.2.2.2]

def unOk (b : Gi_Board) (u : Gi_Unit) : Bool := kIn u.Side 0 1 && kIn u.Kind 0 (b.Rules.Kinds.length - 1) && match b.Rules.Kinds[u.Kind.toNat]? with
 | some x => kIn u.Steps 0 x.Steps && (decide (u.At = -1) || (decide (u.Steps > 0) && kIn u.At 0 (b.Map.Terrain.length - 1) && decide (bdC b u.Kind u.At ≠ 0)))
 | none => false
theorem unOk_i {b : Gi_Board} (h : BdOk b) (u : Gi_Unit) : Di_goodUnit b u = some (unOk b u) := by
 have hk := h.r.k
 have hn := h.n2
 unfold Di_goodUnit unOk Di_isSide
 simp only [kin_i, Option.bind_some, isIndex_i (x := u.Kind) (n := (b.Rules.Kinds.length : Int)) (by omega)]
 cases c1 : kIn u.Side 0 1 with
 | false => simp
 | true =>
  cases c2 : kIn u.Kind 0 (b.Rules.Kinds.length - 1) with
  | false => simp
  | true =>
   have hkd := kIn_iff.1 c2
   have hx : b.Rules.Kinds[u.Kind.toNat]? = some b.Rules.Kinds[u.Kind.toNat] := List.getElem?_eq_getElem (by omega)
   simp only [if_true, hkd.1, hx, Option.bind_some, Bool.true_and]
   cases c3 : kIn u.Steps 0 b.Rules.Kinds[u.Kind.toNat].Steps with
   | false => simp
   | true =>
    simp only [if_true, Di_sizeOf, Option.bind_some, Bool.true_and, isIndex_i (x := u.At) (n := (b.Map.Terrain.length : Int)) (by omega)]
    by_cases c4 : u.At = -1
    ·simp [c4]
    ·by_cases c5 : u.Steps > 0
     ·cases c6 : kIn u.At 0 (b.Map.Terrain.length - 1) with
      | false => simp [c4]
      | true =>
       have ha := kIn_iff.1 c6
       rw [(bdC_b h (k := u.Kind) (i := u.At) (by omega) (by omega)).1]
       by_cases c7 : bdC b u.Kind u.At = 0 <;> simp [c4, c5, c7]
     ·simp [c4, c5]
theorem unOk_s {b : Gi_Board} (h : BdOk b) (u : Gi_Unit) : Ds_sUnit b u = some (unOk b u) := by
 have hk := h.r.k
 have hn := h.n2
 unfold Ds_sUnit unOk
 simp only [kin_s, Option.bind_some, w64 (n := (b.Rules.Kinds.length : Int) - 1) (by omega)]
 cases c1 : kIn u.Side 0 1 with
 | false => simp
 | true =>
  cases c2 : kIn u.Kind 0 (b.Rules.Kinds.length - 1) with
  | false => simp
  | true =>
   have hkd := kIn_iff.1 c2
   have hx : b.Rules.Kinds[u.Kind.toNat]? = some b.Rules.Kinds[u.Kind.toNat] := List.getElem?_eq_getElem (by omega)
   simp only [if_true, hkd.1, hx, Option.bind_some, Bool.true_and]
   cases c3 : kIn u.Steps 0 b.Rules.Kinds[u.Kind.toNat].Steps with
   | false => simp
   | true =>
    rw [mSize_s h.d (by decide), ← h.n]
    simp only [if_true, Option.bind_some, Bool.true_and, w64 (n := (b.Map.Terrain.length : Int) - 1) (by omega)]
    by_cases c4 : u.At = -1
    ·simp [c4]
    ·by_cases c5 : u.Steps > 0
     ·cases c6 : kIn u.At 0 (b.Map.Terrain.length - 1) with
      | false => simp [c4]
      | true =>
       have ha := kIn_iff.1 c6
       obtain ⟨_, e, h0, _⟩ := bdC_b h (k := u.Kind) (i := u.At) (by omega) (by omega)
       rw [e]
       have : decide (bdC b u.Kind u.At > 0) = decide (bdC b u.Kind u.At ≠ 0) := by
        rw [decide_eq_decide]; omega
       simp only [if_pos c5, if_neg c4, if_true, Option.bind_some, this]
       simp [c4, c5]
     ·simp [c4, c5]
structure UnOk (b : Gi_Board) (u : Gi_Unit) : Prop where
 s : u.Side = 0 ∨ u.Side = 1
 k : 0 ≤ u.Kind ∧ u.Kind < b.Rules.Kinds.length
 st : 0 ≤ u.Steps ∧ u.Steps ≤ 4
 a : u.At = -1 ∨ 0 < u.Steps ∧ 0 ≤ u.At ∧ u.At < b.Map.Terrain.length ∧ bdC b u.Kind u.At ≠ 0
theorem unOk_ok {b : Gi_Board} (h : BdOk b) {u : Gi_Unit} (hu : unOk b u = true) : UnOk b u := by
 simp only [unOk, Bool.and_eq_true, kIn_iff] at hu
 obtain ⟨⟨h1, h2⟩, h3⟩ := hu
 have hx : b.Rules.Kinds[u.Kind.toNat]? = some b.Rules.Kinds[u.Kind.toNat] := List.getElem?_eq_getElem (by omega)
 have hk := h.r.ks _ (List.mem_of_getElem? hx)
 rw [hx] at h3
 simp only [Bool.and_eq_true, kIn_iff, Bool.or_eq_true, decide_eq_true_eq] at h3
 refine ⟨by omega, by omega, by omega, ?_⟩
 rcases h3.2 with e | e
 ·exact .inl e
 ·exact .inr ⟨by omega, by omega, by omega, e.2⟩

def atB (a s : Int) (u : Gi_Unit) : Bool := decide (u.At = a) && decide (u.Side = s)
def cnt (us : List Gi_Unit) (a s : Int) : Int := ((us.filter (atB a s)).length : Int)
theorem cnt_snoc (us : List Gi_Unit) (u : Gi_Unit) (a s : Int) : cnt (us ++ [u]) a s = cnt us a s + if u.At = a ∧ u.Side = s then 1 else 0 := by
 unfold cnt
 rw [List.filter_append, List.length_append]
 by_cases c : u.At = a ∧ u.Side = s
 ·rw [if_pos c]
  have : atB a s u = true := by simp [atB, c.1, c.2]
  simp [List.filter, this]
 ·rw [if_neg c]
  have : atB a s u = false := by
   simp only [atB, Bool.and_eq_false_iff, decide_eq_false_iff_not]
   by_cases d : u.At = a
   ·exact .inr fun e => c ⟨d, e⟩
   ·exact .inl d
  simp [List.filter, this]
theorem cnt_nn (us : List Gi_Unit) (a s : Int) : 0 ≤ cnt us a s ∧ cnt us a s ≤ us.length := by
 have := List.length_filter_le (atB a s) us
 unfold cnt
 omega
theorem cnt_pos {us : List Gi_Unit} {u : Gi_Unit} (h : u ∈ us) : 1 ≤ cnt us u.At u.Side := by
 have : u ∈ us.filter (atB u.At u.Side) := List.mem_filter.2 ⟨h, by simp [atB]⟩
 have := List.length_pos_of_mem this
 unfold cnt
 omega
def stP (St : Int) (us : List Gi_Unit) (u : Gi_Unit) : Bool := decide (u.At < 0) || (decide (cnt us u.At (1 - u.Side) = 0) && decide (cnt us u.At u.Side ≤ St))
theorem stP_iff {St : Int} {us : List Gi_Unit} {u : Gi_Unit} : stP St us u = true ↔ (0 ≤ u.At → cnt us u.At (1 - u.Side) = 0 ∧ cnt us u.At u.Side ≤ St) := by
 simp only [stP, Bool.or_eq_true, Bool.and_eq_true, decide_eq_true_eq]
 constructor
 ·intro h h0
  rcases h with h | h
  ·omega
  ·exact h
 ·intro h
  by_cases c : u.At < 0
  ·exact .inl c
  ·exact .inr (h (by omega))
theorem rev_ind {α : Type} {P : List α → Prop} (h0 : P []) (hs : ∀ l x, P l → P (l ++ [x])) : ∀ l, P l := by
 intro l
 have : ∀ r : List α, P r.reverse := fun r => by
  induction r with
  | nil => exact h0
  | cons x r ih => rw [List.reverse_cons]; exact hs _ _ ih
 simpa using this l.reverse
theorem stP_all {St : Int} : ∀ us : List Gi_Unit, (∀ i u, us[i]? = some u → stP St (us.take (i + 1)) u = true) ↔ ∀ u ∈ us, stP St us u = true := by
 refine rev_ind (by simp) fun us v ih => ?_
 have tk : ∀ i, i < us.length → (us ++ [v]).take (i + 1) = us.take (i + 1) := fun i hi => List.take_append_of_le_length (by omega)
 have tn : (us ++ [v]).take (us.length + 1) = us ++ [v] := List.take_of_length_le (by simp)
 constructor
 ·intro h
  have h1 := ih.1 fun i u hu => by
   have hi : i < us.length := (List.getElem?_eq_some_iff.1 hu).1
   have := h i u (by rw [List.getElem?_append_left hi]; exact hu)
   rwa [tk i hi] at this
  have h2 := h us.length v (by simp)
  rw [tn] at h2
  have h2' := stP_iff.1 h2
  intro u hu
  rcases List.mem_append.1 hu with hu | hu
  ·refine stP_iff.2 fun h0 => ?_
   obtain ⟨e1, e2⟩ := stP_iff.1 (h1 u hu) h0
   rw [cnt_snoc, cnt_snoc]
   constructor
   ·by_cases c : v.At = u.At ∧ v.Side = 1 - u.Side
    ·have h3 := (h2' (by omega)).1
     rw [cnt_snoc] at h3
     have h4 := cnt_pos hu
     rw [c.1, show 1 - v.Side = u.Side by omega] at h3
     split at h3 <;> omega
    ·rw [if_neg c]; omega
   ·by_cases c : v.At = u.At ∧ v.Side = u.Side
    ·have h3 := (h2' (by omega)).2
     rw [cnt_snoc, c.1, c.2] at h3
     rw [if_pos c]
     simpa using h3
    ·rw [if_neg c]; omega
  ·rw [List.mem_singleton.1 hu]; exact h2
 ·intro h
  have h1 : ∀ u ∈ us, stP St us u = true := fun u hu => stP_iff.2 fun h0 => by
   obtain ⟨e1, e2⟩ := stP_iff.1 (h u (List.mem_append_left _ hu)) h0
   have a1 := cnt_nn us u.At (1 - u.Side)
   rw [cnt_snoc] at e1 e2
   split at e1 <;> split at e2 <;> omega
  intro i u hu
  by_cases hi : i < us.length
  ·rw [tk i hi]
   rw [List.getElem?_append_left hi] at hu
   exact ih.2 h1 i u hu
  ·have : i = us.length := by
    have := (List.getElem?_eq_some_iff.1 hu).1
    simp at this
    omega
   subst this
   rw [tn]
   simp only [List.getElem?_append_right (Nat.le_refl _), Nat.sub_self, List.getElem?_cons_zero, Option.some.injEq] at hu
   subst hu
   exact h _ (List.mem_append_right _ (List.mem_singleton.2 rfl))
def stG (b : Gi_Board) (s : Gi_State) : Bool := kIn s.Turn 0 b.Rules.Turns && kIn s.Weather 0 2 && decide (s.Units.length ≤ 12) && s.Units.all (unOk b) && s.Units.all (stP b.Rules.Stack s.Units)
def cntL (us : List Gi_Unit) (n : Nat) : List GA2I := (List.range n).map fun (a : Nat) => ⟨cnt us a 0, cnt us a 1⟩
theorem cntL_get {us : List Gi_Unit} {n : Nat} {a : Int} (h : 0 ≤ a ∧ a < n) : (cntL us n)[a.toNat]? = some ⟨cnt us a 0, cnt us a 1⟩ := by
 unfold cntL
 rw [List.getElem?_map, List.getElem?_range (by omega)]
 simp only [Option.map_some]
 rw [show ((a.toNat : Nat) : Int) = a by omega]
theorem cntL_off {us : List Gi_Unit} {n : Nat} {u : Gi_Unit} (h : u.At < 0) : cntL (us ++ [u]) n = cntL us n := by
 unfold cntL
 refine List.map_congr_left fun a _ => ?_
 rw [cnt_snoc, cnt_snoc, if_neg (by omega), if_neg (by omega), Int.add_zero, Int.add_zero]
theorem cntL_set {us : List Gi_Unit} {n : Nat} {u : Gi_Unit} (h : 0 ≤ u.At ∧ u.At < n) : List.set (cntL us n) u.At.toNat ⟨cnt (us ++ [u]) u.At 0, cnt (us ++ [u]) u.At 1⟩ = cntL (us ++ [u]) n := by
 refine List.ext_getElem? fun i => ?_
 have hl : (cntL us n).length = n := by simp [cntL]
 rw [List.getElem?_set]
 by_cases e : u.At.toNat = i
 ·subst e
  rw [if_pos rfl, if_pos (by omega), cntL_get h]
 ·rw [if_neg e]
  by_cases hi : i < n
  ·have h1 := cntL_get (us := us) (n := n) (a := (i : Int)) (by omega)
   have h2 := cntL_get (us := us ++ [u]) (n := n) (a := (i : Int)) (by omega)
   rw [Int.toNat_natCast] at h1 h2
   rw [h1, h2, cnt_snoc, cnt_snoc, if_neg (by omega), if_neg (by omega), Int.add_zero, Int.add_zero]
  ·rw [List.getElem?_eq_none (by omega), List.getElem?_eq_none (by simp [cntL]; omega)]
theorem state_i {b : Gi_Board} (h : BdOk b) (s : Gi_State) : Di_goodState b s = some (stG b s) := by
 have hn := h.n2
 have hst := h.r.e.1
 unfold Di_goodState stG
 simp only [kin_i, Option.bind_some]
 cases c1 : kIn s.Turn 0 b.Rules.Turns with
 | false => simp
 | true =>
  cases c2 : kIn s.Weather 0 2 with
  | false => simp
  | true =>
   by_cases c3 : s.Units.length ≤ 12
   ·simp only [if_true, Di_sizeOf, Option.bind_some, Bool.true_and, c3, decide_true, Int.toNat_natCast]
    rw [if_neg (by omega), if_pos (by omega), if_pos (by omega)]
    have key := all_goL (L := loop Bi_goodState) (S := fun i => .h1 s.Units (s.Units.length : Int) (i : Int) b (cntL (s.Units.take i) b.Map.Terrain.length)) (l := s.Units) (q := fun i u => unOk b u && stP b.Rules.Stack (s.Units.take (i + 1)) u) (f := false) (r := some true) (fun i u hu hi _ => by
      rw [loop_eq]
      have ht : s.Units.take (i + 1) = s.Units.take i ++ [u] := by rw [List.take_add_one, hu]; rfl
      simp only [Bi_goodState, ltc hi, nnc, if_true, Int.toNat_natCast, hu, Option.bind_some, unOk_i h, wsucc (show i < 9223372036854775807 by omega)]
      cases c4 : unOk b u with
      | false => simp [goOn]
      | true =>
       have hok := unOk_ok h c4
       simp only [if_true, Bool.true_and]
       by_cases c5 : u.At < 0
       ·have : stP b.Rules.Stack (s.Units.take (i + 1)) u = true := stP_iff.2 fun h0 => by omega
        rw [if_pos c5, this, ht, cntL_off c5]
        simp [goOn]
       ·have ha : 0 ≤ u.At ∧ u.At < b.Map.Terrain.length := by have := hok.a; omega
        have g1 := cntL_get (us := s.Units.take i) ha
        have sn := cntL_set (us := s.Units.take i) ha
        have g2 := cntL_get (us := s.Units.take i ++ [u]) ha
        have nn0 := cnt_nn (s.Units.take i) u.At 0
        have nn1 := cnt_nn (s.Units.take i) u.At 1
        have tl : (s.Units.take i).length ≤ 12 := by simp; omega
        have hP : stP b.Rules.Stack (s.Units.take (i + 1)) u = (decide (cnt (s.Units.take i ++ [u]) u.At (1 - u.Side) = 0) && decide (cnt (s.Units.take i ++ [u]) u.At u.Side ≤ b.Rules.Stack)) := by
         rw [ht]; simp [stP, c5]
        have s0 := cnt_snoc (s.Units.take i) u u.At 0
        have s1 := cnt_snoc (s.Units.take i) u u.At 1
        have nnn0 := cnt_nn (s.Units.take i ++ [u]) u.At 0
        have nnn1 := cnt_nn (s.Units.take i ++ [u]) u.At 1
        rw [if_neg c5, hP, ht]
        simp only [ha.1, if_true, g1, Option.bind_some]
        rcases hok.s with e | e
        ·have e1 : u.At = u.At ∧ u.Side = 0 := ⟨rfl, e⟩
         have e2 : ¬ (u.At = u.At ∧ u.Side = 1) := by omega
         rw [if_pos e1] at s0
         rw [if_neg e2, Int.add_zero] at s1
         rw [e, if_pos rfl, w64 (n := cnt (s.Units.take i) u.At 0 + 1) (by omega), ← s0, ← s1, sn]
         simp only [show IntKind.wrap .i64 (1 - 0) = 1 from by decide, show IntKind.wrap .i64 1 = 1 from by decide, g2, Option.bind_some, show ((1 : Int) = 0) = False by simp, if_false, if_true, show (1 : Int) - 0 = 1 from rfl]
         by_cases c6 : cnt (s.Units.take i ++ [u]) u.At 1 > 0
         ·rw [if_pos c6, decide_eq_false (by omega)]; simp [goOn]
         ·rw [if_neg c6, decide_eq_true (by omega)]
          by_cases c7 : cnt (s.Units.take i ++ [u]) u.At 0 > b.Rules.Stack
          ·rw [if_pos c7, decide_eq_false (by omega)]; simp [goOn]
          ·rw [if_neg c7, decide_eq_true (by omega)]; simp [goOn]
        ·have e1 : u.At = u.At ∧ u.Side = 1 := ⟨rfl, e⟩
         have e2 : ¬ (u.At = u.At ∧ u.Side = 0) := by omega
         rw [if_pos e1] at s1
         rw [if_neg e2, Int.add_zero] at s0
         rw [e, if_neg (by decide), if_pos rfl, w64 (n := cnt (s.Units.take i) u.At 1 + 1) (by omega), ← s0, ← s1, sn]
         simp only [show IntKind.wrap .i64 (1 - 1) = 0 from by decide, show IntKind.wrap .i64 0 = 0 from by decide, g2, Option.bind_some, if_true, show (1 : Int) - 1 = 0 from rfl]
         by_cases c6 : cnt (s.Units.take i ++ [u]) u.At 0 > 0
         ·rw [if_pos c6, decide_eq_false (by omega)]; simp [goOn]
         ·rw [if_neg c6, decide_eq_true (by omega)]
          by_cases c7 : cnt (s.Units.take i ++ [u]) u.At 1 > b.Rules.Stack
          ·rw [if_pos c7, decide_eq_false (by omega)]; simp [goOn]
          ·rw [if_neg c7, decide_eq_true (by omega)]; simp [goOn]) fun _ => by
      rw [loop_eq]
      simp only [Bi_goodState, nltc, if_false, goOn]
    have e0 : List.replicate b.Map.Terrain.length (GA2I.mk 0 0) = cntL (s.Units.take 0) b.Map.Terrain.length := by
     refine List.ext_getElem (by simp [cntL]) fun i h1 h2 => ?_
     simp [cntL, cnt]
    rw [e0]
    refine key.trans ?_
    rw [ifB, Option.some.injEq, Bool.eq_iff_iff, alli_iff, Bool.and_eq_true, List.all_eq_true, List.all_eq_true]
    constructor
    ·intro k
     refine ⟨fun u hu => ?_, (stP_all _).1 fun i u hu => ?_⟩
     ·obtain ⟨i, hi⟩ := List.getElem?_of_mem hu
      have := k i u hi
      simp only [Bool.and_eq_true] at this
      exact this.1
     ·have := k i u hu
      simp only [Bool.and_eq_true] at this
      exact this.2
    ·rintro ⟨k1, k2⟩ i u hu
     rw [Bool.and_eq_true]
     exact ⟨k1 u (List.mem_of_getElem? hu), (stP_all _).2 k2 i u hu⟩
   ·rw [if_pos rfl, if_pos rfl, if_pos (by omega)]
    simp [c3]

def satL (us : List Gi_Unit) (a s : Int) : List Int := (List.range us.length).filterMap fun (i : Nat) => match us[i]? with
 | some u => if u.At = a ∧ u.Side = s then some (i : Int) else none
 | none => none
theorem sat_s {s : Gi_State} (h : s.Units.length ≤ 1000) (a side : Int) : Ds_sAt s a side = some (satL s.Units a side) := by
 unfold Ds_sAt satL
 refine fm_goL (L := loop Bs_sAt) (S := fun i acc => .h1 a side s.Units (s.Units.length : Int) (i : Int) acc) (r := some) (fun i acc hi ha => ?_) fun acc ha => ?_
 ·have hx : s.Units[i]? = some s.Units[i] := List.getElem?_eq_getElem hi
  rw [loop_eq]
  simp only [Bs_sAt, ltc hi, nnc, if_true, Int.toNat_natCast, hx, Option.bind_some, if8 (show acc.length ≤ 3000000 by omega), wsucc (show i < 9223372036854775807 by omega)]
  by_cases c1 : s.Units[i].At = a
  ·by_cases c2 : s.Units[i].Side = side
   ·simp [c1, c2, goOn]
   ·simp [c1, c2, goOn]
  ·simp [c1, goOn]
 ·rw [loop_eq]
  simp only [Bs_sAt, nltc, if_false, goOn]
theorem fm_congr {α β : Type} {f g : α → Option β} : ∀ {l : List α}, (∀ x ∈ l, f x = g x) → l.filterMap f = l.filterMap g
 | [], _ => rfl
 | x :: l, h => by
  rw [List.filterMap_cons, List.filterMap_cons, h x (List.mem_cons_self ..), fm_congr fun y hy => h y (List.mem_cons_of_mem _ hy)]
theorem satL_len (us : List Gi_Unit) (a s : Int) : ((satL us a s).length : Int) = cnt us a s := by
 refine rev_ind (P := fun us => ((satL us a s).length : Int) = cnt us a s) rfl (fun us u ih => ?_) us
 rw [cnt_snoc, ← ih]
 unfold satL
 rw [List.length_append, List.length_singleton, List.range_succ, List.filterMap_append]
 have e : (List.range us.length).filterMap (fun (i : Nat) => match (us ++ [u])[i]? with | some u => if u.At = a ∧ u.Side = s then some (i : Int) else none | none => none) = (List.range us.length).filterMap (fun (i : Nat) => match us[i]? with | some u => if u.At = a ∧ u.Side = s then some (i : Int) else none | none => none) := by
  refine fm_congr fun i hi => ?_
  rw [List.mem_range] at hi
  rw [List.getElem?_append_left hi]
 rw [e, List.length_append]
 have e2 : (us ++ [u])[us.length]? = some u := by simp
 by_cases c : u.At = a ∧ u.Side = s
 ·simp [List.filterMap, e2, c]
 ·rw [if_neg c]
  simp only [List.filterMap, e2, if_neg c]
  simp
theorem stateLoop_s {b : Gi_Board} (h : BdOk b) {s : Gi_State} (hl : s.Units.length ≤ 12) (hu : ∀ u ∈ s.Units, unOk b u = true) : loop Bs_sGood (.h2 s.Units (s.Units.length : Int) 0 b s) = some (s.Units.all (stP b.Rules.Stack s.Units)) := by
 have key := all_goL (L := loop Bs_sGood) (S := fun i => .h2 s.Units (s.Units.length : Int) (i : Int) b s) (l := s.Units) (q := fun _ u => stP b.Rules.Stack s.Units u) (f := false) (r := some true) (fun i u hx hi _ => by
   have ho := unOk_ok h (hu u (List.mem_of_getElem? hx))
   have e1 := satL_len s.Units u.At (1 - u.Side)
   have e2 := satL_len s.Units u.At u.Side
   have n1 := cnt_nn s.Units u.At (1 - u.Side)
   rw [loop_eq]
   simp only [Bs_sGood, ltc hi, nnc, if_true, Int.toNat_natCast, hx, Option.bind_some, wsucc (show i < 9223372036854775807 by omega), sat_s (show s.Units.length ≤ 1000 by omega), w64 (show -9223372036854775808 ≤ 1 - u.Side ∧ 1 - u.Side ≤ 9223372036854775807 by have := ho.s; omega), e1, e2]
   by_cases c : u.At ≥ 0
   ·rw [if_pos c]
    by_cases c1 : cnt s.Units u.At (1 - u.Side) > 0
    ·rw [if_pos c1, if_neg (by rw [stP_iff]; intro k; have := (k c).1; omega)]; rfl
    ·rw [if_neg c1]
     by_cases c2 : cnt s.Units u.At u.Side > b.Rules.Stack
     ·rw [if_pos c2, if_neg (by rw [stP_iff]; intro k; have := (k c).2; omega)]; rfl
     ·rw [if_neg c2, if_pos (stP_iff.2 fun _ => ⟨by omega, by omega⟩)]; rfl
   ·rw [if_neg c, if_pos (stP_iff.2 fun k => absurd k c)]; rfl) fun _ => by
   rw [loop_eq]
   simp only [Bs_sGood, nltc, if_false, goOn]
 refine key.trans ?_
 rw [ifB, Option.some.injEq, Bool.eq_iff_iff, alli_iff, List.all_eq_true]
 constructor
 ·intro k u hu
  obtain ⟨i, hi⟩ := List.getElem?_of_mem hu
  exact k i u hi
 ·intro k i u hi
  exact k u (List.mem_of_getElem? hi)
theorem state_s {b : Gi_Board} (h : BdLen b) (s : Gi_State) : Ds_sGood b s = some (bdG b && stG b s) := by
 unfold Ds_sGood stG
 rw [isBoard_s h]
 cases c0 : bdG b with
 | false => simp
 | true =>
  have ho := bdG_ok c0
  simp only [kin_s, Option.bind_some, if_true, Bool.true_and]
  cases c1 : kIn s.Turn 0 b.Rules.Turns with
  | false => simp
  | true =>
   cases c2 : kIn s.Weather 0 2 with
   | false => simp
   | true =>
    by_cases c3 : s.Units.length ≤ 12
    ·simp only [if_true, Bool.true_and, c3, decide_true]
     rw [if_neg (by omega)]
     have key := all_goL (L := loop Bs_sGood) (S := fun i => .h1 s.Units (s.Units.length : Int) (i : Int) b s) (l := s.Units) (q := fun _ u => unOk b u) (f := false) (r := some (s.Units.all (stP b.Rules.Stack s.Units))) (fun i u hx hi _ => by
       rw [loop_eq]
       simp only [Bs_sGood, ltc hi, nnc, if_true, Int.toNat_natCast, hx, Option.bind_some, unOk_s ho, wsucc (show i < 9223372036854775807 by omega)]
       cases unOk b u <;> simp [goOn]) fun hall => by
       rw [loop_eq]
       simp only [Bs_sGood, nltc, if_false, goOn]
       exact stateLoop_s ho c3 fun u hu => by
        obtain ⟨i, hi⟩ := List.getElem?_of_mem hu
        exact hall i u hi
     refine key.trans ?_
     have e : alli (fun _ u => unOk b u) s.Units = s.Units.all (unOk b) := by
      rw [Bool.eq_iff_iff, alli_iff, List.all_eq_true]
      constructor
      ·intro k u hu
       obtain ⟨i, hi⟩ := List.getElem?_of_mem hu
       exact k i u hi
      ·intro k i u hi
       exact k u (List.mem_of_getElem? hi)
     rw [e]
     cases s.Units.all (unOk b) <;> simp
    ·simp only [if_true, Bool.true_and, c3, decide_false, Bool.false_and]
     rw [if_pos (by omega)]
def glP (b : Gi_Board) (gs : List Gi_Goal) (i : Nat) (g : Gi_Goal) : Bool := kIn g.At 0 (b.Map.Terrain.length - 1) && kIn g.Points 1 20 && (decide (i = 0) || match gs[i - 1]? with
 | some p => decide (p.At < g.At)
 | none => false)
def cdG (b : Gi_Board) (x : Gi_Conditions) : Bool := decide (x.Goals.length ≤ 12) && kIn x.Step 0 9 && kIn x.Margin 0 200 && alli (glP b x.Goals) x.Goals
theorem conds_i {b : Gi_Board} (h : BdOk b) (x : Gi_Conditions) : Di_goodConditions b x = some (cdG b x) := by
 have hn := h.n2
 unfold Di_goodConditions cdG
 by_cases c0 : x.Goals.length ≤ 12
 ·rw [if_neg (by omega)]
  simp only [kin_i, Option.bind_some, c0, decide_true, Bool.true_and]
  cases kIn x.Step 0 9 with
  | false => simp
  | true =>
   cases kIn x.Margin 0 200 with
   | false => simp
   | true =>
    simp only [if_true, Bool.true_and]
    rw [← ifB]
    refine all_goL (L := loop Bi_goodConditions) (S := fun i => .h1 x.Goals (x.Goals.length : Int) (i : Int) b x) (l := x.Goals) (q := glP b x.Goals) (f := false) (r := some true) (fun i g hx hi _ => ?_) fun _ => ?_
    ·rw [loop_eq]
     simp only [Bi_goodConditions, ltc hi, nnc, if_true, Int.toNat_natCast, hx, Option.bind_some, Di_sizeOf, isIndex_i (x := g.At) (n := (b.Map.Terrain.length : Int)) (by omega), kin_i, wsucc (show i < 9223372036854775807 by omega)]
     have b1 := Bool.eq_false_or_eq_true (kIn g.At 0 (b.Map.Terrain.length - 1))
     have b2 := Bool.eq_false_or_eq_true (kIn g.Points 1 20)
     rcases Nat.eq_zero_or_pos i with z | z
     ·have hq : glP b x.Goals i g = (kIn g.At 0 (b.Map.Terrain.length - 1) && kIn g.Points 1 20) := by simp [glP, z]
      rw [hq]
      subst z
      rcases b1 with b1 | b1 <;> rcases b2 with b2 | b2 <;> simp [b1, b2, goOn]
     ·have hp : x.Goals[i - 1]? = some x.Goals[i - 1] := List.getElem?_eq_getElem (by omega)
      have hq : glP b x.Goals i g = (kIn g.At 0 (b.Map.Terrain.length - 1) && kIn g.Points 1 20 && decide (x.Goals[i - 1].At < g.At)) := by simp [glP, hp, show i ≠ 0 by omega]
      rw [hq, wpred (by omega) z, Int.toNat_natCast, hp, if_pos (show (i : Int) > 0 by omega), if_pos (show (0 : Int) ≤ ((i - 1 : Nat) : Int) by omega)]
      simp only [Option.bind_some]
      by_cases c : x.Goals[i - 1].At ≥ g.At
      ·have c' : ¬ x.Goals[i - 1].At < g.At := by omega
       rcases b1 with b1 | b1 <;> rcases b2 with b2 | b2 <;> simp [b1, b2, c, c', goOn]
      ·have c' : x.Goals[i - 1].At < g.At := by omega
       rcases b1 with b1 | b1 <;> rcases b2 with b2 | b2 <;> simp [b1, b2, c, c', goOn]
    ·rw [loop_eq]
     simp only [Bi_goodConditions, nltc, if_false, goOn]
 ·rw [if_pos (by omega)]
  simp [c0]
theorem conds_s {b : Gi_Board} (h : BdLen b) (x : Gi_Conditions) : Ds_vcGood b x = some (bdG b && cdG b x) := by
 unfold Ds_vcGood cdG
 rw [isBoard_s h]
 cases cb : bdG b with
 | false => simp
 | true =>
  have ho := bdG_ok cb
  have hn := ho.n2
  simp only [Option.bind_some, if_true, Bool.true_and]
  by_cases c0 : x.Goals.length ≤ 12
  ·rw [if_neg (by omega)]
   simp only [kin_s, Option.bind_some, c0, decide_true, Bool.true_and]
   cases kIn x.Step 0 9 with
   | false => simp
   | true =>
    cases kIn x.Margin 0 200 with
    | false => simp
    | true =>
     simp only [if_true, Bool.true_and]
     rw [← ifB]
     refine all_goL (L := loop Bs_vcGood) (S := fun i => .h1 x.Goals (x.Goals.length : Int) (i : Int) b x) (l := x.Goals) (q := glP b x.Goals) (f := false) (r := some true) (fun i g hx hi _ => ?_) fun _ => ?_
     ·rw [loop_eq]
      simp only [Bs_vcGood, ltc hi, nnc, if_true, Int.toNat_natCast, hx, Option.bind_some, mSize_s ho.d (by decide), ← ho.n, w64 (show -9223372036854775808 ≤ (b.Map.Terrain.length : Int) - 1 ∧ (b.Map.Terrain.length : Int) - 1 ≤ 9223372036854775807 by omega), kin_s, wsucc (show i < 9223372036854775807 by omega)]
      have b1 := Bool.eq_false_or_eq_true (kIn g.At 0 (b.Map.Terrain.length - 1))
      have b2 := Bool.eq_false_or_eq_true (kIn g.Points 1 20)
      rcases Nat.eq_zero_or_pos i with z | z
      ·have hq : glP b x.Goals i g = (kIn g.At 0 (b.Map.Terrain.length - 1) && kIn g.Points 1 20) := by simp [glP, z]
       rw [hq]
       subst z
       rcases b1 with b1 | b1 <;> rcases b2 with b2 | b2 <;> simp [b1, b2, goOn]
      ·have hp : x.Goals[i - 1]? = some x.Goals[i - 1] := List.getElem?_eq_getElem (by omega)
       have hq : glP b x.Goals i g = (kIn g.At 0 (b.Map.Terrain.length - 1) && kIn g.Points 1 20 && decide (x.Goals[i - 1].At < g.At)) := by simp [glP, hp, show i ≠ 0 by omega]
       rw [hq, wpred (by omega) z, Int.toNat_natCast, hp, if_pos (show (i : Int) > 0 by omega), if_pos (show (0 : Int) ≤ ((i - 1 : Nat) : Int) by omega)]
       simp only [Option.bind_some]
       by_cases c : x.Goals[i - 1].At ≥ g.At
       ·have c' : ¬ x.Goals[i - 1].At < g.At := by omega
        rcases b1 with b1 | b1 <;> rcases b2 with b2 | b2 <;> simp [b1, b2, c, c', goOn]
       ·have c' : x.Goals[i - 1].At < g.At := by omega
        rcases b1 with b1 | b1 <;> rcases b2 with b2 | b2 <;> simp [b1, b2, c, c', goOn]
     ·rw [loop_eq]
      simp only [Bs_vcGood, nltc, if_false, goOn]
  ·rw [if_pos (by omega)]
   simp [c0]
def srG (b : Gi_Board) (l : List Int) : Bool := decide (l.length ≤ 6) && rising l && alli (fun _ x => kIn x 0 (b.Map.Terrain.length - 1)) l
theorem contains_src {b : Gi_Board} (h : BdOk b) {l : List Int} (hl : l.length ≤ 2000000) : Dslices_ContainsFunc_int_i_areSources_1 l b = some (!(alli (fun _ x => kIn x 0 (b.Map.Terrain.length - 1)) l)) := by
 have hn := h.n2
 rw [← ifNB]
 have := all_goL (L := fun s => (loop Bslices_IndexFunc_int_i_areSources_1 s).map fun r => decide (r ≥ 0)) (S := fun i => .h1 l b (l.length : Int) (i : Int)) (l := l) (q := fun _ x => kIn x 0 (b.Map.Terrain.length - 1)) (f := true) (r := some false) (fun i x hx hi _ => by
  rw [loop_eq]
  simp only [Bslices_IndexFunc_int_i_areSources_1, ltc hi, nnc, if_true, Int.toNat_natCast, hx, Option.bind_some, Di_areSources_1, Di_sizeOf, isIndex_i (x := x) (n := (b.Map.Terrain.length : Int)) (by omega), wsucc (show i < 9223372036854775807 by omega)]
  cases kIn x 0 (b.Map.Terrain.length - 1) <;> simp [goOn]) fun _ => by
  rw [loop_eq]
  simp only [Bslices_IndexFunc_int_i_areSources_1, nltc, if_false]
  rfl
 refine Eq.trans ?_ this
 unfold Dslices_ContainsFunc_int_i_areSources_1 Dslices_IndexFunc_int_i_areSources_1
 cases loop Bslices_IndexFunc_int_i_areSources_1 (.h1 l b (l.length : Int) 0) <;> rfl
theorem sources_i {b : Gi_Board} (h : BdOk b) (l : List Int) : Di_areSources b l = some (srG b l) := by
 unfold Di_areSources srG
 by_cases c : l.length ≤ 6
 ·rw [if_pos (by omega), increasing_i (by omega), Option.bind_some, contains_src h (by omega)]
  cases rising l <;> simp [c]
 ·rw [if_neg (by omega)]
  simp [c]
theorem rsB_iff {l : List Int} : ∀ (n i : Nat), 1 ≤ i → (rsB l n i = true ↔ ∀ j x y, i ≤ j → j < i + n → l[j - 1]? = some x → l[j]? = some y → x < y)
 | 0, i, _ => by
  simp only [rsB, true_iff]
  intro j x y h1 h2
  omega
 | n + 1, i, h => by
  rw [rsB, Bool.and_eq_true, rsB_iff n (i + 1) (by omega)]
  constructor
  ·rintro ⟨h1, h2⟩ j x y hj1 hj2 hx hy
   by_cases e : j = i
   ·subst e
    rw [hx, hy] at h1
    simpa using h1
   ·exact h2 j x y (by omega) (by omega) hx hy
  ·intro k
   refine ⟨?_, fun j x y hj1 hj2 => k j x y (by omega) (by omega)⟩
   cases hx : l[i - 1]? with
   | none => rfl
   | some x =>
    cases hy : l[i]? with
    | none => rfl
    | some y => simpa using k i x y (Nat.le_refl _) (by omega) hx hy
theorem rising_iff {l : List Int} : rising l = true ↔ ∀ j x y, 1 ≤ j → l[j - 1]? = some x → l[j]? = some y → x < y := by
 unfold rising
 rw [rsB_iff _ _ (Nat.le_refl _)]
 constructor
 ·intro k j x y h1 hx hy
  have := (List.getElem?_eq_some_iff.1 hy).1
  exact k j x y h1 (by omega) hx hy
 ·intro k j x y h1 _ hx hy
  exact k j x y h1 hx hy
theorem rise_g {l : List Int} (hl : l.length ≤ 2000000) (lo hi : Int) : Ds_l1Rising l lo hi = some (rising l && alli (fun _ x => kIn x lo hi) l) := by
 have key := all_goL (L := loop Bs_l1Rising) (S := fun i => .h1 l lo hi l (l.length : Int) (i : Int)) (l := l) (q := fun i x => kIn x lo hi && (decide (i = 0) || match l[i - 1]? with | some p => decide (p < x) | none => false)) (f := false) (r := some true) (fun i x hx hi' _ => by
   rw [loop_eq]
   simp only [Bs_l1Rising, ltc hi', nnc, if_true, Int.toNat_natCast, hx, Option.bind_some, kin_s, wsucc (show i < 9223372036854775807 by omega)]
   have b1 := Bool.eq_false_or_eq_true (kIn x lo hi)
   rcases b1 with b1 | b1
   ·rcases Nat.eq_zero_or_pos i with z | z
    ·subst z
     simp [b1, goOn]
    ·have hp : l[i - 1]? = some l[i - 1] := List.getElem?_eq_getElem (by omega)
     rw [wpred (by omega) z, Int.toNat_natCast, hp, if_pos (show (i : Int) > 0 by omega), if_pos (show (0 : Int) ≤ ((i - 1 : Nat) : Int) by omega)]
     by_cases c : l[i - 1] ≥ x
     ·have : ¬ l[i - 1] < x := by omega
      simp [b1, c, this, goOn, show i ≠ 0 by omega]
     ·have : l[i - 1] < x := by omega
      simp [b1, c, this, goOn]
   ·simp [b1, goOn]) fun _ => by
   rw [loop_eq]
   simp only [Bs_l1Rising, nltc, if_false, goOn]
 unfold Ds_l1Rising
 refine key.trans ?_
 rw [ifB, Option.some.injEq, Bool.eq_iff_iff, alli_iff, Bool.and_eq_true, rising_iff, alli_iff]
 constructor
 ·intro k
  refine ⟨fun j x y h1 hx hy => ?_, fun i x hx => ?_⟩
  ·have := k j y hy
   simp only [Bool.and_eq_true, Bool.or_eq_true, decide_eq_true_eq, hx] at this
   rcases this.2 with e | e
   ·omega
   ·exact e
  ·have := k i x hx
   simp only [Bool.and_eq_true] at this
   exact this.1
 ·rintro ⟨k1, k2⟩ i x hx
  rw [Bool.and_eq_true]
  refine ⟨k2 i x hx, ?_⟩
  rcases Nat.eq_zero_or_pos i with z | z
  ·simp [z]
  ·have hlt := (List.getElem?_eq_some_iff.1 hx).1
   have hp : l[i - 1]? = some l[i - 1] := List.getElem?_eq_getElem (by omega)
   rw [hp]
   simp [k1 i _ x z hp hx]
theorem sources_s {b : Gi_Board} (h : BdOk b) (l : List Int) : Ds_jSources b l = some (srG b l) := by
 have hn := h.n2
 unfold Ds_jSources srG
 by_cases c : l.length ≤ 6
 ·rw [if_pos (by omega), mSize_s h.d (by decide), ← h.n, Option.bind_some, w64 (by omega), rise_g (by omega)]
  simp [c]
 ·rw [if_neg (by omega)]
  simp [c]
def scF (x : Gi_Scenario) : Int := if nmB x.Name = true then (if bdG x.Board = true then (if kG x.Table = true then (if stG x.Board x.Start = true then (if cdG x.Board x.Conditions = true then (if (srG x.Board x.First && srG x.Board x.Other) = true then 0 else 6) else 5) else 4) else 3) else 2) else 1
structure ScLen (x : Gi_Scenario) : Prop where
 n : x.Name.size ≤ 2000000
 b : BdLen x.Board
theorem fault_i {x : Gi_Scenario} (h : ScLen x) : Di_ScenarioFault x = some (scF x) := by
 unfold Di_ScenarioFault scF
 rw [nm_i h.n, Option.bind_some, isBoard_i h.b]
 cases nmB x.Name with
 | false => simp
 | true =>
  cases hb : bdG x.Board with
  | false => simp
  | true =>
   have ho := bdG_ok hb
   simp only [if_true, Option.bind_some, isTable_i, state_i ho, conds_i ho, sources_i ho]
   cases kG x.Table with
   | false => simp
   | true =>
    cases stG x.Board x.Start with
    | false => simp
    | true =>
     cases cdG x.Board x.Conditions with
     | false => simp
     | true => cases srG x.Board x.First <;> cases srG x.Board x.Other <;> simp
theorem code_s {x : Gi_Scenario} (h : ScLen x) : Ds_snCode x = some (scF x) := by
 unfold Ds_snCode scF
 rw [nm_s h.n, Option.bind_some, isBoard_s h.b]
 cases nmB x.Name with
 | false => simp
 | true =>
  cases hb : bdG x.Board with
  | false => simp
  | true =>
   have ho := bdG_ok hb
   simp only [if_true, Option.bind_some, tabGood_s, state_s h.b, conds_s h.b, sources_s ho, hb, Bool.true_and]
   cases kG x.Table with
   | false => simp
   | true =>
    cases stG x.Board x.Start with
    | false => simp
    | true =>
     cases cdG x.Board x.Conditions with
     | false => simp
     | true => cases srG x.Board x.First <;> cases srG x.Board x.Other <;> simp

theorem si_ScLen {x : Gi_Scenario} (h : Si_Scenario x) : ScLen x := by
 obtain ⟨h1, ⟨h2, h3⟩, _⟩ := h
 obtain ⟨⟨a1, a2⟩, a3, a4⟩ := h2
 obtain ⟨m1, m2, m3⟩ := h3
 exact ⟨by omega, ⟨⟨by omega, fun y hy => ⟨by have := (a2 y hy).1; omega, by have := (a2 y hy).2; omega⟩, by omega, fun y hy => by have := a4 y hy; unfold Si_Kind at this; omega⟩, ⟨by omega, by omega, by omega⟩⟩⟩
theorem isSc_i {x : Gi_Scenario} (h : ScLen x) : Di_IsScenario x = some (decide (scF x = 0)) := by
 unfold Di_IsScenario
 rw [fault_i h]
 by_cases c : scF x = 0 <;> simp [c]
theorem snGood_s {x : Gi_Scenario} (h : ScLen x) : Ds_snGood x = some (decide (scF x = 0)) := by
 unfold Ds_snGood
 rw [code_s h]
 by_cases c : scF x = 0 <;> simp [c]
theorem Ok.isTrue {o : Option Bool} (h : Ok o fun r => r = true) : o = some true := by
 obtain ⟨a, e, rfl⟩ := h
 exact e
theorem Ok.is {α : Type} {o : Option α} {a : α} (h : Ok o fun r => r = a) : o = some a := by
 obtain ⟨a, e, rfl⟩ := h
 exact e
structure ScOk (x : Gi_Scenario) : Prop where
 b : bdG x.Board = true
 k : kG x.Table = true
 s : stG x.Board x.Start = true
 c : cdG x.Board x.Conditions = true
 f : srG x.Board x.First = true
 o : srG x.Board x.Other = true
theorem scF_ok {x : Gi_Scenario} (h : scF x = 0) : ScOk x := by
 unfold scF at h
 by_cases h1 : nmB x.Name = true
 ·rw [if_pos h1] at h
  by_cases hb : bdG x.Board = true
  ·rw [if_pos hb] at h
   by_cases hk : kG x.Table = true
   ·rw [if_pos hk] at h
    by_cases hs : stG x.Board x.Start = true
    ·rw [if_pos hs] at h
     by_cases hc : cdG x.Board x.Conditions = true
     ·rw [if_pos hc] at h
      by_cases hf : (srG x.Board x.First && srG x.Board x.Other) = true
      ·rw [if_pos hf] at h
       simp only [Bool.and_eq_true] at hf
       exact ⟨hb, hk, hs, hc, hf.1, hf.2⟩
      ·rw [if_neg hf] at h; omega
     ·rw [if_neg hc] at h; omega
    ·rw [if_neg hs] at h; omega
   ·rw [if_neg hk] at h; omega
  ·rw [if_neg hb] at h; omega
 ·rw [if_neg h1] at h; omega
structure StOk (b : Gi_Board) (s : Gi_State) : Prop where
 t : 0 ≤ s.Turn ∧ s.Turn ≤ b.Rules.Turns
 w : 0 ≤ s.Weather ∧ s.Weather ≤ 2
 n : s.Units.length ≤ 12
 u : ∀ u ∈ s.Units, UnOk b u
 p : ∀ u ∈ s.Units, 0 ≤ u.At → cnt s.Units u.At (1 - u.Side) = 0 ∧ cnt s.Units u.At u.Side ≤ b.Rules.Stack
theorem stG_ok {b : Gi_Board} (h : BdOk b) {s : Gi_State} (hs : stG b s = true) : StOk b s := by
 simp only [stG, Bool.and_eq_true, kIn_iff, decide_eq_true_eq, List.all_eq_true] at hs
 obtain ⟨⟨⟨⟨h1, h2⟩, h3⟩, h4⟩, h5⟩ := hs
 exact ⟨h1, h2, h3, fun u hu => unOk_ok h (h4 u hu), fun u hu => stP_iff.1 (h5 u hu)⟩
theorem ScOk.st {x : Gi_Scenario} (h : ScOk x) : StOk x.Board x.Start := stG_ok (bdG_ok h.b) h.s
def srcOf' (x : Gi_Scenario) (side : Int) : List Int := if side = 0 then x.First else x.Other
theorem ScOk.src {x : Gi_Scenario} (h : ScOk x) (side : Int) : srG x.Board (srcOf' x side) = true := by
 unfold srcOf'
 split
 ·exact h.f
 ·exact h.o
theorem srG_len {b : Gi_Board} {l : List Int} (h : srG b l = true) : l.length ≤ 6 := by
 simp only [srG, Bool.and_eq_true, decide_eq_true_eq] at h
 exact h.1.1
structure TbOk (t : Gi_CombatTable) : Prop where
 c : t.Columns.length ≤ 8
 r : t.Results.length ≤ 11
 rs : ∀ x ∈ t.Results, x.length ≤ 8
theorem kG_ok {t : Gi_CombatTable} (h : kG t = true) : TbOk t := by
 simp only [kG, Bool.and_eq_true, kIn_iff, decide_eq_true_eq] at h
 obtain ⟨⟨⟨⟨h1, h2⟩, h3⟩, h4⟩, h5⟩ := h
 refine ⟨by omega, by omega, fun x hx => ?_⟩
 obtain ⟨i, hi⟩ := List.getElem?_of_mem hx
 have := alli_iff.1 h5 i x hi
 simp only [kRow, Bool.and_eq_true, decide_eq_true_eq] at this
 omega
theorem cdG_len {b : Gi_Board} {x : Gi_Conditions} (h : cdG b x = true) : x.Goals.length ≤ 12 := by
 simp only [cdG, Bool.and_eq_true, decide_eq_true_eq] at h
 exact h.1.1.1
theorem bdG_mp {b : Gi_Board} (h : bdG b = true) : mpGood b.Map = true := by
 simp only [bdG, Bool.and_eq_true] at h
 exact h.1.2
structure BdV (b : Gi_Board) : Prop where
 l : BdLen b
 g : bdG b = true
theorem BdV.ok {b : Gi_Board} (h : BdV b) : BdOk b := bdG_ok h.g
theorem BdV.on {b : Gi_Board} (h : BdV b) {i : Int} (hi : 0 ≤ i ∧ i < b.Map.Terrain.length) : mpOn b.Map i = true := mpOn_iff.2 ⟨bdG_mp h.g, hi.1, by have := h.ok.n; omega⟩
theorem BdV.next {b : Gi_Board} (h : BdV b) {i d : Int} (hi : 0 ≤ i ∧ i < b.Map.Terrain.length) (hd : 0 ≤ d ∧ d < 6) : Di_nextTo b.Map i d = some (mpNext b.Map i d) ∧ Ds_mNext b.Map i d = some (mpNext b.Map i d) := next_b h.ok.d100 ⟨hi.1, by have := h.ok.n2; omega⟩ hd
theorem BdV.nlt {b : Gi_Board} (h : BdV b) {i d : Int} (hk : 0 ≤ mpNext b.Map i d) : mpNext b.Map i d < b.Map.Terrain.length := by
 have := (mpNext_lt hk).1
 have := h.ok.n
 omega
theorem UnOk.kind {b : Gi_Board} {u : Gi_Unit} (h : UnOk b u) : b.Rules.Kinds[u.Kind.toNat]? = some (b.Rules.Kinds[u.Kind.toNat]'(by have := h.k; omega)) := List.getElem?_eq_getElem _
theorem UnOk.on {b : Gi_Board} {u : Gi_Unit} (h : UnOk b u) (h0 : ¬ u.At < 0) : 0 ≤ u.At ∧ u.At < b.Map.Terrain.length := by
 have := h.a
 omega
def r6 (d : Int) : Int := Int.tmod (d + 3) 6
theorem BdV.d100' {b : Gi_Board} (h : BdV b) : MpDim b.Map 100 := by
 have := h.ok.d
 unfold MpDim at this ⊢
 omega
theorem Ok.and' {α : Type} {o : Option α} {P Q : α → Prop} (h : Ok o P) (g : Ok o Q) : Ok o fun a => P a ∧ Q a := by
 obtain ⟨a, e, p⟩ := h
 obtain ⟨a', e', q⟩ := g
 rw [e] at e'
 cases e'
 exact ⟨a, e, p, q⟩
def mirI (m : Gi_Map) (i : Int) : Int := (i % m.Width) * m.Height + i / m.Width
theorem mpOnI {m : Gi_Map} (hd : MpDim m 10) {i : Int} (hi : 0 ≤ i ∧ i < m.Width * m.Height) : (0 ≤ i % m.Width ∧ i % m.Width ≤ m.Width - 1) ∧ (0 ≤ i / m.Width ∧ i / m.Width ≤ m.Height - 1) := by
 unfold MpDim at hd
 have h1 := Int.emod_nonneg i (show m.Width ≠ 0 by omega)
 have h2 := Int.emod_lt_of_pos i (show (0 : Int) < m.Width by omega)
 have h3 := Int.ediv_nonneg hi.1 (show (0 : Int) ≤ m.Width by omega)
 have h4 : i / m.Width < m.Height := Int.ediv_lt_of_lt_mul (by omega) (by rw [Int.mul_comm]; exact hi.2)
 omega
theorem mirI_div {m : Gi_Map} (hd : MpDim m 10) {i : Int} (hi : 0 ≤ i ∧ i < m.Width * m.Height) : mirI m i % m.Height = i / m.Width ∧ mirI m i / m.Height = i % m.Width := by
 obtain ⟨h1, h2⟩ := mpOnI hd hi
 unfold MpDim at hd
 unfold mirI
 constructor
 ·rw [Int.add_comm, Int.add_mul_emod_self_right, Int.emod_eq_of_lt h2.1 (by omega)]
 ·rw [Int.add_comm, Int.add_mul_ediv_right _ _ (by omega), Int.ediv_eq_zero_of_lt h2.1 (by omega), Int.zero_add]
theorem mirI_inj {m : Gi_Map} (hd : MpDim m 10) {i j : Int} (hi : 0 ≤ i ∧ i < m.Width * m.Height) (hj : 0 ≤ j ∧ j < m.Width * m.Height) (h : mirI m i = mirI m j) : i = j := by
 obtain ⟨a1, a2⟩ := mirI_div hd hi
 obtain ⟨b1, b2⟩ := mirI_div hd hj
 rw [h] at a1 a2
 rw [← Int.mul_ediv_add_emod i m.Width, ← Int.mul_ediv_add_emod j m.Width, ← a1, ← a2, b1, b2]
theorem mir_mul {m : Gi_Map} (hd : MpDim m 10) : m.Width * m.Height ≤ 100 := by
 have := mpSize hd
 omega
theorem app_loop {σ α β ρ : Type} {B : σ → Option (σ ⊕ ρ)} {S : List β → Nat → σ} {l : List α} {g : α → β} {fin : List β → Option ρ}
  (hs : ∀ acc i x, l[i]? = some x → i < l.length → acc.length = i → B (S acc i) = some (.inl (S (acc ++ [g x]) (i + 1)))) (he : ∀ acc, acc.length = l.length → goOn (loop B) (B (S acc l.length)) = fin acc) :
  loop B (S [] 0) = fin (l.map g) := by
 have key : ∀ (k i : Nat), i + k = l.length → loop B (S ((l.take i).map g) i) = fin (l.map g) := by
  intro k
  induction k with
  | zero =>
   intro i h
   have : i = l.length := by omega
   subst this
   rw [loop_eq, List.take_length, he _ (by simp)]
  | succ k ih =>
   intro i h
   have hlt : i < l.length := by omega
   have hx := List.getElem?_eq_getElem hlt
   rw [loop_eq, hs _ i l[i] hx hlt (by simp; omega)]
   simp only [goOn]
   rw [show (l.take i).map g ++ [g l[i]] = (l.take (i + 1)).map g by rw [List.take_add_one, hx, List.map_append]; rfl]
   exact ih (i + 1) (by omega)
 simpa using key l.length 0 (by omega)
theorem rising_nodup {l : List Int} (h : l.Pairwise (· < ·)) : l.Nodup := h.imp fun h => by omega
theorem map_nodup {α β : Type} {f : α → β} : ∀ {l : List α}, l.Nodup → (∀ x ∈ l, ∀ y ∈ l, f x = f y → x = y) → (l.map f).Nodup
 | [], _, _ => .nil
 | a :: l, h, hf => by
  rw [List.nodup_cons] at h
  rw [List.map_cons, List.nodup_cons]
  refine ⟨fun hm => ?_, map_nodup h.2 fun x hx y hy => hf x (List.mem_cons_of_mem _ hx) y (List.mem_cons_of_mem _ hy)⟩
  obtain ⟨y, hy, he⟩ := List.mem_map.1 hm
  have := hf y (List.mem_cons_of_mem _ hy) a (List.mem_cons_self ..) he
  exact h.1 (this ▸ hy)

theorem rising_pw {l : List Int} (h : rising l = true) : l.Pairwise (· < ·) := by
 have h1 := rising_iff.1 h
 have key : ∀ (d i : Nat) x y, l[i]? = some x → l[i + 1 + d]? = some y → x < y := by
  intro d
  induction d with
  | zero => intro i x y hx hy; exact h1 (i + 1) x y (by omega) hx hy
  | succ d ih =>
   intro i x y hx hy
   have hl : i + 1 + d < l.length := by have := (List.getElem?_eq_some_iff.1 hy).1; omega
   have a1 := ih i x _ hx (List.getElem?_eq_getElem hl)
   have a2 := h1 (i + 1 + d + 1) _ y (by omega) (List.getElem?_eq_getElem hl) hy
   omega
 rw [List.pairwise_iff_getElem]
 intro i j hi hj hij
 exact key (j - i - 1) i _ _ (List.getElem?_eq_getElem hi) (by rw [show i + 1 + (j - i - 1) = j by omega]; exact List.getElem?_eq_getElem hj)
structure PlOk (m : Gi_Map) (l : List Int) : Prop where
 n : l.length ≤ 1000
 ndp : l.Nodup
 on : ∀ x ∈ l, 0 ≤ x ∧ x < m.Width * m.Height
theorem PlOk.mir {m : Gi_Map} (hd : MpDim m 10) {l : List Int} (h : PlOk m l) : (l.map (mirI m)).Nodup :=
 map_nodup h.ndp fun x hx y hy e => mirI_inj hd (h.on x hx) (h.on y hy) e
structure GsOk (m : Gi_Map) (gs : List Gi_Goal) : Prop where
 n : gs.length ≤ 12
 on : ∀ g ∈ gs, 0 ≤ g.At ∧ g.At < m.Width * m.Height
 pw : gs.Pairwise fun a b => a.At < b.At
theorem cdG_ok {b : Gi_Board} (h : BdOk b) {x : Gi_Conditions} (hc : cdG b x = true) : GsOk b.Map x.Goals := by
 have hn := h.n
 have hl := cdG_len hc
 simp only [cdG, Bool.and_eq_true, decide_eq_true_eq] at hc
 have ha := alli_iff.1 hc.2
 refine ⟨hl, fun g hg => ?_, ?_⟩
 ·obtain ⟨i, hi⟩ := List.getElem?_of_mem hg
  have := ha i g hi
  simp only [glP, Bool.and_eq_true, kIn_iff] at this
  omega
 ·have h1 : rising (x.Goals.map fun g => g.At) = true := rising_iff.2 fun j u v hj hu hv => by
   rw [List.getElem?_map, Option.map_eq_some_iff] at hu hv
   obtain ⟨g, hg, rfl⟩ := hu
   obtain ⟨g', hg', rfl⟩ := hv
   have := ha j g' hg'
   simp only [glP, Bool.and_eq_true, Bool.or_eq_true, decide_eq_true_eq, hg] at this
   rcases this.2 with e | e
   ·omega
   ·exact e
  exact List.pairwise_map.1 (rising_pw h1)
theorem ScOk.pl {x : Gi_Scenario} (h : ScOk x) {l : List Int} (hs : srG x.Board l = true) : PlOk x.Board.Map l := by
 have hn := (bdG_ok h.b).n
 have hl := srG_len hs
 simp only [srG, Bool.and_eq_true] at hs
 have ha := alli_iff.1 hs.2
 refine ⟨by omega, rising_nodup (rising_pw hs.1.2), fun y hy => ?_⟩
 obtain ⟨i, hi⟩ := List.getElem?_of_mem hy
 have := kIn_iff.1 (ha i y hi)
 omega
def byL (b : ByteArray) : List UInt8 := b.data.toList
theorem by_ext {a b : ByteArray} (h : byL a = byL b) : a = b := ByteArray.ext (Array.toList_inj.1 h)
theorem byL_app (a b : ByteArray) : byL (a ++ b) = byL a ++ byL b := ByteArray.toList_data_append
theorem byL_mk (l : List UInt8) : byL ⟨l.toArray⟩ = l := rfl
theorem by_size (b : ByteArray) : ByteArray.size b = (byL b).length := by
 show b.data.size = b.data.toList.length
 simp
theorem by_one (x : Int) : byL (bytesOf [x]) = [UInt8.ofNat x.toNat] := by simp [byL, bytesOf]
theorem byL_itoa (n : Int) : byL (itoaB n) = Lib.itoa n := by unfold itoaB byL; simp
theorem wu8 {n : Int} (h : 0 ≤ n ∧ n < 256) : IntKind.wrap .u8 n = n := by
 simp only [IntKind.wrap, IntKind.bits, IntKind.signed]
 simp
 omega
theorem dec_small {u : Nat} (h : u < 10) : Lib.decDigits u = [UInt8.ofNat (48 + u)] := by rw [Lib.decDigits, dif_pos h]
theorem dec_big {u : Nat} (h : ¬ u < 10) : Lib.decDigits u = Lib.decDigits (u / 10) ++ [UInt8.ofNat (48 + u % 10)] := by rw [Lib.decDigits, dif_neg h]
theorem dec_len : ∀ (k u : Nat), u < 10 ^ (k + 1) → (Lib.decDigits u).length ≤ k + 1
 | 0, u, h => by rw [dec_small (by simpa using h)]; simp
 | k + 1, u, h => by
  by_cases c : u < 10
  ·rw [dec_small c]; simp
  ·rw [dec_big c, List.length_append]
   have := dec_len k (u / 10) (by rw [Nat.pow_succ] at h; omega)
   simp
   omega
theorem itoa_nn {n : Int} (h : 0 ≤ n) : Lib.itoa n = Lib.decDigits n.toNat := by unfold Lib.itoa; rw [if_neg (by omega)]
theorem itoa_len {n : Int} (h : -9223372036854775808 ≤ n ∧ n ≤ 9223372036854775807) : (Lib.itoa n).length ≤ 20 := by
 unfold Lib.itoa
 split
 ·have := dec_len 18 n.natAbs (by omega)
  simp
  omega
 ·have := dec_len 18 n.toNat (by omega)
  omega
theorem itoa_i {n : Int} (h : -9223372036854775808 ≤ n ∧ n ≤ 9223372036854775807) : Dstrconv_Itoa n = some (itoaB n) := if_pos h
theorem num_fs : ∀ (k f : Nat) (n : Int), k < f → k ≤ 18 → 0 ≤ n → n < (10 : Int) ^ (k + 1) → n ≤ 9223372036854775807 → Ds_l1Num f n = some (itoaB n) := by
 have small : ∀ (f : Nat) (n : Int), 0 < f → 0 ≤ n → n < 10 → Ds_l1Num f n = some (itoaB n) := fun f n hf h0 h1 => by
  obtain ⟨f, rfl⟩ : ∃ g, f = g + 1 := ⟨f - 1, by omega⟩
  show Fs_l1Num (Ds_l1Num f) n = _
  unfold Fs_l1Num
  rw [if_pos h1, w64 (by omega), wu8 (by omega), if_pos (by simp; omega)]
  congr 1
  refine by_ext ?_
  rw [byL_itoa, itoa_nn h0, dec_small (by omega), by_one, show (48 + n).toNat = 48 + n.toNat by omega]
 intro k
 induction k with
 | zero => intro f n hf _ h0 h1 _; exact small f n hf h0 (by simpa using h1)
 | succ k ih =>
  intro f n hf hk h0 h1 h2
  by_cases c : n < 10
  ·exact small f n (by omega) h0 c
  ·obtain ⟨f, rfl⟩ : ∃ g, f = g + 1 := ⟨f - 1, by omega⟩
   show Fs_l1Num (Ds_l1Num f) n = _
   unfold Fs_l1Num
   have hdv : IntKind.wrap .i64 (Int.tdiv n 10) = n / 10 := by rw [Int.tdiv_eq_ediv_of_nonneg h0, w64 (by omega)]
   have hm : Int.tmod n 10 = n % 10 := Int.tmod_eq_emod_of_nonneg h0
   have hr := ih f (n / 10) (by omega) (by omega) (by omega) (by rw [Int.pow_succ] at h1; omega) (by omega)
   have hl := itoa_len (n := n / 10) (by omega)
   have hs : ByteArray.size (itoaB (n / 10)) ≤ 20 := by rw [by_size, byL_itoa]; exact hl
   have hs1 : ∀ x : Int, ByteArray.size (bytesOf [x]) = 1 := fun x => by rw [by_size, by_one]; rfl
   rw [if_neg c, hdv, hr, Option.bind_some, hm, w64 (by omega), wu8 (by omega), if_pos (by simp; omega), hs1, if_pos (by omega)]
   congr 1
   refine by_ext ?_
   rw [byL_app, byL_itoa, byL_itoa, itoa_nn h0, itoa_nn (show 0 ≤ n / 10 by omega), dec_big (u := n.toNat) (by omega)]
   rw [by_one, show (n / 10).toNat = n.toNat / 10 by omega, show (48 + n % 10).toNat = 48 + n.toNat % 10 by omega]
theorem num_s {n : Int} (h0 : 0 ≤ n) (h1 : n ≤ 9223372036854775807) : Ds_l1Num 100 n = some (itoaB n) := num_fs 18 100 n (by omega) (by omega) h0 (by omega) h1
def wordsB (w : ByteArray) (l : List Int) : ByteArray := joinB (w :: l.map itoaB) ⟨#[32]⟩
theorem byL_words (w : ByteArray) (l : List Int) : byL (wordsB w l) = byL w ++ (l.map fun n => 32 :: Lib.itoa n).flatten := by
 unfold wordsB joinB
 rw [byL_mk, List.map_cons, Lib.join_cons]
 unfold Lib.joinTail byL
 rw [List.map_map, List.map_map]
 rfl
def I64 (n : Int) : Prop := -9223372036854775808 ≤ n ∧ n ≤ 9223372036854775807
theorem words_len {l : List Int} (hl : ∀ n ∈ l, I64 n) : ((l.map fun n => (32 : UInt8) :: Lib.itoa n).flatten).length ≤ 21 * l.length := by
 induction l with
 | nil => simp
 | cons n l ih =>
  have h1 := ih fun m hm => hl m (List.mem_cons_of_mem _ hm)
  have h2 := itoa_len (hl n (List.mem_cons_self ..))
  simp only [List.map_cons, List.flatten_cons, List.length_append, List.length_cons]
  omega
theorem words_i {w : ByteArray} {l : List Int} (hw : w.size ≤ 2000000) (hn : l.length ≤ 2000000) (hl : ∀ n ∈ l, I64 n) : Di_wordsText w l = some (wordsB w l) := by
 unfold Di_wordsText
 have key := app_loop (B := Bi_wordsText) (S := fun acc i => .h1 l (l.length : Int) (i : Int) (w :: acc)) (l := l) (g := itoaB) (fin := fun acc => (Dstrings_Join (w :: acc) ⟨#[32]⟩).bind fun r => some r) (fun acc i x hx hi ha => by
  have e := itoa_i (hl x (List.mem_of_getElem? hx))
  simp (disch := omega) only [Bi_wordsText, if_pos, Int.toNat_natCast, hx, e, Option.bind_some, wsucc, List.length_append, List.length_singleton, List.length_cons, List.length_nil, List.cons_append]) fun acc ha => by
  simp (disch := omega) only [Bi_wordsText, if_neg]
  cases Dstrings_Join (w :: acc) ⟨#[32]⟩ <;> rfl
 refine Eq.trans key ?_
 have hj : Dstrings_Join (w :: l.map itoaB) ⟨#[32]⟩ = some (wordsB w l) := by
  refine if_pos ⟨by simp; omega, ?_⟩
  have h1 : byL (wordsB w l) = Lib.join ((w :: l.map itoaB).map (·.data.toList)) (ByteArray.mk #[32]).data.toList := rfl
  rw [← h1, byL_words, List.length_append, ← by_size]
  have := words_len hl
  omega
 rw [hj]
 rfl
theorem words_size {w : ByteArray} {l : List Int} (hl : ∀ n ∈ l, I64 n) : (wordsB w l).size ≤ w.size + 21 * l.length := by
 rw [by_size, byL_words, List.length_append, ← by_size]
 have := words_len hl
 omega
theorem cat_loop {σ α ρ : Type} {B : σ → Option (σ ⊕ ρ)} {S : ByteArray → Nat → σ} {l : List α} {g : α → ByteArray} {fin : ByteArray → Option ρ} {K : Nat} {a0 : ByteArray}
  (hs : ∀ acc i x, l[i]? = some x → i < l.length → ByteArray.size acc ≤ ByteArray.size a0 + K * i → B (S acc i) = some (.inl (S (acc ++ g x) (i + 1))) ∧ ByteArray.size (g x) ≤ K) (he : ∀ acc, ByteArray.size acc ≤ ByteArray.size a0 + K * l.length → goOn (loop B) (B (S acc l.length)) = fin acc) :
  loop B (S a0 0) = fin (l.foldl (fun o x => o ++ g x) a0) := by
 have key : ∀ (k i : Nat) acc, i + k = l.length → ByteArray.size acc ≤ ByteArray.size a0 + K * i → loop B (S acc i) = fin ((l.drop i).foldl (fun o x => o ++ g x) acc) := by
  intro k
  induction k with
  | zero =>
   intro i acc h ha
   have : i = l.length := by omega
   subst this
   rw [loop_eq, he _ ha, List.drop_of_length_le (Nat.le_refl _)]
   rfl
  | succ k ih =>
   intro i acc h ha
   have hlt : i < l.length := by omega
   have hx := List.getElem?_eq_getElem hlt
   obtain ⟨h1, h2⟩ := hs _ i l[i] hx hlt ha
   rw [loop_eq, h1, List.drop_eq_getElem_cons hlt]
   simp only [goOn, List.foldl_cons]
   exact ih (i + 1) _ (by omega) (by rw [ByteArray.size_append, Nat.mul_succ]; omega)
 simpa using key l.length 0 a0 (by omega) (by simp)
theorem cat_size {α : Type} {g : α → ByteArray} {K : Nat} : ∀ (l : List α) (a : ByteArray), (∀ x ∈ l, ByteArray.size (g x) ≤ K) → ByteArray.size (l.foldl (fun o x => o ++ g x) a) ≤ ByteArray.size a + K * l.length
 | [], a, _ => by simp
 | x :: l, a, h => by
  have := cat_size (g := g) (K := K) l (a ++ g x) fun y hy => h y (List.mem_cons_of_mem _ hy)
  have h1 := h x (List.mem_cons_self ..)
  rw [ByteArray.size_append] at this
  rw [List.foldl_cons, List.length_cons, Nat.mul_succ]
  omega

def Tx (o : Option ByteArray) (L : List UInt8) (K : Nat) : Prop := ∃ b, o = some b ∧ byL b = L ∧ ByteArray.size b ≤ K
theorem Tx.both {o p : Option ByteArray} {L : List UInt8} {K K' : Nat} (h : Tx o L K) (k : Tx p L K') : ∃ b, o = some b ∧ p = some b ∧ ByteArray.size b ≤ K := by
 obtain ⟨b, e1, e2, e3⟩ := h
 obtain ⟨c, f1, f2, _⟩ := k
 exact ⟨b, e1, by rw [f1, by_ext (f2.trans e2.symm)], e3⟩
theorem sz_mk (a : Array UInt8) : ByteArray.size ⟨a⟩ = a.size := rfl
theorem byL_arr (a : Array UInt8) : byL ⟨a⟩ = a.toList := rfl
theorem num_size {n : Int} (h : I64 n) : (itoaB n).size ≤ 20 := by rw [by_size, byL_itoa]; exact itoa_len h
theorem words1 {w : ByteArray} {n : Int} (hw : w.size ≤ 100) (h : I64 n) : Di_wordsText w [n] = some (wordsB w [n]) ∧ (wordsB w [n]).size ≤ w.size + 21 := by
 have h1 : ∀ m ∈ [n], I64 m := fun m hm => by rw [List.mem_singleton.1 hm]; exact h
 exact ⟨words_i (by omega) (by simp) h1, by have := words_size (w := w) h1; simpa using this⟩
def kindL (k : Gi_Kind) : List UInt8 := [107, 105, 110, 100, 32] ++ byL k.Name ++ [32, 115, 116, 114, 101, 110, 103, 116, 104, 32] ++ Lib.itoa k.Strength ++ [32, 109, 111, 118, 101, 115, 32] ++ Lib.itoa k.Moves ++ [32, 115, 116, 101, 112, 115, 32] ++ Lib.itoa k.Steps ++ [32, 118, 105, 101, 119, 32] ++ Lib.itoa k.View ++ (if k.Zone = true then [32, 122, 111, 110, 101] else [])
structure KdT (k : Gi_Kind) : Prop where
 n : k.Name.size ≤ 8
 s : 0 ≤ k.Strength ∧ k.Strength ≤ 9
 m : 0 ≤ k.Moves ∧ k.Moves ≤ 9
 t : 0 ≤ k.Steps ∧ k.Steps ≤ 9
 v : 0 ≤ k.View ∧ k.View ≤ 9
theorem i64_of {n : Int} (h : -1000000 ≤ n ∧ n ≤ 1000000) : I64 n := by unfold I64; omega
theorem kind_i {k : Gi_Kind} (h : KdT k) : Tx (Di_kindLine k) (kindL k) 200 := by
 have hn := h.n; have h1 := h.s; have h2 := h.m; have h3 := h.t; have h4 := h.v
 obtain ⟨e1, s1⟩ := words1 (w := ⟨#[115, 116, 114, 101, 110, 103, 116, 104]⟩) (n := k.Strength) (by decide) (i64_of (by omega))
 obtain ⟨e2, s2⟩ := words1 (w := ⟨#[109, 111, 118, 101, 115]⟩) (n := k.Moves) (by decide) (i64_of (by omega))
 obtain ⟨e3, s3⟩ := words1 (w := ⟨#[115, 116, 101, 112, 115]⟩) (n := k.Steps) (by decide) (i64_of (by omega))
 obtain ⟨e4, s4⟩ := words1 (w := ⟨#[118, 105, 101, 119]⟩) (n := k.View) (by decide) (i64_of (by omega))
 simp only [sz_mk, List.size_toArray, List.length_cons, List.length_nil] at s1 s2 s3 s4
 unfold Tx Di_kindLine
 simp only [e1, e2, e3, e4, Option.bind_some]
 have l1 := byL_words ⟨#[115, 116, 114, 101, 110, 103, 116, 104]⟩ [k.Strength]
 have l2 := byL_words ⟨#[109, 111, 118, 101, 115]⟩ [k.Moves]
 have l3 := byL_words ⟨#[115, 116, 101, 112, 115]⟩ [k.Steps]
 have l4 := byL_words ⟨#[118, 105, 101, 119]⟩ [k.View]
 generalize wordsB ⟨#[115, 116, 114, 101, 110, 103, 116, 104]⟩ [k.Strength] = b1 at *
 generalize wordsB ⟨#[109, 111, 118, 101, 115]⟩ [k.Moves] = b2 at *
 generalize wordsB ⟨#[115, 116, 101, 112, 115]⟩ [k.Steps] = b3 at *
 generalize wordsB ⟨#[118, 105, 101, 119]⟩ [k.View] = b4 at *
 repeat rw [if_pos (by simp only [ByteArray.size_append, sz_mk, List.size_toArray, List.length_cons, List.length_nil]; omega)]
 unfold kindL
 by_cases c : k.Zone = true
 ·rw [if_pos c, if_pos c, if_pos (by simp only [ByteArray.size_append, sz_mk, List.size_toArray, List.length_cons, List.length_nil]; omega)]
  refine ⟨_, rfl, ?_, by simp only [ByteArray.size_append, sz_mk, List.size_toArray, List.length_cons, List.length_nil]; omega⟩
  simp only [byL_app, l1, l2, l3, l4]
  simp [byL_arr]
 ·rw [if_neg c, if_neg c]
  refine ⟨_, rfl, ?_, by simp only [ByteArray.size_append, sz_mk, List.size_toArray, List.length_cons, List.length_nil]; omega⟩
  simp only [byL_app, l1, l2, l3, l4]
  simp [byL_arr]
theorem kind_s {k : Gi_Kind} (h : KdT k) : Tx (Ds_bfKind k) (kindL k) 200 := by
 have hn := h.n; have h1 := h.s; have h2 := h.m; have h3 := h.t; have h4 := h.v
 have e1 := num_s (n := k.Strength) (by omega) (by omega)
 have e2 := num_s (n := k.Moves) (by omega) (by omega)
 have e3 := num_s (n := k.Steps) (by omega) (by omega)
 have e4 := num_s (n := k.View) (by omega) (by omega)
 have s1 := num_size (n := k.Strength) (i64_of (by omega))
 have s2 := num_size (n := k.Moves) (i64_of (by omega))
 have s3 := num_size (n := k.Steps) (i64_of (by omega))
 have s4 := num_size (n := k.View) (i64_of (by omega))
 unfold Tx Ds_bfKind
 simp only [e1, e2, e3, e4, Option.bind_some]
 have l1 := byL_itoa k.Strength
 have l2 := byL_itoa k.Moves
 have l3 := byL_itoa k.Steps
 have l4 := byL_itoa k.View
 generalize itoaB k.Strength = b1 at *
 generalize itoaB k.Moves = b2 at *
 generalize itoaB k.Steps = b3 at *
 generalize itoaB k.View = b4 at *
 repeat rw [if_pos (by simp only [ByteArray.size_append, sz_mk, List.size_toArray, List.length_cons, List.length_nil]; omega)]
 unfold kindL
 by_cases c : k.Zone = true
 ·rw [if_pos c, if_pos c, if_pos (by simp only [ByteArray.size_append, sz_mk, List.size_toArray, List.length_cons, List.length_nil]; omega)]
  refine ⟨_, rfl, ?_, by simp only [ByteArray.size_append, sz_mk, List.size_toArray, List.length_cons, List.length_nil]; omega⟩
  simp only [byL_app, l1, l2, l3, l4]
  simp [byL_arr]
 ·rw [if_neg c, if_neg c]
  refine ⟨_, rfl, ?_, by simp only [ByteArray.size_append, sz_mk, List.size_toArray, List.length_cons, List.length_nil]; omega⟩
  simp only [byL_app, l1, l2, l3, l4]
  simp [byL_arr]
def numsL (l : List Int) : List UInt8 := (l.map fun n => (32 : UInt8) :: Lib.itoa n).flatten
def terrL (t : Gi_Terrain) : List UInt8 := [116, 101, 114, 114, 97, 105, 110, 32] ++ byL t.Name ++ [32, 115, 104, 105, 102, 116, 32] ++ Lib.itoa t.Shift ++ [32, 104, 101, 105, 103, 104, 116, 32] ++ Lib.itoa t.Height ++ [32, 99, 111, 115, 116] ++ numsL t.Cost ++ (if t.Blocks = true then [32, 98, 108, 111, 99, 107, 115] else [])
structure TrT (t : Gi_Terrain) : Prop where
 n : t.Name.size ≤ 8
 s : -3 ≤ t.Shift ∧ t.Shift ≤ 3
 h : 0 ≤ t.Height ∧ t.Height ≤ 3
 l : t.Cost.length ≤ 4
 c : ∀ x ∈ t.Cost, 0 ≤ x ∧ x ≤ 9
theorem terr_it {t : Gi_Terrain} (h : TrT t) : Tx (Di_terrainLine t) (terrL t) 300 := by
 have hn := h.n; have h1 := h.s; have h2 := h.h; have h3 := h.l
 obtain ⟨e1, s1⟩ := words1 (w := ⟨#[115, 104, 105, 102, 116]⟩) (n := t.Shift) (by decide) (i64_of (by omega))
 obtain ⟨e2, s2⟩ := words1 (w := ⟨#[104, 101, 105, 103, 104, 116]⟩) (n := t.Height) (by decide) (i64_of (by omega))
 have hc : ∀ x ∈ t.Cost, I64 x := fun x hx => i64_of (by have := h.c x hx; omega)
 have e3 := words_i (w := ⟨#[99, 111, 115, 116]⟩) (by decide) (by omega) hc
 have s3 := words_size (w := ⟨#[99, 111, 115, 116]⟩) hc
 simp only [sz_mk, List.size_toArray, List.length_cons, List.length_nil] at s1 s2 s3
 unfold Tx Di_terrainLine
 simp only [e1, e2, e3, Option.bind_some]
 have l1 := byL_words ⟨#[115, 104, 105, 102, 116]⟩ [t.Shift]
 have l2 := byL_words ⟨#[104, 101, 105, 103, 104, 116]⟩ [t.Height]
 have l3 := byL_words ⟨#[99, 111, 115, 116]⟩ t.Cost
 generalize wordsB ⟨#[115, 104, 105, 102, 116]⟩ [t.Shift] = b1 at *
 generalize wordsB ⟨#[104, 101, 105, 103, 104, 116]⟩ [t.Height] = b2 at *
 generalize wordsB ⟨#[99, 111, 115, 116]⟩ t.Cost = b3 at *
 repeat rw [if_pos (by simp only [ByteArray.size_append, sz_mk, List.size_toArray, List.length_cons, List.length_nil]; omega)]
 unfold terrL numsL
 by_cases c : t.Blocks = true
 ·rw [if_pos c, if_pos c, if_pos (by simp only [ByteArray.size_append, sz_mk, List.size_toArray, List.length_cons, List.length_nil]; omega)]
  refine ⟨_, rfl, ?_, by simp only [ByteArray.size_append, sz_mk, List.size_toArray, List.length_cons, List.length_nil]; omega⟩
  simp only [byL_app, l1, l2, l3]
  simp [byL_arr]
 ·rw [if_neg c, if_neg c]
  refine ⟨_, rfl, ?_, by simp only [ByteArray.size_append, sz_mk, List.size_toArray, List.length_cons, List.length_nil]; omega⟩
  simp only [byL_app, l1, l2, l3]
  simp [byL_arr]
theorem int_s {n : Int} (h : -1000000 ≤ n ∧ n ≤ 1000000) : Tx (Ds_l1Int n) (Lib.itoa n) 21 := by
 unfold Tx Ds_l1Int
 by_cases c : n < 0
 ·have e := num_s (n := 0 - n) (by omega) (by omega)
  have s := num_size (n := 0 - n) (i64_of (by omega))
  rw [if_pos c, w64 (by omega), e, Option.bind_some, if_pos (by simp only [ByteArray.size_append, sz_mk, List.size_toArray, List.length_cons, List.length_nil]; omega)]
  refine ⟨_, rfl, ?_, by simp only [ByteArray.size_append, sz_mk, List.size_toArray, List.length_cons, List.length_nil]; omega⟩
  rw [byL_app, byL_itoa, itoa_nn (by omega), byL_arr]
  unfold Lib.itoa
  rw [if_pos c, show (0 - n).toNat = n.natAbs by omega]
  rfl
 ·rw [if_neg c, num_s (by omega) (by omega), Option.bind_some]
  have s := num_size (n := n) (i64_of (by omega))
  exact ⟨_, rfl, byL_itoa n, by omega⟩
theorem cat_byL {α : Type} {g : α → ByteArray} : ∀ (l : List α) (a : ByteArray), byL (l.foldl (fun o x => o ++ g x) a) = byL a ++ (l.map fun x => byL (g x)).flatten
 | [], a => by simp
 | x :: l, a => by rw [List.foldl_cons, cat_byL l, byL_app]; simp
theorem terr_st {t : Gi_Terrain} (h : TrT t) : Tx (Ds_bfTerrain t) (terrL t) 300 := by
 have hn := h.n; have h1 := h.s; have h2 := h.h; have h3 := h.l
 obtain ⟨b1, e1, l1, s1⟩ := int_s (n := t.Shift) (by omega)
 have e2 := num_s (n := t.Height) (by omega) (by omega)
 have s2 := num_size (n := t.Height) (i64_of (by omega))
 have l2 := byL_itoa t.Height
 unfold Tx Ds_bfTerrain
 simp only [e1, e2, Option.bind_some]
 generalize itoaB t.Height = b2 at *
 repeat rw [if_pos (by simp only [ByteArray.size_append, sz_mk, List.size_toArray, List.length_cons, List.length_nil]; omega)]
 generalize hb : ((((((⟨#[116, 101, 114, 114, 97, 105, 110, 32]⟩ : ByteArray) ++ t.Name) ++ ⟨#[32, 115, 104, 105, 102, 116, 32]⟩) ++ b1) ++ ⟨#[32, 104, 101, 105, 103, 104, 116, 32]⟩) ++ b2) ++ ⟨#[32, 99, 111, 115, 116]⟩ = b0
 have hs0 : b0.size ≤ 100 := by rw [← hb]; simp only [ByteArray.size_append, sz_mk, List.size_toArray, List.length_cons, List.length_nil]; omega
 have hl0 : byL b0 = [116, 101, 114, 114, 97, 105, 110, 32] ++ byL t.Name ++ [32, 115, 104, 105, 102, 116, 32] ++ Lib.itoa t.Shift ++ [32, 104, 101, 105, 103, 104, 116, 32] ++ Lib.itoa t.Height ++ [32, 99, 111, 115, 116] := by
  rw [← hb]
  simp only [byL_app, l1, l2]
  simp [byL_arr]
 have key := cat_loop (B := Bs_bfTerrain) (S := fun acc i => .h1 acc t.Cost (t.Cost.length : Int) (i : Int) t) (l := t.Cost) (g := fun n => ⟨#[32]⟩ ++ itoaB n) (K := 21) (a0 := b0) (fin := fun acc => some (if t.Blocks = true then acc ++ ⟨#[32, 98, 108, 111, 99, 107, 115]⟩ else acc)) (fun acc i x hx hi ha => by
  have hc := h.c x (List.mem_of_getElem? hx)
  have e := num_s (n := x) (by omega) (by omega)
  have s := num_size (n := x) (i64_of (by omega))
  refine ⟨?_, by simp only [ByteArray.size_append, sz_mk, List.size_toArray, List.length_cons, List.length_nil]; omega⟩
  simp only [Bs_bfTerrain, Int.toNat_natCast, hx, e, Option.bind_some]
  rw [if_pos (by omega), if_pos (by omega), if_pos (by simp only [sz_mk, List.size_toArray, List.length_cons, List.length_nil]; omega), if_pos (by simp only [ByteArray.size_append, sz_mk, List.size_toArray, List.length_cons, List.length_nil]; omega), wsucc (by omega)]) fun acc ha => by
  simp only [Bs_bfTerrain]
  rw [if_neg (by omega)]
  by_cases c : t.Blocks = true
  ·rw [if_pos c, if_pos c, if_pos (by simp only [ByteArray.size_append, sz_mk, List.size_toArray, List.length_cons, List.length_nil]; omega)]; rfl
  ·rw [if_neg c, if_neg c]; rfl
 have hcs := cat_size (g := fun n => (⟨#[32]⟩ : ByteArray) ++ itoaB n) (K := 21) t.Cost b0 (fun x hx => by
  have hc := h.c x hx
  have s := num_size (n := x) (i64_of (by omega))
  simp only [ByteArray.size_append, sz_mk, List.size_toArray, List.length_cons, List.length_nil]; omega)
 refine ⟨_, key, ?_, ?_⟩
 ·unfold terrL numsL
  have hcl := cat_byL (g := fun n => (⟨#[32]⟩ : ByteArray) ++ itoaB n) t.Cost b0
  have hm : (t.Cost.map fun x => byL ((⟨#[32]⟩ : ByteArray) ++ itoaB x)) = t.Cost.map fun n => (32 : UInt8) :: Lib.itoa n := List.map_congr_left fun x _ => by rw [byL_app, byL_itoa, byL_arr]; rfl
  rw [hm, hl0] at hcl
  by_cases c : t.Blocks = true
  ·rw [if_pos c, if_pos c, byL_app, hcl]; rfl
  ·rw [if_neg c, if_neg c, hcl, List.append_nil]
 ·by_cases c : t.Blocks = true
  ·rw [if_pos c, ByteArray.size_append]
   simp only [sz_mk, List.size_toArray, List.length_cons, List.length_nil]
   omega
  ·rw [if_neg c]; omega

theorem joinT {ls : List ByteArray} (h : ls ≠ []) : byL (joinB ls ⟨#[10]⟩ ++ ⟨#[10]⟩) = (ls.map fun x => byL x ++ [10]).flatten := by
 cases ls with
 | nil => exact absurd rfl h
 | cons x r =>
  rw [byL_app]
  unfold joinB
  rw [byL_mk, List.map_cons, Lib.join_cons]
  unfold Lib.joinTail
  show byL x ++ _ ++ [10] = (byL x ++ [10]) ++ _
  have key : ∀ r : List ByteArray, ((r.map fun x => x.data.toList).map fun y => [10] ++ y).flatten ++ [10] = [10] ++ (r.map fun x => byL x ++ [10]).flatten := by
   intro r
   induction r with
   | nil => rfl
   | cons y r ih =>
    simp only [List.map_cons, List.flatten_cons, List.append_assoc]
    rw [ih]
    simp [byL]
  rw [List.append_assoc, List.append_assoc]
  congr 1
  exact key r
theorem joinT_size {ls : List ByteArray} {K : Nat} (hk : ∀ x ∈ ls, ByteArray.size x ≤ K) : (Lib.join (ls.map (·.data.toList)) [10]).length ≤ (K + 1) * ls.length := by
 cases ls with
 | nil => simp [Lib.join, List.intercalate]
 | cons x r =>
  rw [List.map_cons, Lib.join_cons]
  unfold Lib.joinTail
  rw [List.length_append]
  have h0 := hk x (List.mem_cons_self ..)
  rw [by_size] at h0
  have key : ∀ r : List ByteArray, (∀ y ∈ r, ByteArray.size y ≤ K) → (((r.map fun x => x.data.toList).map fun y => [10] ++ y).flatten).length ≤ (K + 1) * r.length := by
   intro r
   induction r with
   | nil => simp
   | cons y r ih =>
    intro hr
    have h1 := ih fun z hz => hr z (List.mem_cons_of_mem _ hz)
    have h2 := hr y (List.mem_cons_self ..)
    rw [by_size] at h2
    simp only [List.map_cons, List.flatten_cons, List.length_append, List.length_cons, List.length_nil, Nat.mul_succ]
    show 0 + 1 + (byL y).length + _ ≤ _
    omega
  have h1 := key r fun y hy => hk y (List.mem_cons_of_mem _ hy)
  rw [List.length_cons, Nat.mul_succ]
  show (byL x).length + _ ≤ _
  omega
structure RlT (r : Gi_Rules) : Prop where
 ok : RlOk r
 k : ∀ x ∈ r.Kinds, KdT x
 t : ∀ x ∈ r.Terrains, TrT x
def limL (r : Gi_Rules) : List (List UInt8) := [[115, 116, 97, 99, 107, 32] ++ Lib.itoa r.Stack, [114, 105, 118, 101, 114, 32] ++ Lib.itoa r.River, [114, 111, 97, 100, 32] ++ Lib.itoa r.Road, [115, 117, 112, 112, 108, 121, 32] ++ Lib.itoa r.Supply, [116, 117, 114, 110, 115, 32] ++ Lib.itoa r.Turns]
def rulesL (r : Gi_Rules) : List UInt8 := ((limL r ++ r.Kinds.map kindL ++ r.Terrains.map terrL).map fun x => x ++ [10]).flatten
theorem linesOf {α : Type} {f : α → Option ByteArray} {L : α → List UInt8} {K : Nat} : ∀ {l : List α}, (∀ x ∈ l, Tx (f x) (L x) K) → ∃ bs : List ByteArray, bs.length = l.length ∧ (∀ (i : Nat) x, l[i]? = some x → ∃ b, bs[i]? = some b ∧ f x = some b) ∧ bs.map byL = l.map L ∧ ∀ b ∈ bs, ByteArray.size b ≤ K
 | [], _ => ⟨[], rfl, fun i x h => by simp at h, rfl, fun b h => by cases h⟩
 | x :: l, h => by
  obtain ⟨bs, h1, h2, h3, h4⟩ := linesOf (l := l) fun y hy => h y (List.mem_cons_of_mem _ hy)
  obtain ⟨b, e1, e2, e3⟩ := h x (List.mem_cons_self ..)
  refine ⟨b :: bs, by simp [h1], fun i y hy => ?_, by simp [e2, h3], fun c hc => ?_⟩
  ·cases i with
   | zero => cases hy; exact ⟨b, rfl, e1⟩
   | succ i => exact h2 i y (by simpa using hy)
  ·rcases List.mem_cons.1 hc with rfl | hc
   ·exact e3
   ·exact h4 c hc
theorem rules_i {r : Gi_Rules} (h : RlT r) : Tx (Di_rulesText r) (rulesL r) 10000 := by
 have ht := h.ok.t; have hk := h.ok.k; have he := h.ok.e
 obtain ⟨e0, s0⟩ := words1 (w := ⟨#[115, 116, 97, 99, 107]⟩) (n := r.Stack) (by decide) (i64_of (by omega))
 obtain ⟨e1, s1⟩ := words1 (w := ⟨#[114, 105, 118, 101, 114]⟩) (n := r.River) (by decide) (i64_of (by omega))
 obtain ⟨e2, s2⟩ := words1 (w := ⟨#[114, 111, 97, 100]⟩) (n := r.Road) (by decide) (i64_of (by omega))
 obtain ⟨e3, s3⟩ := words1 (w := ⟨#[115, 117, 112, 112, 108, 121]⟩) (n := r.Supply) (by decide) (i64_of (by omega))
 obtain ⟨e4, s4⟩ := words1 (w := ⟨#[116, 117, 114, 110, 115]⟩) (n := r.Turns) (by decide) (i64_of (by omega))
 have q0 : Bi_rulesText (.h1 (GA5I.mk r.Stack r.River r.Road r.Supply r.Turns) 0 r []) = some (.inl (.h1 (GA5I.mk r.Stack r.River r.Road r.Supply r.Turns) 1 r [wordsB ⟨#[115, 116, 97, 99, 107]⟩ [r.Stack]])) := by
  simp only [Bi_rulesText]
  rw [if_pos (by decide), if_pos (by trivial), if_pos (by decide), show gv100[Int.toNat 0]? = some (⟨#[115, 116, 97, 99, 107]⟩ : ByteArray) from rfl, Option.bind_some, e0, Option.bind_some, if_pos (by simp)]
  rfl
 have q1 : Bi_rulesText (.h1 (GA5I.mk r.Stack r.River r.Road r.Supply r.Turns) 1 r [wordsB ⟨#[115, 116, 97, 99, 107]⟩ [r.Stack]]) = some (.inl (.h1 (GA5I.mk r.Stack r.River r.Road r.Supply r.Turns) 2 r [wordsB ⟨#[115, 116, 97, 99, 107]⟩ [r.Stack], wordsB ⟨#[114, 105, 118, 101, 114]⟩ [r.River]])) := by
  simp only [Bi_rulesText]
  rw [if_pos (by decide), if_neg (by decide), if_pos (by trivial), if_pos (by decide), show gv100[Int.toNat 1]? = some (⟨#[114, 105, 118, 101, 114]⟩ : ByteArray) from rfl, Option.bind_some, e1, Option.bind_some, if_pos (by simp)]
  rfl
 have q2 : Bi_rulesText (.h1 (GA5I.mk r.Stack r.River r.Road r.Supply r.Turns) 2 r [wordsB ⟨#[115, 116, 97, 99, 107]⟩ [r.Stack], wordsB ⟨#[114, 105, 118, 101, 114]⟩ [r.River]]) = some (.inl (.h1 (GA5I.mk r.Stack r.River r.Road r.Supply r.Turns) 3 r [wordsB ⟨#[115, 116, 97, 99, 107]⟩ [r.Stack], wordsB ⟨#[114, 105, 118, 101, 114]⟩ [r.River], wordsB ⟨#[114, 111, 97, 100]⟩ [r.Road]])) := by
  simp only [Bi_rulesText]
  rw [if_pos (by decide), if_neg (by decide), if_neg (by decide), if_pos (by trivial), if_pos (by decide), show gv100[Int.toNat 2]? = some (⟨#[114, 111, 97, 100]⟩ : ByteArray) from rfl, Option.bind_some, e2, Option.bind_some, if_pos (by simp)]
  rfl
 have q3 : Bi_rulesText (.h1 (GA5I.mk r.Stack r.River r.Road r.Supply r.Turns) 3 r [wordsB ⟨#[115, 116, 97, 99, 107]⟩ [r.Stack], wordsB ⟨#[114, 105, 118, 101, 114]⟩ [r.River], wordsB ⟨#[114, 111, 97, 100]⟩ [r.Road]]) = some (.inl (.h1 (GA5I.mk r.Stack r.River r.Road r.Supply r.Turns) 4 r [wordsB ⟨#[115, 116, 97, 99, 107]⟩ [r.Stack], wordsB ⟨#[114, 105, 118, 101, 114]⟩ [r.River], wordsB ⟨#[114, 111, 97, 100]⟩ [r.Road], wordsB ⟨#[115, 117, 112, 112, 108, 121]⟩ [r.Supply]])) := by
  simp only [Bi_rulesText]
  rw [if_pos (by decide), if_neg (by decide), if_neg (by decide), if_neg (by decide), if_pos (by trivial), if_pos (by decide), show gv100[Int.toNat 3]? = some (⟨#[115, 117, 112, 112, 108, 121]⟩ : ByteArray) from rfl, Option.bind_some, e3, Option.bind_some, if_pos (by simp)]
  rfl
 have q4 : Bi_rulesText (.h1 (GA5I.mk r.Stack r.River r.Road r.Supply r.Turns) 4 r [wordsB ⟨#[115, 116, 97, 99, 107]⟩ [r.Stack], wordsB ⟨#[114, 105, 118, 101, 114]⟩ [r.River], wordsB ⟨#[114, 111, 97, 100]⟩ [r.Road], wordsB ⟨#[115, 117, 112, 112, 108, 121]⟩ [r.Supply]]) = some (.inl (.h1 (GA5I.mk r.Stack r.River r.Road r.Supply r.Turns) 5 r [wordsB ⟨#[115, 116, 97, 99, 107]⟩ [r.Stack], wordsB ⟨#[114, 105, 118, 101, 114]⟩ [r.River], wordsB ⟨#[114, 111, 97, 100]⟩ [r.Road], wordsB ⟨#[115, 117, 112, 112, 108, 121]⟩ [r.Supply], wordsB ⟨#[116, 117, 114, 110, 115]⟩ [r.Turns]])) := by
  simp only [Bi_rulesText]
  rw [if_pos (by decide), if_neg (by decide), if_neg (by decide), if_neg (by decide), if_neg (by decide), if_pos (by trivial), if_pos (by decide), show gv100[Int.toNat 4]? = some (⟨#[116, 117, 114, 110, 115]⟩ : ByteArray) from rfl, Option.bind_some, e4, Option.bind_some, if_pos (by simp)]
  rfl
 obtain ⟨bk, k1, k2, k3, k4⟩ := linesOf (l := r.Kinds) fun x hx => kind_i (h.k x hx)
 obtain ⟨bt, t1, t2, t3, t4⟩ := linesOf (l := r.Terrains) fun x hx => terr_it (h.t x hx)
 unfold Tx Di_rulesText
 rw [loop_eq, q0]; simp only [goOn]
 rw [loop_eq, q1]; simp only [goOn]
 rw [loop_eq, q2]; simp only [goOn]
 rw [loop_eq, q3]; simp only [goOn]
 rw [loop_eq, q4]; simp only [goOn]
 simp only [sz_mk, List.size_toArray, List.length_cons, List.length_nil] at s0 s1 s2 s3 s4
 have l0 := byL_words ⟨#[115, 116, 97, 99, 107]⟩ [r.Stack]
 have l1 := byL_words ⟨#[114, 105, 118, 101, 114]⟩ [r.River]
 have l2 := byL_words ⟨#[114, 111, 97, 100]⟩ [r.Road]
 have l3 := byL_words ⟨#[115, 117, 112, 112, 108, 121]⟩ [r.Supply]
 have l4 := byL_words ⟨#[116, 117, 114, 110, 115]⟩ [r.Turns]
 clear q0 q1 q2 q3 q4
 generalize wordsB ⟨#[115, 116, 97, 99, 107]⟩ [r.Stack] = w0 at *
 generalize wordsB ⟨#[114, 105, 118, 101, 114]⟩ [r.River] = w1 at *
 generalize wordsB ⟨#[114, 111, 97, 100]⟩ [r.Road] = w2 at *
 generalize wordsB ⟨#[115, 117, 112, 112, 108, 121]⟩ [r.Supply] = w3 at *
 generalize wordsB ⟨#[116, 117, 114, 110, 115]⟩ [r.Turns] = w4 at *
 generalize hP : [w0, w1, w2, w3, w4] = P
 have hPl : P.length = 5 := by rw [← hP]; rfl
 rw [loop_eq]
 simp only [Bi_rulesText]
 rw [if_neg (by decide)]
 simp only [goOn]
 have a1 := app_loop (B := Bi_rulesText) (S := fun acc i => .h2 r.Kinds (r.Kinds.length : Int) (i : Int) r (P ++ acc)) (l := bk) (g := fun b => b) (fin := fun acc => loop Bi_rulesText (.h3 r.Terrains (r.Terrains.length : Int) 0 (P ++ acc))) (fun acc i b hb hi ha => by
  have hi' : i < r.Kinds.length := by omega
  obtain ⟨b', f1, f2⟩ := k2 i _ (List.getElem?_eq_getElem hi')
  rw [hb] at f1
  cases f1
  simp only [Bi_rulesText, Int.toNat_natCast, List.getElem?_eq_getElem hi', f2, Option.bind_some]
  rw [if_pos (by omega), if_pos (by omega), if_pos (by simp only [List.length_append, List.length_cons, List.length_nil]; omega), wsucc (by omega), List.append_assoc]) fun acc ha => by
  simp only [Bi_rulesText]
  rw [if_neg (by omega)]
  rfl
 have a2 := app_loop (B := Bi_rulesText) (S := fun acc i => .h3 r.Terrains (r.Terrains.length : Int) (i : Int) ((P ++ bk) ++ acc)) (l := bt) (g := fun b => b) (fin := fun acc => (Dstrings_Join ((P ++ bk) ++ acc) ⟨#[10]⟩).bind fun r2 => if ByteArray.size r2 + ByteArray.size ⟨#[10]⟩ ≤ 9223372036854775807 then some (r2 ++ ⟨#[10]⟩) else none) (fun acc i b hb hi ha => by
  have hi' : i < r.Terrains.length := by omega
  obtain ⟨b', f1, f2⟩ := t2 i _ (List.getElem?_eq_getElem hi')
  rw [hb] at f1
  cases f1
  simp only [Bi_rulesText, Int.toNat_natCast, List.getElem?_eq_getElem hi', f2, Option.bind_some]
  rw [if_pos (by omega), if_pos (by omega), if_pos (by simp only [List.length_append, List.length_cons, List.length_nil]; omega), wsucc (by omega), List.append_assoc]) fun acc ha => by
  simp only [Bi_rulesText]
  rw [if_neg (by omega)]
  cases Dstrings_Join ((P ++ bk) ++ acc) ⟨#[10]⟩ with
  | none => rfl
  | some x =>
   simp only [Option.bind_some]
   split <;> rfl
 simp only [List.map_id', List.append_nil] at a1 a2
 rw [show loop Bi_rulesText (.h2 r.Kinds (r.Kinds.length : Int) 0 r P) = _ from a1]
 rw [show loop Bi_rulesText (.h3 r.Terrains (r.Terrains.length : Int) 0 (P ++ bk)) = _ from a2]
 have hsz : ∀ x ∈ (P ++ bk) ++ bt, ByteArray.size x ≤ 300 := fun x hx => by
  rcases List.mem_append.1 hx with hx | hx
  ·rcases List.mem_append.1 hx with hx | hx
   ·rw [← hP] at hx
    simp only [List.mem_cons, List.not_mem_nil, or_false] at hx
    rcases hx with rfl | rfl | rfl | rfl | rfl <;> omega
   ·have := k4 x hx; omega
  ·exact t4 x hx
 have hj := joinT_size hsz
 have hjl : ((P ++ bk) ++ bt).length ≤ 15 := by simp only [List.length_append]; omega
 have hJ : Dstrings_Join ((P ++ bk) ++ bt) ⟨#[10]⟩ = some (joinB ((P ++ bk) ++ bt) ⟨#[10]⟩) := if_pos ⟨by omega, Nat.le_trans hj (by omega)⟩
 have hJs : ByteArray.size (joinB ((P ++ bk) ++ bt) ⟨#[10]⟩) ≤ 301 * 15 := by
  rw [by_size]
  unfold joinB
  rw [byL_mk]
  exact Nat.le_trans hj (by omega)
 rw [hJ, Option.bind_some, if_pos (by simp only [sz_mk, List.size_toArray, List.length_cons, List.length_nil]; omega)]
 refine ⟨_, rfl, ?_, by simp only [ByteArray.size_append, sz_mk, List.size_toArray, List.length_cons, List.length_nil]; omega⟩
 rw [joinT (by rw [← hP]; simp)]
 unfold rulesL limL
 have hmm : ((P ++ bk) ++ bt).map (fun x => byL x ++ [10]) = (((P.map byL) ++ (bk.map byL)) ++ (bt.map byL)).map fun x => x ++ [10] := by
  simp only [List.map_append, List.map_map]
  rfl
 rw [hmm, k3, t3, ← hP]
 simp only [List.map_cons, List.map_nil, l0, l1, l2, l3, l4]
 simp [byL_arr]
def lim0 : List ByteArray := [⟨#[115, 116, 97, 99, 107]⟩, ⟨#[114, 105, 118, 101, 114]⟩, ⟨#[114, 111, 97, 100]⟩, ⟨#[115, 117, 112, 112, 108, 121]⟩, ⟨#[116, 117, 114, 110, 115]⟩]
theorem lim_s {r : Gi_Rules} {i : Nat} {nm : ByteArray} {v : Int} (hi : i < 5) (h1 : lim0[i]? = some nm) (h2 : [r.Stack, r.River, r.Road, r.Supply, r.Turns][i]? = some v) (hn : ByteArray.size nm ≤ 6) (hv : 0 ≤ v ∧ v ≤ 100) {acc : ByteArray} (ha : ByteArray.size acc ≤ 1000) :
  loop Bs_bfText (.h1 acc 5 (i : Int) r lim0) = loop Bs_bfText (.h1 (acc ++ (((nm ++ ⟨#[32]⟩) ++ itoaB v) ++ ⟨#[10]⟩)) 5 ((i + 1 : Nat) : Int) r lim0) ∧ ByteArray.size (acc ++ (((nm ++ ⟨#[32]⟩) ++ itoaB v) ++ ⟨#[10]⟩)) ≤ ByteArray.size acc + 28 := by
 have e := num_s (n := v) (by omega) (by omega)
 have s := num_size (n := v) (i64_of (by omega))
 refine ⟨?_, by simp only [ByteArray.size_append, sz_mk, List.size_toArray, List.length_cons, List.length_nil]; omega⟩
 rw [loop_eq]
 simp only [Bs_bfText, Ds_bfValues, Int.toNat_natCast, h1, h2, e, Option.bind_some]
 rw [if_pos (by omega), if_pos (by omega), if_pos (by simp only [sz_mk, List.size_toArray, List.length_cons, List.length_nil]; omega), if_pos (by omega), if_pos (by simp only [ByteArray.size_append, sz_mk, List.size_toArray, List.length_cons, List.length_nil]; omega), if_pos (by simp only [ByteArray.size_append, sz_mk, List.size_toArray, List.length_cons, List.length_nil]; omega), if_pos (by simp only [ByteArray.size_append, sz_mk, List.size_toArray, List.length_cons, List.length_nil]; omega), wsucc (by omega)]
 rfl
theorem rules_s {r : Gi_Rules} (h : RlT r) : Tx (Ds_bfText r) (rulesL r) 10000 := by
 have ht := h.ok.t; have hk := h.ok.k; have he := h.ok.e
 obtain ⟨bk, k1, k2, k3, k4⟩ := linesOf (l := r.Kinds) fun x hx => kind_s (h.k x hx)
 obtain ⟨bt, t1, t2, t3, t4⟩ := linesOf (l := r.Terrains) fun x hx => terr_st (h.t x hx)
 unfold Tx Ds_bfText Ds_bfLimits
 rw [Option.bind_some]
 have z0 : ByteArray.size ⟨#[]⟩ = 0 := rfl
 obtain ⟨g0, u0⟩ := lim_s (r := r) (i := 0) (nm := ⟨#[115, 116, 97, 99, 107]⟩) (v := r.Stack) (by omega) rfl rfl (by decide) (by omega) (acc := ⟨#[]⟩) (by omega)
 have m0 : byL ((⟨#[]⟩ : ByteArray) ++ (((⟨#[115, 116, 97, 99, 107]⟩ ++ ⟨#[32]⟩) ++ itoaB r.Stack) ++ ⟨#[10]⟩)) = byL (⟨#[]⟩ : ByteArray) ++ ([115, 116, 97, 99, 107, 32] ++ Lib.itoa r.Stack ++ [10]) := by simp only [byL_app, byL_itoa]; simp [byL_arr]
 generalize (⟨#[]⟩ : ByteArray) ++ (((⟨#[115, 116, 97, 99, 107]⟩ ++ ⟨#[32]⟩) ++ itoaB r.Stack) ++ ⟨#[10]⟩) = c0 at g0 u0 m0
 obtain ⟨g1, u1⟩ := lim_s (r := r) (i := 1) (nm := ⟨#[114, 105, 118, 101, 114]⟩) (v := r.River) (by omega) rfl rfl (by decide) (by omega) (acc := c0) (by omega)
 have m1 : byL (c0 ++ (((⟨#[114, 105, 118, 101, 114]⟩ ++ ⟨#[32]⟩) ++ itoaB r.River) ++ ⟨#[10]⟩)) = byL c0 ++ ([114, 105, 118, 101, 114, 32] ++ Lib.itoa r.River ++ [10]) := by simp only [byL_app, byL_itoa]; simp [byL_arr]
 generalize c0 ++ (((⟨#[114, 105, 118, 101, 114]⟩ ++ ⟨#[32]⟩) ++ itoaB r.River) ++ ⟨#[10]⟩) = c1 at g1 u1 m1
 obtain ⟨g2, u2⟩ := lim_s (r := r) (i := 2) (nm := ⟨#[114, 111, 97, 100]⟩) (v := r.Road) (by omega) rfl rfl (by decide) (by omega) (acc := c1) (by omega)
 have m2 : byL (c1 ++ (((⟨#[114, 111, 97, 100]⟩ ++ ⟨#[32]⟩) ++ itoaB r.Road) ++ ⟨#[10]⟩)) = byL c1 ++ ([114, 111, 97, 100, 32] ++ Lib.itoa r.Road ++ [10]) := by simp only [byL_app, byL_itoa]; simp [byL_arr]
 generalize c1 ++ (((⟨#[114, 111, 97, 100]⟩ ++ ⟨#[32]⟩) ++ itoaB r.Road) ++ ⟨#[10]⟩) = c2 at g2 u2 m2
 obtain ⟨g3, u3⟩ := lim_s (r := r) (i := 3) (nm := ⟨#[115, 117, 112, 112, 108, 121]⟩) (v := r.Supply) (by omega) rfl rfl (by decide) (by omega) (acc := c2) (by omega)
 have m3 : byL (c2 ++ (((⟨#[115, 117, 112, 112, 108, 121]⟩ ++ ⟨#[32]⟩) ++ itoaB r.Supply) ++ ⟨#[10]⟩)) = byL c2 ++ ([115, 117, 112, 112, 108, 121, 32] ++ Lib.itoa r.Supply ++ [10]) := by simp only [byL_app, byL_itoa]; simp [byL_arr]
 generalize c2 ++ (((⟨#[115, 117, 112, 112, 108, 121]⟩ ++ ⟨#[32]⟩) ++ itoaB r.Supply) ++ ⟨#[10]⟩) = c3 at g3 u3 m3
 obtain ⟨g4, u4⟩ := lim_s (r := r) (i := 4) (nm := ⟨#[116, 117, 114, 110, 115]⟩) (v := r.Turns) (by omega) rfl rfl (by decide) (by omega) (acc := c3) (by omega)
 have m4 : byL (c3 ++ (((⟨#[116, 117, 114, 110, 115]⟩ ++ ⟨#[32]⟩) ++ itoaB r.Turns) ++ ⟨#[10]⟩)) = byL c3 ++ ([116, 117, 114, 110, 115, 32] ++ Lib.itoa r.Turns ++ [10]) := by simp only [byL_app, byL_itoa]; simp [byL_arr]
 generalize c3 ++ (((⟨#[116, 117, 114, 110, 115]⟩ ++ ⟨#[32]⟩) ++ itoaB r.Turns) ++ ⟨#[10]⟩) = c4 at g4 u4 m4
 show ∃ b, loop Bs_bfText (.h1 ⟨#[]⟩ 5 0 r lim0) = some b ∧ byL b = rulesL r ∧ ByteArray.size b ≤ 10000
 rw [show loop Bs_bfText (.h1 ⟨#[]⟩ 5 0 r lim0) = _ from g0, g1, g2, g3, g4, loop_eq]
 simp only [Bs_bfText]
 rw [if_neg (by decide)]
 simp only [goOn]
 have hcat : ∀ (bs : List ByteArray) (a : ByteArray), byL (bs.foldl (fun o x => o ++ (x ++ ⟨#[10]⟩)) a) = byL a ++ ((bs.map byL).map fun x => x ++ [10]).flatten := fun bs a => by
  rw [cat_byL (g := fun x => x ++ ⟨#[10]⟩)]
  congr 2
  rw [List.map_map]
  exact List.map_congr_left fun x _ => by rw [byL_app]; rfl
 have d1 := cat_loop (B := Bs_bfText) (S := fun acc i => .h2 acc r.Kinds (r.Kinds.length : Int) (i : Int) r) (l := bk) (g := fun x => x ++ ⟨#[10]⟩) (K := 301) (a0 := c4) (fin := fun acc => loop Bs_bfText (.h3 acc r.Terrains (r.Terrains.length : Int) 0)) (fun acc i b hb hi ha => by
  have hi' : i < r.Kinds.length := by omega
  obtain ⟨b', f1, f2⟩ := k2 i _ (List.getElem?_eq_getElem hi')
  rw [hb] at f1
  cases f1
  have hs := k4 b (List.mem_of_getElem? hb)
  refine ⟨?_, by simp only [ByteArray.size_append, sz_mk, List.size_toArray, List.length_cons, List.length_nil]; omega⟩
  simp only [Bs_bfText, Int.toNat_natCast, List.getElem?_eq_getElem hi', f2, Option.bind_some]
  rw [if_pos (by omega), if_pos (by omega), if_pos (by simp only [sz_mk, List.size_toArray, List.length_cons, List.length_nil]; omega), if_pos (by simp only [ByteArray.size_append, sz_mk, List.size_toArray, List.length_cons, List.length_nil]; omega), wsucc (by omega)]) fun acc ha => by
  simp only [Bs_bfText]
  rw [if_neg (by omega)]
  rfl
 have n1 := cat_size (g := fun x => x ++ (⟨#[10]⟩ : ByteArray)) (K := 301) bk c4 fun x hx => by have := k4 x hx; simp only [ByteArray.size_append, sz_mk, List.size_toArray, List.length_cons, List.length_nil]; omega
 rw [show loop Bs_bfText (.h2 c4 r.Kinds (r.Kinds.length : Int) 0 r) = _ from d1]
 have p1 := hcat bk c4
 generalize bk.foldl (fun o x => o ++ (x ++ ⟨#[10]⟩)) c4 = c5 at *
 have d2 := cat_loop (B := Bs_bfText) (S := fun acc i => .h3 acc r.Terrains (r.Terrains.length : Int) (i : Int)) (l := bt) (g := fun x => x ++ ⟨#[10]⟩) (K := 301) (a0 := c5) (fin := fun acc => some acc) (fun acc i b hb hi ha => by
  have hi' : i < r.Terrains.length := by omega
  obtain ⟨b', f1, f2⟩ := t2 i _ (List.getElem?_eq_getElem hi')
  rw [hb] at f1
  cases f1
  have hs := t4 b (List.mem_of_getElem? hb)
  refine ⟨?_, by simp only [ByteArray.size_append, sz_mk, List.size_toArray, List.length_cons, List.length_nil]; omega⟩
  simp only [Bs_bfText, Int.toNat_natCast, List.getElem?_eq_getElem hi', f2, Option.bind_some]
  rw [if_pos (by omega), if_pos (by omega), if_pos (by simp only [sz_mk, List.size_toArray, List.length_cons, List.length_nil]; omega), if_pos (by simp only [ByteArray.size_append, sz_mk, List.size_toArray, List.length_cons, List.length_nil]; omega), wsucc (by omega)]) fun acc ha => by
  simp only [Bs_bfText]
  rw [if_neg (by omega)]
  rfl
 have n2 := cat_size (g := fun x => x ++ (⟨#[10]⟩ : ByteArray)) (K := 301) bt c5 fun x hx => by have := t4 x hx; simp only [ByteArray.size_append, sz_mk, List.size_toArray, List.length_cons, List.length_nil]; omega
 have p2 := hcat bt c5
 refine ⟨_, d2, ?_, by omega⟩
 rw [p2, p1, m4, m3, m2, m1, m0, k3, t3]
 unfold rulesL limL
 simp [byL_arr]

theorem rlT_of {r : Gi_Rules} (h : rlG r = true) : RlT r := by
 have ho := rlG_ok h
 simp only [rlG, Bool.and_eq_true] at h
 obtain ⟨⟨⟨⟨_, _⟩, h3⟩, h4⟩, _⟩ := h
 have h3' := alli_iff.1 h3
 have h4' := alli_iff.1 h4
 have hnm : ∀ s : ByteArray, nmB s = true → s.size ≤ 8 := fun s hs => by
  unfold nmB at hs
  rw [Bool.and_eq_true] at hs
  have := kIn_iff.1 hs.2
  omega
 refine ⟨ho, fun x hx => ?_, fun x hx => ?_⟩
 ·obtain ⟨i, hi⟩ := List.getElem?_of_mem hx
  have h5 := h4' i x hi
  simp only [kdOk, Bool.and_eq_true] at h5
  have h6 := ho.ks x hx
  exact ⟨hnm _ h5.1.1.1.1.1, by omega, by omega, by omega, by omega⟩
 ·obtain ⟨i, hi⟩ := List.getElem?_of_mem hx
  have h5 := h3' i x hi
  simp only [trOk, Bool.and_eq_true] at h5
  have h6 := ho.sh x hx
  have h7 := ho.ts x hx
  exact ⟨hnm _ h5.1.1.1.1.1, by omega, by omega, by have := ho.k; omega, h7.2⟩
theorem mlist_s {w : ByteArray} {l : List Int} (hw : w.size ≤ 100) (hn : l.length ≤ 2000000) (hl : ∀ x ∈ l, 0 ≤ x ∧ x ≤ 1000000) : Tx (Ds_mList w l) (byL w ++ numsL l ++ [10]) (w.size + 21 * l.length + 1) := by
 have key := cat_loop (B := Bs_mList) (S := fun acc i => .h1 acc l (l.length : Int) (i : Int)) (l := l) (g := fun n => ⟨#[32]⟩ ++ itoaB n) (K := 21) (a0 := w) (fin := fun acc => some (acc ++ ⟨#[10]⟩)) (fun acc i x hx hi ha => by
  have hc := hl x (List.mem_of_getElem? hx)
  have e := num_s (n := x) (by omega) (by omega)
  have s := num_size (n := x) (i64_of (by omega))
  refine ⟨?_, by simp only [ByteArray.size_append, sz_mk, List.size_toArray, List.length_cons, List.length_nil]; omega⟩
  simp only [Bs_mList, Int.toNat_natCast, hx, e, Option.bind_some]
  rw [if_pos (by omega), if_pos (by omega), if_pos (by simp only [sz_mk, List.size_toArray, List.length_cons, List.length_nil]; omega), if_pos (by simp only [ByteArray.size_append, sz_mk, List.size_toArray, List.length_cons, List.length_nil]; omega), wsucc (by omega)]) fun acc ha => by
  simp only [Bs_mList]
  rw [if_neg (by omega), if_pos (by simp only [sz_mk, List.size_toArray, List.length_cons, List.length_nil]; omega)]
  rfl
 have hcs := cat_size (g := fun n => (⟨#[32]⟩ : ByteArray) ++ itoaB n) (K := 21) l w (fun x hx => by
  have hc := hl x hx
  have s := num_size (n := x) (i64_of (by omega))
  simp only [ByteArray.size_append, sz_mk, List.size_toArray, List.length_cons, List.length_nil]; omega)
 have hcl := cat_byL (g := fun n => (⟨#[32]⟩ : ByteArray) ++ itoaB n) l w
 have hm : (l.map fun x => byL ((⟨#[32]⟩ : ByteArray) ++ itoaB x)) = l.map fun n => (32 : UInt8) :: Lib.itoa n := List.map_congr_left fun x _ => by rw [byL_app, byL_itoa, byL_arr]; rfl
 rw [hm] at hcl
 refine ⟨_, key, ?_, by rw [ByteArray.size_append]; simp only [sz_mk, List.size_toArray, List.length_cons, List.length_nil]; omega⟩
 rw [byL_app, hcl]
 rfl
theorem wlist_i {w : ByteArray} {l : List Int} (hw : w.size ≤ 100) (hn : l.length ≤ 2000000) (hl : ∀ x ∈ l, 0 ≤ x ∧ x ≤ 1000000) : Tx (Di_wordsText w l) (byL w ++ numsL l) (w.size + 21 * l.length) := by
 have h : ∀ x ∈ l, I64 x := fun x hx => i64_of (by have := hl x hx; omega)
 exact ⟨_, words_i (by omega) hn h, byL_words w l, words_size h⟩
def cellG (m : Gi_Map) (i : Nat) : ByteArray := if (i : Int) % m.Width = m.Width - 1 then itoaB (m.Terrain.getD i 0) ++ ⟨#[10]⟩ else itoaB (m.Terrain.getD i 0)
def cellsL (m : Gi_Map) : List UInt8 := ((List.range m.Terrain.length).map fun i => byL (cellG m i)).flatten
def mapL (m : Gi_Map) : List UInt8 := [109, 97, 112, 32] ++ Lib.itoa m.Width ++ [32] ++ Lib.itoa m.Height ++ [10] ++ cellsL m ++ ([114, 105, 118, 101, 114, 115] ++ numsL m.Rivers ++ [10]) ++ ([114, 111, 97, 100, 115] ++ numsL m.Roads ++ [10])
structure MpT (m : Gi_Map) : Prop where
 d : MpDim m 10
 n : m.Terrain.length ≤ 100
 t : ∀ x ∈ m.Terrain, 0 ≤ x ∧ x ≤ 5
 r : m.Rivers.length ≤ 2000000
 o : m.Roads.length ≤ 2000000
 rs : ∀ x ∈ m.Rivers, 0 ≤ x ∧ x ≤ 1000000
 os : ∀ x ∈ m.Roads, 0 ≤ x ∧ x ≤ 1000000
theorem mpT_of {b : Gi_Board} (h : BdV b) : MpT b.Map := by
 have hd := h.ok.d
 have hm := mir_mul hd
 obtain ⟨_, _, g3, g4⟩ := mpGood_dim (bdG_mp h.g)
 have he : ∀ l : List Int, mpList b.Map l = true → ∀ x ∈ l, 0 ≤ x ∧ x ≤ 1000000 := fun l hl x hx => by
  unfold mpList at hl
  rw [Bool.and_eq_true] at hl
  have := mpEdge_iff.1 (List.all_eq_true.1 hl.1 x hx)
  omega
 exact ⟨hd, h.ok.n2.2, mpGood_terr (bdG_mp h.g), h.l.m.2.1, h.l.m.2.2, he _ g3, he _ g4⟩
theorem cellG_size {m : Gi_Map} (h : MpT m) {i : Nat} (hi : i < m.Terrain.length) : (cellG m i).size ≤ 21 := by
 have hx : m.Terrain.getD i 0 ∈ m.Terrain := by rw [List.getD_eq_getElem?_getD, List.getElem?_eq_getElem hi]; exact List.getElem_mem hi
 have hb := h.t _ hx
 have s := num_size (n := m.Terrain.getD i 0) (i64_of (by omega))
 unfold cellG
 split
 ·simp only [ByteArray.size_append, sz_mk, List.size_toArray, List.length_cons, List.length_nil]; omega
 ·omega
theorem map_it {m : Gi_Map} (h : MpT m) : Tx (Di_mapText m) (mapL m) 100000000 := by
 have hd := h.d; have hn := h.n; have hr := h.r; have ho := h.o
 unfold MpDim at hd
 obtain ⟨br, r1, r2, r3⟩ := wlist_i (w := ⟨#[114, 105, 118, 101, 114, 115]⟩) (l := m.Rivers) (by decide) hr h.rs
 obtain ⟨bo, o1, o2, o3⟩ := wlist_i (w := ⟨#[114, 111, 97, 100, 115]⟩) (l := m.Roads) (by decide) ho h.os
 simp only [sz_mk, List.size_toArray, List.length_cons, List.length_nil] at r3 o3
 have hwh : ∀ x ∈ [m.Width, m.Height], 0 ≤ x ∧ x ≤ 1000000 := fun x hx => by
  simp only [List.mem_cons, List.not_mem_nil, or_false] at hx
  rcases hx with rfl | rfl <;> omega
 obtain ⟨bw, w1, w2, w3⟩ := wlist_i (w := ⟨#[109, 97, 112]⟩) (l := [m.Width, m.Height]) (by decide) (by simp) hwh
 simp only [sz_mk, List.size_toArray, List.length_cons, List.length_nil] at w3
 unfold Tx Di_mapText
 rw [w1, Option.bind_some, if_pos (by simp only [sz_mk, List.size_toArray, List.length_cons, List.length_nil]; omega)]
 generalize hb : bw ++ (⟨#[10]⟩ : ByteArray) = b0
 have hs0 : b0.size ≤ 100 := by rw [← hb]; simp only [ByteArray.size_append, sz_mk, List.size_toArray, List.length_cons, List.length_nil]; omega
 have hl0 : byL b0 = [109, 97, 112, 32] ++ Lib.itoa m.Width ++ [32] ++ Lib.itoa m.Height ++ [10] := by
  rw [← hb]
  simp only [byL_app, w2, numsL]
  simp [byL_arr]
 have hT : ∀ (i : Nat) x, (List.range m.Terrain.length)[i]? = some x → x = i ∧ i < m.Terrain.length := fun i x hx => by
  have h1 := (List.getElem?_eq_some_iff.1 hx).1
  rw [List.getElem?_range (by simpa using h1)] at hx
  exact ⟨by cases hx; rfl, by simpa using h1⟩
 have key := cat_loop (B := Bi_mapText) (S := fun acc i => .h1 acc m.Terrain (m.Terrain.length : Int) (i : Int) m) (l := List.range m.Terrain.length) (g := cellG m) (K := 21) (a0 := b0) (fin := fun acc => some ((((acc ++ br) ++ ⟨#[10]⟩) ++ bo) ++ ⟨#[10]⟩)) (fun acc i x hx hi ha => by
  obtain ⟨rfl, hi⟩ := hT i x hx
  have hx0 : m.Terrain[x]? = some (m.Terrain.getD x 0) := by rw [List.getElem?_eq_getElem hi, List.getD_eq_getElem?_getD, List.getElem?_eq_getElem hi]; rfl
  have hb := h.t _ (List.mem_of_getElem? hx0)
  have e := itoa_i (n := m.Terrain.getD x 0) (i64_of (by omega))
  have s := num_size (n := m.Terrain.getD x 0) (i64_of (by omega))
  have hm : Int.tmod (x : Int) m.Width = (x : Int) % m.Width := Int.tmod_eq_emod_of_nonneg (by omega)
  refine ⟨?_, cellG_size h hi⟩
  simp only [Bi_mapText, Int.toNat_natCast, hx0, e, Option.bind_some, hm, w64 (n := m.Width - 1) (by omega)]
  unfold cellG
  rw [if_pos (by omega), if_pos (by omega), if_pos (by omega), if_pos (by omega)]
  by_cases c : (x : Int) % m.Width = m.Width - 1
  ·rw [if_pos c, if_pos c, if_pos (by simp only [ByteArray.size_append, sz_mk, List.size_toArray, List.length_cons, List.length_nil]; omega), wsucc (by omega), ByteArray.append_assoc]
  ·rw [if_neg c, if_neg c, wsucc (by omega)]) fun acc ha => by
  rw [List.length_range] at ha ⊢
  simp only [Bi_mapText, r1, o1, Option.bind_some]
  rw [if_neg (by omega)]
  repeat rw [if_pos (by first | omega | (simp only [ByteArray.size_append, sz_mk, List.size_toArray, List.length_cons, List.length_nil]; omega))]
  rfl
 have hcs := cat_size (g := cellG m) (K := 21) (List.range m.Terrain.length) b0 fun x hx => cellG_size h (List.mem_range.1 hx)
 rw [List.length_range] at hcs
 have hcl := cat_byL (g := cellG m) (List.range m.Terrain.length) b0
 refine ⟨_, key, ?_, by simp only [ByteArray.size_append, sz_mk, List.size_toArray, List.length_cons, List.length_nil]; omega⟩
 simp only [byL_app, hcl, hl0, r2, o2]
 unfold mapL cellsL
 simp [byL_arr]
theorem map_st {m : Gi_Map} (h : MpT m) : Tx (Ds_mText m) (mapL m) 100000000 := by
 have hd := h.d; have hn := h.n; have hr := h.r; have ho := h.o
 unfold MpDim at hd
 obtain ⟨br, r1, r2, r3⟩ := mlist_s (w := ⟨#[114, 105, 118, 101, 114, 115]⟩) (l := m.Rivers) (by decide) hr h.rs
 obtain ⟨bo, o1, o2, o3⟩ := mlist_s (w := ⟨#[114, 111, 97, 100, 115]⟩) (l := m.Roads) (by decide) ho h.os
 simp only [sz_mk, List.size_toArray, List.length_cons, List.length_nil] at r3 o3
 have e1 := num_s (n := m.Width) (by omega) (by omega)
 have e2 := num_s (n := m.Height) (by omega) (by omega)
 have s1 := num_size (n := m.Width) (i64_of (by omega))
 have s2 := num_size (n := m.Height) (i64_of (by omega))
 unfold Tx Ds_mText
 simp only [e1, e2, Option.bind_some]
 repeat rw [if_pos (by simp only [ByteArray.size_append, sz_mk, List.size_toArray, List.length_cons, List.length_nil]; omega)]
 generalize hb : ((((⟨#[109, 97, 112, 32]⟩ : ByteArray) ++ itoaB m.Width) ++ ⟨#[32]⟩) ++ itoaB m.Height) ++ ⟨#[10]⟩ = b0
 have hs0 : b0.size ≤ 100 := by rw [← hb]; simp only [ByteArray.size_append, sz_mk, List.size_toArray, List.length_cons, List.length_nil]; omega
 have hl0 : byL b0 = [109, 97, 112, 32] ++ Lib.itoa m.Width ++ [32] ++ Lib.itoa m.Height ++ [10] := by
  rw [← hb]
  simp only [byL_app, byL_itoa]
  simp [byL_arr]
 have hT : ∀ (i : Nat) x, (List.range m.Terrain.length)[i]? = some x → x = i ∧ i < m.Terrain.length := fun i x hx => by
  have h1 := (List.getElem?_eq_some_iff.1 hx).1
  rw [List.getElem?_range (by simpa using h1)] at hx
  exact ⟨by cases hx; rfl, by simpa using h1⟩
 have key := cat_loop (B := Bs_mText) (S := fun acc i => .h1 acc m.Terrain (m.Terrain.length : Int) (i : Int) m) (l := List.range m.Terrain.length) (g := cellG m) (K := 21) (a0 := b0) (fin := fun acc => some ((acc ++ br) ++ bo)) (fun acc i x hx hi ha => by
  obtain ⟨rfl, hi⟩ := hT i x hx
  have hx0 : m.Terrain[x]? = some (m.Terrain.getD x 0) := by rw [List.getElem?_eq_getElem hi, List.getD_eq_getElem?_getD, List.getElem?_eq_getElem hi]; rfl
  have hb := h.t _ (List.mem_of_getElem? hx0)
  have e := num_s (n := m.Terrain.getD x 0) (by omega) (by omega)
  have s := num_size (n := m.Terrain.getD x 0) (i64_of (by omega))
  have hm : Int.tmod (x : Int) m.Width = (x : Int) % m.Width := Int.tmod_eq_emod_of_nonneg (by omega)
  refine ⟨?_, cellG_size h hi⟩
  simp only [Bs_mText, Int.toNat_natCast, hx0, e, Option.bind_some, hm, w64 (n := m.Width - 1) (by omega)]
  unfold cellG
  rw [if_pos (by omega), if_pos (by omega), if_pos (by omega), if_pos (by omega)]
  by_cases c : (x : Int) % m.Width = m.Width - 1
  ·rw [if_pos c, if_pos c, if_pos (by simp only [ByteArray.size_append, sz_mk, List.size_toArray, List.length_cons, List.length_nil]; omega), wsucc (by omega), ByteArray.append_assoc]
  ·rw [if_neg c, if_neg c, wsucc (by omega)]) fun acc ha => by
  rw [List.length_range] at ha ⊢
  simp only [Bs_mText, r1, o1, Option.bind_some]
  rw [if_neg (by omega)]
  repeat rw [if_pos (by first | omega | (simp only [ByteArray.size_append, sz_mk, List.size_toArray, List.length_cons, List.length_nil]; omega))]
  rfl
 have hcs := cat_size (g := cellG m) (K := 21) (List.range m.Terrain.length) b0 fun x hx => cellG_size h (List.mem_range.1 hx)
 rw [List.length_range] at hcs
 have hcl := cat_byL (g := cellG m) (List.range m.Terrain.length) b0
 refine ⟨_, key, ?_, by simp only [ByteArray.size_append, sz_mk, List.size_toArray, List.length_cons, List.length_nil]; omega⟩
 simp only [byL_app, hcl, hl0, r2, o2]
 unfold mapL cellsL
 simp [byL_arr]
theorem board_it {b : Gi_Board} (h : BdV b) (hr : rlG b.Rules = true) : Tx (Di_boardText b) (rulesL b.Rules ++ mapL b.Map) 200000000 := by
 obtain ⟨b1, e1, l1, s1⟩ := rules_i (rlT_of hr)
 obtain ⟨b2, e2, l2, s2⟩ := map_it (mpT_of h)
 unfold Tx Di_boardText
 rw [e1, e2, Option.bind_some, Option.bind_some, if_pos (by omega)]
 exact ⟨_, rfl, by rw [byL_app, l1, l2], by rw [ByteArray.size_append]; omega⟩
theorem board_st {b : Gi_Board} (h : BdV b) (hr : rlG b.Rules = true) : ∃ B, Ds_BoardText b = some (B, true) ∧ byL B = rulesL b.Rules ++ mapL b.Map ∧ B.size ≤ 200000000 := by
 obtain ⟨b1, e1, l1, s1⟩ := rules_s (rlT_of hr)
 obtain ⟨b2, e2, l2, s2⟩ := map_st (mpT_of h)
 unfold Ds_BoardText Ds_bfBoard
 rw [isBoard_s h.l, h.g, Option.bind_some, if_pos rfl, e1, e2, Option.bind_some, Option.bind_some, if_pos (by omega)]
 exact ⟨_, rfl, by rw [byL_app, l1, l2], by rw [ByteArray.size_append]; omega⟩
structure TbT (t : Gi_CombatTable) : Prop where
 c : t.Columns.length ≤ 8
 cs : ∀ x ∈ t.Columns, (0 ≤ x.Num ∧ x.Num ≤ 20) ∧ (0 ≤ x.Den ∧ x.Den ≤ 20)
 d : 0 ≤ t.Dice ∧ t.Dice ≤ 2
 r : t.Results.length ≤ 11
 rs : ∀ x ∈ t.Results, x.length ≤ 8 ∧ ∀ y ∈ x, 0 ≤ y ∧ y ≤ 7
theorem tbT_of {t : Gi_CombatTable} (h : kG t = true) : TbT t := by
 have ho := kG_ok h
 simp only [kG, Bool.and_eq_true, kIn_iff, decide_eq_true_eq] at h
 obtain ⟨⟨⟨⟨h1, h2⟩, h3⟩, h4⟩, h5⟩ := h
 refine ⟨ho.c, fun x hx => ?_, by omega, ho.r, fun x hx => ⟨ho.rs x hx, fun y hy => ?_⟩⟩
 ·obtain ⟨i, hi⟩ := List.getElem?_of_mem hx
  have := alli_iff.1 h4 i x hi
  simp only [kCol, Bool.and_eq_true, kIn_iff] at this
  omega
 ·obtain ⟨i, hi⟩ := List.getElem?_of_mem hx
  have := alli_iff.1 h5 i x hi
  simp only [kRow, Bool.and_eq_true] at this
  obtain ⟨j, hj⟩ := List.getElem?_of_mem hy
  have := kIn_iff.1 (alli_iff.1 this.2 j y hj)
  omega
def oddG (x : Gi_Odds) : ByteArray := ((⟨#[32]⟩ ++ itoaB x.Num) ++ ⟨#[47]⟩) ++ itoaB x.Den
def rowG (x : List Int) : ByteArray := x.foldl (fun o n => o ++ itoaB n) ⟨#[]⟩ ++ ⟨#[10]⟩
theorem foldB {α : Type} {g : α → ByteArray} : ∀ (l : List α) (a : ByteArray), l.foldl (fun o x => o ++ g x) a = a ++ l.foldl (fun o x => o ++ g x) ⟨#[]⟩ := fun l a => by
 refine by_ext ?_
 rw [cat_byL, byL_app, cat_byL]
 rfl
def diceB (d : Int) : ByteArray := (⟨#[32, 100, 105, 99, 101, 32]⟩ ++ itoaB d) ++ ⟨#[10]⟩
def tabB (t : Gi_CombatTable) : ByteArray := t.Results.foldl (fun o x => o ++ rowG x) (t.Columns.foldl (fun o x => o ++ oddG x) ⟨#[111, 100, 100, 115]⟩ ++ diceB t.Dice)
theorem rowG_size {x : List Int} (h : x.length ≤ 8 ∧ ∀ y ∈ x, 0 ≤ y ∧ y ≤ 7) : (rowG x).size ≤ 200 := by
 have := cat_size (g := itoaB) (K := 20) x ⟨#[]⟩ fun y hy => num_size (i64_of (by have := h.2 y hy; omega))
 unfold rowG
 rw [ByteArray.size_append]
 simp only [sz_mk, List.size_toArray, List.length_cons, List.length_nil] at this ⊢
 omega
end Go.Proofs.YtogomlkoocbhcaaGreatDoor.Ab
