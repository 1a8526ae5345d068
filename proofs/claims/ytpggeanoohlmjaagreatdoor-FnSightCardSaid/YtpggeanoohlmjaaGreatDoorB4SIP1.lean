/- Part of the proof of FnSightCard: no condition of its own. -/
import Derived.Test.YtpggeanoohlmjaaGreatDoorB4SIP
set_option linter.unusedVariables false
set_option linter.unusedSimpArgs false
open Go
namespace Go.Proofs.YtpggeanoohlmjaaGreatDoor.Ab
theorem abs_same {a c : Int} (h : a.natAbs + c.natAbs = (a + c).natAbs) : ¬ (a < 0 ∧ 0 < c) ∧ ¬ (0 < a ∧ c < 0) := by omega
theorem geo {a b c d : Int} (h : a.natAbs + b.natAbs + (a + b).natAbs + (c.natAbs + d.natAbs + (c + d).natAbs) = (a + c).natAbs + (b + d).natAbs + (a + c + (b + d)).natAbs) :
    (a.natAbs + c.natAbs = (a + c).natAbs) ∧ (b.natAbs + d.natAbs = (b + d).natAbs) := by
  have h1 : (a + c).natAbs ≤ a.natAbs + c.natAbs := Int.natAbs_add_le ..
  have h2 : (b + d).natAbs ≤ b.natAbs + d.natAbs := Int.natAbs_add_le ..
  have h3 : (a + c + (b + d)).natAbs ≤ (a + b).natAbs + (c + d).natAbs := by
    have := Int.natAbs_add_le (a + b) (c + d)
    rwa [show a + b + (c + d) = a + c + (b + d) by omega] at this
  omega
theorem hd_two (A B : Gi_Hex) : 2 * hd A B = (((B.Q - A.Q).natAbs + (B.R - A.R).natAbs + (B.Q - A.Q + (B.R - A.R)).natAbs : Nat) : Int) := by
  unfold hd
  omega
theorem between {A B x : Gi_Hex} (h : hd A x + hd x B = hd A B) {W H : Int} (hA : (0 ≤ A.Q ∧ A.Q < W) ∧ 0 ≤ A.R ∧ A.R < H) (hB : (0 ≤ B.Q ∧ B.Q < W) ∧ 0 ≤ B.R ∧ B.R < H) : (0 ≤ x.Q ∧ x.Q < W) ∧ 0 ≤ x.R ∧ x.R < H := by
  have e1 := hd_two A x
  have e2 := hd_two x B
  have e3 := hd_two A B
  obtain ⟨g1, g2⟩ := geo (a := x.Q - A.Q) (b := x.R - A.R) (c := B.Q - x.Q) (d := B.R - x.R) (by
    rw [show x.Q - A.Q + (B.Q - x.Q) = B.Q - A.Q by omega, show x.R - A.R + (B.R - x.R) = B.R - A.R by omega]
    omega)
  have s1 := abs_same g1
  have s2 := abs_same g2
  omega
theorem mpHex_in {m : Gi_Map} {i : Int} (hm : MpDim m 100) (hi : 0 ≤ i ∧ i < m.Width * m.Height) : (0 ≤ (mpHex m i).Q ∧ (mpHex m i).Q < m.Width) ∧ 0 ≤ (mpHex m i).R ∧ (mpHex m i).R < m.Height := by
  unfold MpDim at hm
  obtain ⟨d1, d2, d3, d4⟩ := mpDiv hi.1 hm.1
  have d5 : i / m.Width < m.Height := Int.ediv_lt_of_lt_mul (by omega) (by rw [Int.mul_comm]; exact hi.2)
  unfold mpHex
  simp only
  omega
theorem BdV.d100' {b : Gi_Board} (h : BdV b) : MpDim b.Map 100 := by
  have := h.ok.d
  unfold MpDim at this ⊢
  omega
theorem bd_hex {b : Gi_Board} (h : BdV b) {i : Int} (hi : 0 ≤ i ∧ i < b.Map.Terrain.length) : Di_hexOf b.Map i = some (mpHex b.Map i) ∧ Ds_mHex b.Map i = some (mpHex b.Map i) := hexOf_b h.ok.d.1 (by have := h.ok.n2; omega)
theorem bd_in {b : Gi_Board} (h : BdV b) {i : Int} (hi : 0 ≤ i ∧ i < b.Map.Terrain.length) : (0 ≤ (mpHex b.Map i).Q ∧ (mpHex b.Map i).Q < b.Map.Width) ∧ 0 ≤ (mpHex b.Map i).R ∧ (mpHex b.Map i).R < b.Map.Height := mpHex_in h.d100' (by have := h.ok.n; omega)
theorem bd_hx {b : Gi_Board} (h : BdV b) {i : Int} (hi : 0 ≤ i ∧ i < b.Map.Terrain.length) : HexOk (mpHex b.Map i) := by
  have h1 := bd_in h hi
  have h2 := h.ok.d
  unfold MpDim at h2
  unfold HexOk
  omega
/-- The line between two hexes of a board. -/
def lnB (b : Gi_Board) (i k : Int) : List (List Gi_Hex) := hexLineR (mpHex b.Map i) (mpHex b.Map k)
def sgRow (b : Gi_Board) (L : List (List Gi_Hex)) (n : Nat) : List Int := match L[n]? with
  | some row => row.map (mpIdx b.Map)
  | none => []
def sgC (b : Gi_Board) (i k : Int) : List (List Int) := (List.range ((lnB b i k).length - 2)).filterMap fun (j : Nat) => some (sgRow b (lnB b i k) (j + 1))
theorem lnB_ok {b : Gi_Board} (h : BdV b) {i k : Int} (hi : 0 ≤ i ∧ i < b.Map.Terrain.length) (hk : 0 ≤ k ∧ k < b.Map.Terrain.length) {n : Nat} {row : List Gi_Hex} (hr : (lnB b i k)[n]? = some row) : row.length ≤ 2 ∧ ∀ x ∈ row, 0 ≤ mpIdx b.Map x ∧ mpIdx b.Map x < b.Map.Terrain.length := by
  obtain ⟨h1, _, h3⟩ := hexLineR_mem (bd_hx h hi) (bd_hx h hk) hr
  refine ⟨h1, fun x hx => ?_⟩
  obtain ⟨_, g1, g2⟩ := h3 x hx
  obtain ⟨p1, p2⟩ := between (by rw [g1, g2]; omega) (bd_in h hi) (bd_in h hk)
  have hn := h.ok.n
  have := mpMul (w := b.Map.Width) (h := b.Map.Height) (r := x.R) (q := x.Q) (by omega) (by omega)
  unfold mpIdx
  rw [if_pos (by omega)]
  omega
theorem lnB_len {b : Gi_Board} (h : BdV b) {i k : Int} (hi : 0 ≤ i ∧ i < b.Map.Terrain.length) (hk : 0 ≤ k ∧ k < b.Map.Terrain.length) : 1 ≤ (lnB b i k).length ∧ (lnB b i k).length ≤ 161 := by
  have h1 := hexLineR_len (bd_hx h hi) (bd_hx h hk)
  have h2 := hd_b (bd_hx h hi) (bd_hx h hk)
  unfold lnB
  omega
theorem sgC_len (b : Gi_Board) (i k : Int) : (sgC b i k).length ≤ (lnB b i k).length - 2 := fm_len _ _
theorem sgC_mem {b : Gi_Board} {i k : Int} {row : List Int} : row ∈ sgC b i k ↔ ∃ j : Nat, j < (lnB b i k).length - 2 ∧ row = sgRow b (lnB b i k) (j + 1) := by
  unfold sgC
  rw [List.mem_filterMap]
  constructor
  · rintro ⟨j, hj, e⟩
    cases e
    exact ⟨j, List.mem_range.1 hj, rfl⟩
  · rintro ⟨j, hj, rfl⟩
    exact ⟨j, List.mem_range.2 hj, rfl⟩
theorem sgRow_ok {b : Gi_Board} (h : BdV b) {i k : Int} (hi : 0 ≤ i ∧ i < b.Map.Terrain.length) (hk : 0 ≤ k ∧ k < b.Map.Terrain.length) (n : Nat) : (sgRow b (lnB b i k) n).length ≤ 2 ∧ ∀ x ∈ sgRow b (lnB b i k) n, 0 ≤ x ∧ x < b.Map.Terrain.length := by
  unfold sgRow
  cases e : (lnB b i k)[n]? with
  | none => simp
  | some row =>
    obtain ⟨h1, h2⟩ := lnB_ok h hi hk e
    refine ⟨by simpa using h1, fun x hx => ?_⟩
    obtain ⟨y, hy, rfl⟩ := List.mem_map.1 hx
    exact h2 y hy
theorem sgC_turn {b : Gi_Board} (h : BdV b) {i k : Int} (hi : 0 ≤ i ∧ i < b.Map.Terrain.length) (hk : 0 ≤ k ∧ k < b.Map.Terrain.length) {row : List Int} (hr : row ∈ sgC b i k) : row ∈ sgC b k i := by
  obtain ⟨j, hj, rfl⟩ := sgC_mem.1 hr
  have l1 := hexLineR_len (bd_hx h hi) (bd_hx h hk)
  have l2 := hexLineR_len (bd_hx h hk) (bd_hx h hi)
  rw [hd_comm] at l2
  have hl : (lnB b k i).length = (lnB b i k).length := by unfold lnB; omega
  have e := hexLineR_turn (bd_hx h hi) (bd_hx h hk) (i := j + 1) (show j + 1 < (lnB b i k).length by omega)
  refine sgC_mem.2 ⟨(lnB b i k).length - 3 - j, by omega, ?_⟩
  unfold sgRow
  have e2 : (lnB b k i)[(lnB b i k).length - 3 - j + 1]? = (lnB b i k)[j + 1]? := by
    rw [show (lnB b i k).length - 3 - j + 1 = (lnB b i k).length - 1 - (j + 1) by omega]
    exact e
  rw [e2]
theorem cellRow_i {b : Gi_Board} (h : BdV b) {L : List (List Gi_Hex)} {out : List (List Int)} {t : Int} {row : List Gi_Hex} (hl : row.length ≤ 2) (ho : out.length ≤ 1000) : ∀ (p pre : List Gi_Hex) (acc : List Int), row = pre ++ p → acc.length ≤ pre.length →
    loop Bi_sightCells (.h2 t row (row.length : Int) (pre.length : Int) b out L acc) = loop Bi_sightCells (.h3 (IntKind.wrap .i64 (t + 1)) b (out ++ [acc ++ p.map (mpIdx b.Map)]) L)
  | [], pre, acc, e, ha => by
    conv => lhs; rw [loop_eq]
    have : row.length = pre.length := by rw [e]; simp
    rw [this]
    simp only [Bi_sightCells, nltc, if_false]
    rw [if_pos (by simp; omega)]
    simp [goOn]
  | x :: p, pre, acc, e, ha => by
    have hlen : pre.length < row.length := by rw [e]; simp
    have hx : row[pre.length]? = some x := by rw [e]; simp
    have ih := cellRow_i h (L := L) (t := t) hl ho p (pre ++ [x]) (acc ++ [mpIdx b.Map x]) (by rw [e]; simp) (by simp; omega)
    rw [List.length_append, List.length_singleton] at ih
    conv => lhs; rw [loop_eq]
    simp only [Bi_sightCells, ltc hlen, nnc, if_true, Int.toNat_natCast, hx, Option.bind_some, (indexOf_b h.d100').1, if8 (show acc.length ≤ 3000000 by omega), wsucc (show pre.length < 9223372036854775807 by omega)]
    simp only [goOn]
    rw [ih]
    simp
theorem cellRow_s {b : Gi_Board} (h : BdV b) {L : List (List Gi_Hex)} {out : List (List Int)} {t : Int} {row : List Gi_Hex} (hl : row.length ≤ 2) (ho : out.length ≤ 1000) : ∀ (p pre : List Gi_Hex) (acc : List Int), row = pre ++ p → acc.length ≤ pre.length →
    loop Bs_vCells (.h2 t row (row.length : Int) (pre.length : Int) b L out acc) = loop Bs_vCells (.h3 (IntKind.wrap .i64 (t + 1)) b L (out ++ [acc ++ p.map (mpIdx b.Map)]))
  | [], pre, acc, e, ha => by
    conv => lhs; rw [loop_eq]
    have : row.length = pre.length := by rw [e]; simp
    rw [this]
    simp only [Bs_vCells, nltc, if_false]
    rw [if_pos (by simp; omega)]
    simp [goOn]
  | x :: p, pre, acc, e, ha => by
    have hlen : pre.length < row.length := by rw [e]; simp
    have hx : row[pre.length]? = some x := by rw [e]; simp
    have ih := cellRow_s h (L := L) (t := t) hl ho p (pre ++ [x]) (acc ++ [mpIdx b.Map x]) (by rw [e]; simp) (by simp; omega)
    rw [List.length_append, List.length_singleton] at ih
    conv => lhs; rw [loop_eq]
    simp only [Bs_vCells, ltc hlen, nnc, if_true, Int.toNat_natCast, hx, Option.bind_some, (indexOf_b h.d100').2, if8 (show acc.length ≤ 3000000 by omega), wsucc (show pre.length < 9223372036854775807 by omega)]
    simp only [goOn]
    rw [ih]
    simp
theorem cells_i {b : Gi_Board} (h : BdV b) {i k : Int} (hi : 0 ≤ i ∧ i < b.Map.Terrain.length) (hk : 0 ≤ k ∧ k < b.Map.Terrain.length) : Di_sightCells b i k = some (sgC b i k) := by
  have hl := lnB_len h hi hk
  unfold Di_sightCells
  rw [(bd_hex h hi).1, Option.bind_some, (bd_hex h hk).1, Option.bind_some, lineOf_i (bd_hx h hi) (bd_hx h hk), Option.bind_some]
  show loop Bi_sightCells (.h1 1 b [] (lnB b i k)) = _
  have e0 : loop Bi_sightCells (.h1 1 b [] (lnB b i k)) = loop Bi_sightCells (.h3 1 b [] (lnB b i k)) := by
    rw [loop_eq]
    conv => rhs; rw [loop_eq]
    rfl
  rw [e0]
  unfold sgC
  refine fm_goL (L := loop Bi_sightCells) (S := fun j acc => .h3 (((j + 1 : Nat)) : Int) b acc (lnB b i k)) (r := some) (fun j acc hj ha => ?_) fun acc ha => ?_
  · have hx : (lnB b i k)[j + 1]? = some ((lnB b i k)[j + 1]'(by omega)) := List.getElem?_eq_getElem (by omega)
    have ho := lnB_ok h hi hk hx
    rw [loop_eq]
    simp only [Bi_sightCells]
    rw [wsucc (by omega), if_pos (by omega), if_pos (by omega), Int.toNat_natCast, hx, Option.bind_some]
    simp only [goOn]
    have := cellRow_i h (L := lnB b i k) (out := acc) (t := ((j + 1 : Nat) : Int)) ho.1 (by omega) _ [] [] rfl (Nat.le_refl _)
    refine Eq.trans this ?_
    rw [wsucc (by omega)]
    unfold sgRow
    rw [hx]
    simp
  · rw [loop_eq]
    simp only [Bi_sightCells]
    rw [wsucc (by omega), if_neg (by omega)]; rfl
theorem cells_s {b : Gi_Board} (h : BdV b) {i k : Int} (hi : 0 ≤ i ∧ i < b.Map.Terrain.length) (hk : 0 ≤ k ∧ k < b.Map.Terrain.length) : Ds_vCells b i k = some (sgC b i k) := by
  have hl := lnB_len h hi hk
  unfold Ds_vCells
  rw [(bd_hex h hi).2, Option.bind_some, (bd_hex h hk).2, Option.bind_some, hLine_s (bd_hx h hi) (bd_hx h hk), Option.bind_some]
  show loop Bs_vCells (.h1 1 b (lnB b i k) []) = _
  have e0 : loop Bs_vCells (.h1 1 b (lnB b i k) []) = loop Bs_vCells (.h3 1 b (lnB b i k) []) := by
    rw [loop_eq]
    conv => rhs; rw [loop_eq]
    rfl
  rw [e0]
  unfold sgC
  refine fm_goL (L := loop Bs_vCells) (S := fun j acc => .h3 (((j + 1 : Nat)) : Int) b (lnB b i k) acc) (r := some) (fun j acc hj ha => ?_) fun acc ha => ?_
  · have hx : (lnB b i k)[j + 1]? = some ((lnB b i k)[j + 1]'(by omega)) := List.getElem?_eq_getElem (by omega)
    have ho := lnB_ok h hi hk hx
    rw [loop_eq]
    simp only [Bs_vCells]
    rw [w64 (by omega), if_pos (by omega), if_pos (by omega), Int.toNat_natCast, hx, Option.bind_some]
    simp only [goOn]
    have := cellRow_s h (L := lnB b i k) (out := acc) (t := ((j + 1 : Nat) : Int)) ho.1 (by omega) _ [] [] rfl (Nat.le_refl _)
    refine Eq.trans this ?_
    rw [wsucc (by omega)]
    unfold sgRow
    rw [hx]
    simp
  · rw [loop_eq]
    simp only [Bs_vCells]
    rw [w64 (by omega), if_neg (by omega)]; rfl
def hgT (b : Gi_Board) (x : Int) : Int := if (bdT b x).Blocks = true then (bdT b x).Height + 1 else (bdT b x).Height
def bkB (b : Gi_Board) (i k x : Int) : Bool := decide (hgT b x > max (bdT b i).Height (bdT b k).Height)
theorem bkB_comm (b : Gi_Board) (i k x : Int) : bkB b i k x = bkB b k i x := by
  unfold bkB
  rw [Int.max_comm]
theorem blocks_i {b : Gi_Board} (h : BdV b) {i k x : Int} (hi : 0 ≤ i ∧ i < b.Map.Terrain.length) (hk : 0 ≤ k ∧ k < b.Map.Terrain.length) (hx : 0 ≤ x ∧ x < b.Map.Terrain.length) : Di_blocksBetween b i k x = some (bkB b i k x) := by
  obtain ⟨a1, _, m1⟩ := bdT_b h.ok hi
  obtain ⟨a2, _, m2⟩ := bdT_b h.ok hk
  obtain ⟨a3, _, m3⟩ := bdT_b h.ok hx
  have s3 := h.ok.r.sh _ m3
  unfold Di_blocksBetween bkB hgT
  rw [a1, a2, a3, Option.bind_some, w64 (by omega)]
  have e : (if (bdT b i).Height < (bdT b k).Height then (bdT b k).Height else (bdT b i).Height) = max (bdT b i).Height (bdT b k).Height := by
    split <;> omega
  simp only [Option.bind_some, e]
  split <;> rfl
theorem blocks_s {b : Gi_Board} (h : BdV b) {i k x : Int} (hi : 0 ≤ i ∧ i < b.Map.Terrain.length) (hk : 0 ≤ k ∧ k < b.Map.Terrain.length) (hx : 0 ≤ x ∧ x < b.Map.Terrain.length) : Ds_vBlocks b i k x = some (bkB b i k x) := by
  obtain ⟨_, a1, m1⟩ := bdT_b h.ok hi
  obtain ⟨_, a2, m2⟩ := bdT_b h.ok hk
  obtain ⟨_, a3, m3⟩ := bdT_b h.ok hx
  have s3 := h.ok.r.sh _ m3
  unfold Ds_vBlocks Ds_vHeight bkB hgT Ds_l1Most
  rw [a1, a2, a3, Option.bind_some, w64 (by omega)]
  have e : (if (bdT b i).Height > (bdT b k).Height then some (bdT b i).Height else some (bdT b k).Height) = some (max (bdT b i).Height (bdT b k).Height) := by
    split
    · congr 1; omega
    · congr 1; omega
  simp only [Option.bind_some, e]
  split <;> rfl
def ctB (b : Gi_Board) (i k : Int) (row : List Int) : Nat := (row.filter (bkB b i k)).length
theorem ctB_len (b : Gi_Board) (i k : Int) (row : List Int) : ctB b i k row ≤ row.length := List.length_filter_le _ _
theorem ctB_cons (b : Gi_Board) (i k x : Int) (row : List Int) : ctB b i k (x :: row) = (if bkB b i k x = true then 1 else 0) + ctB b i k row := by
  unfold ctB
  rw [List.filter_cons]
  split
  · rw [List.length_cons]; omega
  · omega
theorem ctB_comm (b : Gi_Board) (i k : Int) (row : List Int) : ctB b i k row = ctB b k i row := by
  unfold ctB
  rw [show bkB b i k = bkB b k i from funext fun x => bkB_comm b i k x]
def Cells (b : Gi_Board) (C : List (List Int)) : Prop := ∀ row ∈ C, row.length ≤ 2 ∧ ∀ x ∈ row, 0 ≤ x ∧ x < b.Map.Terrain.length
theorem count_b {b : Gi_Board} (h : BdV b) {i k : Int} (hi : 0 ≤ i ∧ i < b.Map.Terrain.length) (hk : 0 ≤ k ∧ k < b.Map.Terrain.length) {row : List Int} (hl : row.length ≤ 2) (hr : ∀ x ∈ row, 0 ≤ x ∧ x < b.Map.Terrain.length) : ∀ (p pre : List Int) (n : Nat), row = pre ++ p → n ≤ pre.length →
    loop Bs_vCount (.h1 i k (n : Int) row (row.length : Int) (pre.length : Int) b) = some ((n + ctB b i k p : Nat) : Int)
  | [], pre, n, e, hn => by
    rw [loop_eq]
    have : row.length = pre.length := by rw [e]; simp
    rw [this]
    simp only [Bs_vCount, nltc, if_false]
    rfl
  | x :: p, pre, n, e, hn => by
    have hlen : pre.length < row.length := by rw [e]; simp
    have hx : row[pre.length]? = some x := by rw [e]; simp
    have hxb := hr x (List.mem_of_getElem? hx)
    rw [loop_eq, ctB_cons]
    simp only [Bs_vCount, ltc hlen, nnc, if_true, Int.toNat_natCast, hx, Option.bind_some, blocks_s h hi hk hxb, wsucc (show pre.length < 9223372036854775807 by omega), wsucc (show n < 9223372036854775807 by omega)]
    by_cases c : bkB b i k x = true
    · have ih := count_b h hi hk hl hr p (pre ++ [x]) (n + 1) (by rw [e]; simp) (by simp; omega)
      rw [List.length_append, List.length_singleton] at ih
      rw [if_pos c, if_pos c]
      simp only [goOn]
      rw [ih, Nat.add_assoc]
    · have ih := count_b h hi hk hl hr p (pre ++ [x]) n (by rw [e]; simp) (by simp; omega)
      rw [List.length_append, List.length_singleton] at ih
      rw [if_neg c, if_neg c]
      simp only [goOn]
      rw [ih, Nat.zero_add]
theorem count_s {b : Gi_Board} (h : BdV b) {i k : Int} (hi : 0 ≤ i ∧ i < b.Map.Terrain.length) (hk : 0 ≤ k ∧ k < b.Map.Terrain.length) {row : List Int} (hl : row.length ≤ 2) (hr : ∀ x ∈ row, 0 ≤ x ∧ x < b.Map.Terrain.length) : Ds_vCount b i k row = some (ctB b i k row : Int) := by
  have := count_b h hi hk hl hr row [] 0 rfl (Nat.le_refl _)
  rw [Nat.zero_add] at this
  exact this
theorem count_i2 {b : Gi_Board} (h : BdV b) {i k : Int} (hi : 0 ≤ i ∧ i < b.Map.Terrain.length) (hk : 0 ≤ k ∧ k < b.Map.Terrain.length) {row : List Int} (hl : row.length ≤ 2) (hr : ∀ x ∈ row, 0 ≤ x ∧ x < b.Map.Terrain.length) {code t6 t7 z : Int} {C : List (List Int)} : ∀ (p pre : List Int) (n : Nat), row = pre ++ p → n ≤ pre.length →
    loop Bi_sightOf (.h2 i k code z row (n : Int) t6 t7 row (row.length : Int) (pre.length : Int) b C) = loop Bi_sightOf (.h2 i k code z row ((n + ctB b i k p : Nat) : Int) t6 t7 row (row.length : Int) (row.length : Int) b C)
  | [], pre, n, e, hn => by
    have : row.length = pre.length := by rw [e]; simp
    rw [this]
    rfl
  | x :: p, pre, n, e, hn => by
    have hlen : pre.length < row.length := by rw [e]; simp
    have hx : row[pre.length]? = some x := by rw [e]; simp
    have hxb := hr x (List.mem_of_getElem? hx)
    conv => lhs; rw [loop_eq]
    rw [ctB_cons]
    simp only [Bi_sightOf, ltc hlen, nnc, if_true, Int.toNat_natCast, hx, Option.bind_some, blocks_i h hi hk hxb, wsucc (show pre.length < 9223372036854775807 by omega), wsucc (show n < 9223372036854775807 by omega)]
    by_cases c : bkB b i k x = true
    · have ih := count_i2 h hi hk hl hr (code := code) (t6 := t6) (t7 := t7) (z := z) (C := C) p (pre ++ [x]) (n + 1) (by rw [e]; simp) (by simp; omega)
      rw [List.length_append, List.length_singleton] at ih
      rw [if_pos c, if_pos c]
      simp only [goOn]
      rw [ih, Nat.add_assoc]
    · have ih := count_i2 h hi hk hl hr (code := code) (t6 := t6) (t7 := t7) (z := z) (C := C) p (pre ++ [x]) n (by rw [e]; simp) (by simp; omega)
      rw [List.length_append, List.length_singleton] at ih
      rw [if_neg c, if_neg c]
      simp only [goOn]
      rw [ih, Nat.zero_add]
def vfG (b : Gi_Board) (i k : Int) : Nat → List (List Int) → Int
  | _, [] => -1
  | n, row :: C => if ctB b i k row = row.length then (n : Int) else vfG b i k (n + 1) C
def paB (b : Gi_Board) (i k : Int) (C : List (List Int)) : Bool := C.any fun row => decide (0 < ctB b i k row)
def fuB (b : Gi_Board) (i k : Int) (C : List (List Int)) : Bool := C.any fun row => decide (ctB b i k row = row.length)
theorem vfG_nn (b : Gi_Board) (i k : Int) : ∀ (C : List (List Int)) (n : Nat), (0 ≤ vfG b i k n C ↔ fuB b i k C = true) ∧ (vfG b i k n C < 0 → vfG b i k n C = -1)
  | [], n => by simp [vfG, fuB]
  | row :: C, n => by
    obtain ⟨h1, h2⟩ := vfG_nn b i k C (n + 1)
    unfold vfG
    by_cases c : ctB b i k row = row.length
    · rw [if_pos c]
      refine ⟨⟨fun _ => by simp [fuB, c], fun _ => by omega⟩, fun h => by omega⟩
    · rw [if_neg c]
      refine ⟨?_, h2⟩
      rw [h1]
      simp [fuB, c]
theorem first_s {b : Gi_Board} (h : BdV b) {i k : Int} (hi : 0 ≤ i ∧ i < b.Map.Terrain.length) (hk : 0 ≤ k ∧ k < b.Map.Terrain.length) {C : List (List Int)} (hl : C.length ≤ 1000) (hC : Cells b C) : ∀ (p pre : List (List Int)), C = pre ++ p → loop Bs_vFirst (.h2 i k (C.length : Int) (pre.length : Int) b C) = some (vfG b i k pre.length p)
  | [], pre, e => by
    rw [loop_eq]
    have : C.length = pre.length := by rw [e]; simp
    rw [this]
    simp only [Bs_vFirst, nltc, if_false]
    rfl
  | row :: p, pre, e => by
    have hlen : pre.length < C.length := by rw [e]; simp
    have hx : C[pre.length]? = some row := by rw [e]; simp
    obtain ⟨r1, r2⟩ := hC row (List.mem_of_getElem? hx)
    have ih := first_s h hi hk hl hC p (pre ++ [row]) (by rw [e]; simp)
    rw [List.length_append, List.length_singleton] at ih
    rw [loop_eq]
    unfold vfG
    simp only [Bs_vFirst, ltc hlen, nnc, if_true, Int.toNat_natCast, hx, Option.bind_some, count_s h hi hk r1 r2, wsucc (show pre.length < 9223372036854775807 by omega), Int.ofNat_inj]
    by_cases c : ctB b i k row = row.length
    · rw [if_pos c, if_pos c]; rfl
    · rw [if_neg c, if_neg c]
      exact ih
theorem vFirst_s {b : Gi_Board} (h : BdV b) {i k : Int} (hi : 0 ≤ i ∧ i < b.Map.Terrain.length) (hk : 0 ≤ k ∧ k < b.Map.Terrain.length) : Ds_vFirst b i k = some (vfG b i k 0 (sgC b i k)) := by
  have hl := lnB_len h hi hk
  have hl2 := sgC_len b i k
  have hC : Cells b (sgC b i k) := fun row hr => by
    obtain ⟨j, _, rfl⟩ := sgC_mem.1 hr
    exact sgRow_ok h hi hk _
  unfold Ds_vFirst
  rw [cells_s h hi hk, Option.bind_some]
  have e0 : loop Bs_vFirst (.h1 i k ((sgC b i k).length : Int) 0 b (sgC b i k)) = loop Bs_vFirst (.h2 i k ((sgC b i k).length : Int) 0 b (sgC b i k)) := by
    rw [loop_eq]
    conv => rhs; rw [loop_eq]
    rfl
  rw [e0]
  exact first_s h hi hk (by omega) hC _ [] rfl
/-- The code of the sight. -/
def sgV (b : Gi_Board) (i k : Int) : Int := if fuB b i k (sgC b i k) = true then 2 else if paB b i k (sgC b i k) = true then 1 else 0
theorem any_turn {b : Gi_Board} (h : BdV b) {i k : Int} (hi : 0 ≤ i ∧ i < b.Map.Terrain.length) (hk : 0 ≤ k ∧ k < b.Map.Terrain.length) (f : List Int → Bool) : (sgC b i k).any f = (sgC b k i).any f := by
  rw [Bool.eq_iff_iff, List.any_eq_true, List.any_eq_true]
  exact ⟨fun ⟨r, hr, hf⟩ => ⟨r, sgC_turn h hi hk hr, hf⟩, fun ⟨r, hr, hf⟩ => ⟨r, sgC_turn h hk hi hr, hf⟩⟩
theorem sgV_comm {b : Gi_Board} (h : BdV b) {i k : Int} (hi : 0 ≤ i ∧ i < b.Map.Terrain.length) (hk : 0 ≤ k ∧ k < b.Map.Terrain.length) : sgV b k i = sgV b i k := by
  unfold sgV fuB paB
  rw [any_turn h hi hk, any_turn h hi hk]
  have e : ctB b k i = ctB b i k := funext fun row => ctB_comm b k i row
  rw [e]
theorem sight_i {b : Gi_Board} (h : BdV b) {i k : Int} (hi : 0 ≤ i ∧ i < b.Map.Terrain.length) (hk : 0 ≤ k ∧ k < b.Map.Terrain.length) {C : List (List Int)} (hl : C.length ≤ 1000) (hC : Cells b C) : ∀ (p pre : List (List Int)) (code : Int), C = pre ++ p → loop Bi_sightOf (.h3 i k code (C.length : Int) (pre.length : Int) b C) = some (if fuB b i k p = true then (2, vfG b i k pre.length p) else (if paB b i k p = true then 1 else code, -1))
  | [], pre, code, e => by
    rw [loop_eq]
    have : C.length = pre.length := by rw [e]; simp
    rw [this]
    simp only [Bi_sightOf, nltc, if_false, fuB, paB, List.any_nil]
    rfl
  | row :: p, pre, code, e => by
    have hlen : pre.length < C.length := by rw [e]; simp
    have hx : C[pre.length]? = some row := by rw [e]; simp
    obtain ⟨r1, r2⟩ := hC row (List.mem_of_getElem? hx)
    have ih := fun code' => sight_i h hi hk hl hC p (pre ++ [row]) code' (by rw [e]; simp)
    rw [List.length_append, List.length_singleton] at ih
    have hct := ctB_len b i k row
    rw [loop_eq]
    simp only [Bi_sightOf, ltc hlen, nnc, if_true, Int.toNat_natCast, hx, Option.bind_some]
    simp only [goOn]
    have c2 := count_i2 h hi hk r1 r2 (code := code) (t6 := (C.length : Int)) (t7 := (pre.length : Int)) (z := (pre.length : Int)) (C := C) row [] 0 rfl (Nat.le_refl _)
    rw [Nat.zero_add] at c2
    refine Eq.trans c2 ?_
    rw [loop_eq]
    simp only [Bi_sightOf, nltc, if_false, Int.ofNat_inj, wsucc (show pre.length < 9223372036854775807 by omega)]
    have hfc : fuB b i k (row :: p) = (decide (ctB b i k row = row.length) || fuB b i k p) := by simp [fuB]
    have hpc : paB b i k (row :: p) = (decide (0 < ctB b i k row) || paB b i k p) := by simp [paB]
    rw [hfc, hpc]
    unfold vfG
    by_cases c : ctB b i k row = row.length
    · rw [if_pos c, if_pos c, decide_eq_true c, Bool.true_or, if_pos rfl]; rfl
    · rw [if_neg c, if_neg c, decide_eq_false c, Bool.false_or]
      by_cases c3 : (ctB b i k row : Int) > 0
      · rw [if_pos c3, decide_eq_true (by omega), Bool.true_or]
        simp only [goOn]
        rw [ih]
        simp
      · rw [if_neg c3, decide_eq_false (by omega), Bool.false_or]
        simp only [goOn]
        rw [ih]
theorem sightOf_i {b : Gi_Board} (h : BdV b) {i k : Int} (hi : 0 ≤ i ∧ i < b.Map.Terrain.length) (hk : 0 ≤ k ∧ k < b.Map.Terrain.length) : Di_sightOf b i k = some (sgV b i k, vfG b i k 0 (sgC b i k)) := by
  have hl := lnB_len h hi hk
  have hl2 := sgC_len b i k
  have hC : Cells b (sgC b i k) := fun row hr => by
    obtain ⟨j, _, rfl⟩ := sgC_mem.1 hr
    exact sgRow_ok h hi hk _
  unfold Di_sightOf
  rw [cells_i h hi hk, Option.bind_some]
  have e0 : loop Bi_sightOf (.h1 i k 0 ((sgC b i k).length : Int) 0 b (sgC b i k)) = loop Bi_sightOf (.h3 i k 0 ((sgC b i k).length : Int) 0 b (sgC b i k)) := by
    rw [loop_eq]
    conv => rhs; rw [loop_eq]
    rfl
  have e1 : loop Bi_sightOf (.h3 i k 0 ((sgC b i k).length : Int) 0 b (sgC b i k)) = some (if fuB b i k (sgC b i k) = true then (2, vfG b i k 0 (sgC b i k)) else (if paB b i k (sgC b i k) = true then 1 else 0, -1)) := sight_i h hi hk (by omega) hC (sgC b i k) [] 0 rfl
  rw [e0, e1]
  obtain ⟨g1, g2⟩ := vfG_nn b i k (sgC b i k) 0
  unfold sgV
  by_cases c : fuB b i k (sgC b i k) = true
  · rw [if_pos c, if_pos c]
  · rw [if_neg c, if_neg c, g2 (Int.not_le.1 fun hh => c (g1.1 hh))]
theorem code_b {b : Gi_Board} (h : BdV b) {i k : Int} (hi : 0 ≤ i ∧ i < b.Map.Terrain.length) (hk : 0 ≤ k ∧ k < b.Map.Terrain.length) {C : List (List Int)} (hl : C.length ≤ 1000) (hC : Cells b C) : ∀ (p pre : List (List Int)), C = pre ++ p → loop Bs_vCode (.h2 i k (C.length : Int) (pre.length : Int) b C) = some (if paB b i k p = true then 1 else 0)
  | [], pre, e => by
    rw [loop_eq]
    have : C.length = pre.length := by rw [e]; simp
    rw [this]
    simp only [Bs_vCode, nltc, if_false, paB, List.any_nil]
    rfl
  | row :: p, pre, e => by
    have hlen : pre.length < C.length := by rw [e]; simp
    have hx : C[pre.length]? = some row := by rw [e]; simp
    obtain ⟨r1, r2⟩ := hC row (List.mem_of_getElem? hx)
    have ih := code_b h hi hk hl hC p (pre ++ [row]) (by rw [e]; simp)
    rw [List.length_append, List.length_singleton] at ih
    rw [loop_eq]
    have hpc : paB b i k (row :: p) = (decide (0 < ctB b i k row) || paB b i k p) := by simp [paB]
    rw [hpc]
    simp only [Bs_vCode, ltc hlen, nnc, if_true, Int.toNat_natCast, hx, Option.bind_some, count_s h hi hk r1 r2, wsucc (show pre.length < 9223372036854775807 by omega)]
    by_cases c : (ctB b i k row : Int) > 0
    · rw [if_pos c, decide_eq_true (by omega), Bool.true_or, if_pos rfl]; rfl
    · rw [if_neg c, decide_eq_false (by omega), Bool.false_or]
      exact ih
theorem vCode_s {b : Gi_Board} (h : BdV b) {i k : Int} (hi : 0 ≤ i ∧ i < b.Map.Terrain.length) (hk : 0 ≤ k ∧ k < b.Map.Terrain.length) : Ds_vCode b i k = some (sgV b i k) := by
  have hl := lnB_len h hi hk
  have hl2 := sgC_len b i k
  have hC : Cells b (sgC b i k) := fun row hr => by
    obtain ⟨j, _, rfl⟩ := sgC_mem.1 hr
    exact sgRow_ok h hi hk _
  obtain ⟨g1, g2⟩ := vfG_nn b i k (sgC b i k) 0
  unfold Ds_vCode sgV
  rw [vFirst_s h hi hk, Option.bind_some]
  by_cases c : fuB b i k (sgC b i k) = true
  · rw [if_pos (g1.2 c), if_pos c]
  · rw [if_neg (fun hh => c (g1.1 hh)), if_neg c, cells_s h hi hk, Option.bind_some]
    have e0 : loop Bs_vCode (.h1 i k ((sgC b i k).length : Int) 0 b (sgC b i k)) = loop Bs_vCode (.h2 i k ((sgC b i k).length : Int) 0 b (sgC b i k)) := by
      rw [loop_eq]
      conv => rhs; rw [loop_eq]
      rfl
    rw [e0]
    exact code_b h hi hk (by omega) hC _ [] rfl

def prG (b : Gi_Board) (i k : Int) : Bool := bdG b && kIn i 0 (b.Map.Terrain.length - 1) && kIn k 0 (b.Map.Terrain.length - 1)
theorem prG_ok {b : Gi_Board} (hb : BdLen b) {i k : Int} (h : prG b i k = true) : BdV b ∧ (0 ≤ i ∧ i < b.Map.Terrain.length) ∧ (0 ≤ k ∧ k < b.Map.Terrain.length) := by
  simp only [prG, Bool.and_eq_true, kIn_iff] at h
  exact ⟨⟨hb, h.1.1⟩, by omega, by omega⟩
theorem prG_comm (b : Gi_Board) (i k : Int) : prG b k i = prG b i k := by
  unfold prG
  cases bdG b <;> cases kIn i 0 (b.Map.Terrain.length - 1) <;> cases kIn k 0 (b.Map.Terrain.length - 1) <;> rfl
theorem isPair_b {b : Gi_Board} (hb : BdLen b) (i k : Int) : Di_isPair b i k = some (prG b i k) := by
  unfold Di_isPair Di_sizeOf prG
  rw [isBoard_i hb, Option.bind_some]
  by_cases c : bdG b = true
  · have h1 := (bdG_ok c).n2
    rw [if_pos c, c]
    simp only [Option.bind_some, Bool.true_and, isIndex_i (x := i) (n := (b.Map.Terrain.length : Int)) (by omega), isIndex_i (x := k) (n := (b.Map.Terrain.length : Int)) (by omega)]
    cases kIn i 0 (b.Map.Terrain.length - 1) <;> rfl
  · rw [if_neg c]
    simp only [Bool.not_eq_true] at c
    rw [c]; rfl
theorem bAt0 {b : Gi_Board} (hb : BdLen b) (i : Int) : Ds_bAt b 0 i = some (prG b i i) := by
  rw [bAt_s hb]
  unfold prG
  by_cases c : bdG b = true
  · have h1 := (bdG_ok c).r.k
    rw [c, kIn_iff.2 (by omega : (0 : Int) ≤ 0 ∧ (0 : Int) ≤ b.Rules.Kinds.length - 1)]
    cases kIn i 0 (b.Map.Terrain.length - 1) <;> rfl
  · simp only [Bool.not_eq_true] at c
    rw [c]; rfl
theorem vPair_s {b : Gi_Board} (hb : BdLen b) (i k : Int) : Ds_vPair b i k = some (prG b i k) := by
  unfold Ds_vPair
  rw [bAt0 hb, Option.bind_some, bAt0 hb, Option.bind_some]
  unfold prG
  cases bdG b <;> cases kIn i 0 (b.Map.Terrain.length - 1) <;> cases kIn k 0 (b.Map.Terrain.length - 1) <;> rfl
def sgcR (b : Gi_Board) (i k : Int) : Int × Bool := if prG b i k = true then (sgV b i k, true) else (0, false)
def sgsR (b : Gi_Board) (i k : Int) : List (List Int) × Bool := if prG b i k = true then (sgC b i k, true) else ([], false)
def sgfR (b : Gi_Board) (i k : Int) : Int × Bool := if prG b i k = true then (if vfG b i k 0 (sgC b i k) < 0 then (0, false) else (vfG b i k 0 (sgC b i k), true)) else (0, false)
theorem sightCode_i {b : Gi_Board} (hb : BdLen b) (i k : Int) : Di_SightCode b i k = some (sgcR b i k) := by
  unfold Di_SightCode sgcR
  rw [isPair_b hb, Option.bind_some]
  by_cases c : prG b i k = true
  · obtain ⟨h, hi, hk⟩ := prG_ok hb c
    rw [if_pos c, if_pos c, sightOf_i h hi hk]; rfl
  · rw [if_neg c, if_neg c]
theorem sightCode_s {b : Gi_Board} (hb : BdLen b) (i k : Int) : Ds_SightCode b i k = some (sgcR b i k) := by
  unfold Ds_SightCode sgcR
  rw [vPair_s hb, Option.bind_some]
  by_cases c : prG b i k = true
  · obtain ⟨h, hi, hk⟩ := prG_ok hb c
    rw [if_pos c, if_pos c, vCode_s h hi hk]; rfl
  · rw [if_neg c, if_neg c]
theorem sightCells_i {b : Gi_Board} (hb : BdLen b) (i k : Int) : Di_SightCells b i k = some (sgsR b i k) := by
  unfold Di_SightCells sgsR
  rw [isPair_b hb, Option.bind_some]
  by_cases c : prG b i k = true
  · obtain ⟨h, hi, hk⟩ := prG_ok hb c
    rw [if_pos c, if_pos c, cells_i h hi hk]; rfl
  · rw [if_neg c, if_neg c]
theorem sightCells_s {b : Gi_Board} (hb : BdLen b) (i k : Int) : Ds_SightCells b i k = some (sgsR b i k) := by
  unfold Ds_SightCells sgsR
  rw [vPair_s hb, Option.bind_some]
  by_cases c : prG b i k = true
  · obtain ⟨h, hi, hk⟩ := prG_ok hb c
    rw [if_pos c, if_pos c, cells_s h hi hk]; rfl
  · rw [if_neg c, if_neg c]
theorem firstBlock_i {b : Gi_Board} (hb : BdLen b) (i k : Int) : Di_FirstBlock b i k = some (sgfR b i k) := by
  unfold Di_FirstBlock sgfR
  rw [isPair_b hb, Option.bind_some]
  by_cases c : prG b i k = true
  · obtain ⟨h, hi, hk⟩ := prG_ok hb c
    rw [if_pos c, if_pos c, sightOf_i h hi hk, Option.bind_some]
    dsimp only
    split <;> rfl
  · rw [if_neg c, if_neg c]
theorem firstBlock_s {b : Gi_Board} (hb : BdLen b) (i k : Int) : Ds_FirstBlock b i k = some (sgfR b i k) := by
  unfold Ds_FirstBlock sgfR
  rw [vPair_s hb, Option.bind_some]
  by_cases c : prG b i k = true
  · obtain ⟨h, hi, hk⟩ := prG_ok hb c
    rw [if_pos c, if_pos c, vFirst_s h hi hk, Option.bind_some, Option.bind_some]
    split <;> rfl
  · rw [if_neg c, if_neg c]
def dsB (b : Gi_Board) (i t : Int) : Int := hd (mpHex b.Map i) (mpHex b.Map t)
theorem ds_b {b : Gi_Board} (h : BdV b) {i t : Int} (hi : 0 ≤ i ∧ i < b.Map.Terrain.length) (ht : 0 ≤ t ∧ t < b.Map.Terrain.length) : Di_distance (mpHex b.Map i) (mpHex b.Map t) = some (dsB b i t) ∧ Ds_hDistance (mpHex b.Map i) (mpHex b.Map t) = some (dsB b i t) := by
  have h1 := bd_in h hi
  have h2 := bd_in h ht
  have h3 := h.ok.d
  unfold MpDim at h3
  exact ⟨hd_i (by omega) (by omega), hd_s (by omega) (by omega)⟩
def seL (b : Gi_Board) (i far worst : Int) : List Int := (List.range b.Map.Terrain.length).filterMap fun (t : Nat) => if dsB b i t ≤ far ∧ sgV b i t ≤ worst then some (t : Int) else none
theorem seL_len (b : Gi_Board) (i far worst : Int) : (seL b i far worst).length ≤ b.Map.Terrain.length := fm_len _ _
theorem inSight_i {b : Gi_Board} (h : BdV b) {i : Int} (hi : 0 ≤ i ∧ i < b.Map.Terrain.length) (far worst : Int) : Di_inSight b i far worst = some (seL b i far worst) := by
  have hn := h.ok.n2
  unfold Di_inSight seL
  refine fm_goL (L := loop Bi_inSight) (S := fun t acc => .h1 i far worst (b.Map.Terrain.length : Int) (t : Int) b acc) (r := some) (fun t acc ht ha => ?_) fun acc ha => ?_
  · have ht' : (0 : Int) ≤ (t : Int) ∧ (t : Int) < b.Map.Terrain.length := by omega
    rw [loop_eq]
    simp only [Bi_inSight, ltc ht, if_true, (bd_hex h hi).1, (bd_hex h ht').1, (ds_b h hi ht').1, sightOf_i h hi ht', Option.bind_some, if8 (show acc.length ≤ 3000000 by omega), wsucc (show t < 9223372036854775807 by omega)]
    by_cases c : dsB b i t > far
    · rw [if_pos c, if_neg (by omega)]; rfl
    · rw [if_neg c]
      by_cases c2 : sgV b i t ≤ worst
      · rw [if_pos c2, if_pos (by omega)]; rfl
      · rw [if_neg c2, if_neg (by omega)]; rfl
  · rw [loop_eq]
    simp only [Bi_inSight, nltc, if_false, goOn]
def nrB (b : Gi_Board) (i far : Int) : List Int := (List.range b.Map.Terrain.length).filterMap fun (t : Nat) => if dsB b i t ≤ far then some (t : Int) else none
theorem mNear_b {b : Gi_Board} (h : BdV b) {i : Int} (hi : 0 ≤ i ∧ i < b.Map.Terrain.length) (far : Int) : Ds_mNear b.Map i far = some (nrB b i far) := by
  have hn := h.ok.n2
  have hz := h.ok.n
  unfold Ds_mNear nrB
  refine fm_goL (L := loop Bs_mNear) (S := fun t acc => .h1 i far (t : Int) b.Map acc) (r := some) (fun t acc ht ha => ?_) fun acc ha => ?_
  · have ht' : (0 : Int) ≤ (t : Int) ∧ (t : Int) < b.Map.Terrain.length := by omega
    rw [loop_eq]
    simp only [Bs_mNear, mSize_s h.ok.d (by decide), ← hz, ltc ht, if_true, (bd_hex h hi).2, (bd_hex h ht').2, (ds_b h hi ht').2, Option.bind_some, if8 (show acc.length ≤ 3000000 by omega), wsucc (show t < 9223372036854775807 by omega)]
    by_cases c : dsB b i t ≤ far
    · rw [if_pos c, if_pos c]; rfl
    · rw [if_neg c, if_neg c]; rfl
  · rw [loop_eq]
    simp only [Bs_mNear, mSize_s h.ok.d (by decide), ← hz, nltc, if_false, goOn, Option.bind_some]
theorem nrB_mem {b : Gi_Board} {i far x : Int} (h : x ∈ nrB b i far) : 0 ≤ x ∧ x < b.Map.Terrain.length := by
  unfold nrB at h
  rw [List.mem_filterMap] at h
  obtain ⟨t, ht, h⟩ := h
  have := List.mem_range.1 ht
  split at h
  · cases h; omega
  · cases h
theorem vSeen_s {b : Gi_Board} (h : BdV b) {i : Int} (hi : 0 ≤ i ∧ i < b.Map.Terrain.length) (far worst : Int) : Ds_vSeen b i far worst = some (seL b i far worst) := by
  have hn := h.ok.n2
  have hl : (nrB b i far).length ≤ b.Map.Terrain.length := fm_len _ _
  have e : seL b i far worst = (nrB b i far).filter (fun t => decide (sgV b i t ≤ worst)) := by
    unfold seL nrB
    rw [List.filter_filterMap]
    refine fm_congr fun t _ => ?_
    by_cases c : dsB b i t ≤ far
    · by_cases c2 : sgV b i t ≤ worst
      · simp [c, c2, Option.filter]
      · simp [c, c2, Option.filter]
    · simp [c, Option.filter]
  unfold Ds_vSeen
  rw [mNear_b h hi, Option.bind_some, e]
  refine fil_goL (L := loop Bs_vSeen) (S := fun j acc => .h1 i worst ((nrB b i far).length : Int) (j : Int) b acc (nrB b i far)) (r := some) (fun j x acc hx hj ha => ?_) fun acc ha => ?_
  · have hxb := nrB_mem (List.mem_of_getElem? hx)
    rw [loop_eq]
    simp only [Bs_vSeen, ltc hj, nnc, if_true, Int.toNat_natCast, hx, Option.bind_some, vCode_s h hi hxb, if8 (show acc.length ≤ 3000000 by omega), wsucc (show j < 9223372036854775807 by omega), decide_eq_true_eq]
    by_cases c : sgV b i x ≤ worst
    · rw [if_pos c, if_pos c]; rfl
    · rw [if_neg c, if_neg c]; rfl
  · rw [loop_eq]
    simp only [Bs_vSeen, nltc, if_false, goOn]
def snR (b : Gi_Board) (i far w : Int) : List Int × Bool := if (prG b i i && kIn far 0 20) = true then (seL b i far w, true) else ([], false)
theorem sn_i {b : Gi_Board} (hb : BdLen b) (i far w : Int) : (Option.bind (Di_isPair b i i) fun r1 => if r1 = true then Option.bind (Di_inRange far 0 20) fun r3 => if r3 = true then Option.bind (Di_inSight b i far w) fun r5 => some (r5, true) else some ([], false) else some ([], false)) = some (snR b i far w) := by
  unfold snR
  rw [isPair_b hb, Option.bind_some, kin_i]
  by_cases c : prG b i i = true
  · obtain ⟨h, hi, _⟩ := prG_ok hb c
    rw [if_pos c, c, Option.bind_some, Bool.true_and, inSight_i h hi]
    split <;> rfl
  · rw [if_neg c]
    simp only [Bool.not_eq_true] at c
    rw [c]; rfl
theorem sn_s {b : Gi_Board} (hb : BdLen b) (i far w : Int) : (Option.bind (Ds_bAt b 0 i) fun r1 => if r1 = true then Option.bind (Ds_l1In far 0 20) fun r3 => if r3 = true then Option.bind (Ds_vSeen b i far w) fun r5 => some (r5, true) else some ([], false) else some ([], false)) = some (snR b i far w) := by
  unfold snR
  rw [bAt0 hb, Option.bind_some, kin_s]
  by_cases c : prG b i i = true
  · obtain ⟨h, hi, _⟩ := prG_ok hb c
    rw [if_pos c, c, Option.bind_some, Bool.true_and, vSeen_s h hi]
    split <;> rfl
  · rw [if_neg c]
    simp only [Bool.not_eq_true] at c
    rw [c]; rfl
theorem snR_len {b : Gi_Board} (hb : BdLen b) (i far w : Int) : (snR b i far w).1.length ≤ 100 := by
  unfold snR
  split
  · rename_i c
    simp only [Bool.and_eq_true] at c
    have := (prG_ok hb c.1).1.ok.n2
    have := seL_len b i far w
    simp only; omega
  · simp
theorem snR_sub {b : Gi_Board} {i far x : Int} (h : x ∈ (snR b i far 0).1) : x ∈ (snR b i far 1).1 := by
  unfold snR at h ⊢
  split at h
  · rename_i c
    rw [if_pos c]
    dsimp only at h ⊢
    unfold seL at h ⊢
    rw [List.mem_filterMap] at h ⊢
    obtain ⟨t, ht, h⟩ := h
    refine ⟨t, ht, ?_⟩
    split at h
    · rename_i c2
      rw [if_pos ⟨c2.1, by omega⟩]
      exact h
    · cases h
  · simp at h
theorem eSameLists {C : List (List Int)} (hl : C.length ≤ 1000) (hr : ∀ r ∈ C, r.length ≤ 1000) : Dw_sameLists C C = some true := by
  unfold Dw_sameLists
  rw [if_pos rfl]
  refine true_loop (S := fun i => Sw_sameLists.h1 C C (C.length : Int) (i : Int)) (n := C.length) (fun i hi => ?_) ?_
  · have hx : C[i]? = some C[i] := List.getElem?_eq_getElem hi
    have := hr _ (List.mem_of_getElem? hx)
    simp only [Bw_sameLists, ltc hi, nnc, if_true, Int.toNat_natCast, hx, Option.bind_some, eSameInts C[i] (by omega), wsucc (show i < 9223372036854775807 by omega)]
  · simp [Bw_sameLists]
theorem met_t {l6 l7 : List Int} (hl : l6.length ≤ 1000) {x t2 t3 : Int} : ∀ (n k : Nat), k + n = l6.length → loop Bw_FnSight (.h2 x true t2 t3 (l6.length : Int) (k : Int) l6 l7) = loop Bw_FnSight (.h1 t2 (IntKind.wrap .i64 (t3 + 1)) l6 l7)
  | 0, k, h => by
    conv => lhs; rw [loop_eq]
    have : k = l6.length := by omega
    subst this
    simp only [Bw_FnSight, nltc, if_false, goOn]
  | n + 1, k, h => by
    have hk : k < l6.length := by omega
    have hx : l6[k]? = some l6[k] := List.getElem?_eq_getElem hk
    conv => lhs; rw [loop_eq]
    simp only [Bw_FnSight, ltc hk, nnc, if_true, Int.toNat_natCast, hx, Option.bind_some, wsucc (show k < 9223372036854775807 by omega), goOn]
    exact met_t hl n (k + 1) (by omega)
theorem met_f {l6 l7 : List Int} (hl : l6.length ≤ 1000) {x t2 t3 : Int} : ∀ (n k : Nat), k + n = l6.length → x ∈ l6.drop k → loop Bw_FnSight (.h2 x false t2 t3 (l6.length : Int) (k : Int) l6 l7) = loop Bw_FnSight (.h1 t2 (IntKind.wrap .i64 (t3 + 1)) l6 l7)
  | 0, k, h, hm => by
    have : k = l6.length := by omega
    subst this
    simp at hm
  | n + 1, k, h, hm => by
    have hk : k < l6.length := by omega
    have hx : l6[k]? = some l6[k] := List.getElem?_eq_getElem hk
    rw [List.drop_eq_getElem_cons hk] at hm
    conv => lhs; rw [loop_eq]
    simp only [Bw_FnSight, ltc hk, nnc, if_true, Int.toNat_natCast, hx, Option.bind_some, wsucc (show k < 9223372036854775807 by omega), goOn]
    by_cases c : l6[k] = x
    · rw [show ((l6[k] : Int) == x) = true from by rw [c]; simp]
      exact met_t hl n (k + 1) (by omega)
    · rw [show ((l6[k] : Int) == x) = false from by simpa using c]
      refine met_f hl n (k + 1) (by omega) ?_
      rcases List.mem_cons.1 hm with e | e
      · exact absurd e.symm c
      · exact e
theorem sight_1 {l6 l7 : List Int} (hl : l6.length ≤ 1000) (hl7 : l7.length ≤ 1000) (hs : ∀ x ∈ l7, x ∈ l6) : loop Bw_FnSight (.h1 (l7.length : Int) 0 l6 l7) = some true := by
  have key : ∀ (n k : Nat), k + n = l7.length → loop Bw_FnSight (.h1 (l7.length : Int) (k : Int) l6 l7) = some true := by
    intro n
    induction n with
    | zero =>
      intro k h
      have : k = l7.length := by omega
      subst this
      rw [loop_eq]
      simp only [Bw_FnSight, nltc, if_false, goOn]
    | succ n ih =>
      intro k h
      have hk : k < l7.length := by omega
      have hx : l7[k]? = some l7[k] := List.getElem?_eq_getElem hk
      rw [loop_eq]
      simp only [Bw_FnSight, ltc hk, nnc, if_true, Int.toNat_natCast, hx, Option.bind_some, goOn]
      refine (met_f hl l6.length 0 (by omega) (hs _ (List.mem_of_getElem? hx))).trans ?_
      rw [wsucc (show k < 9223372036854775807 by omega)]
      exact ih (k + 1) (by omega)
  exact key l7.length 0 (by omega)
theorem lawSight (code more : List Int) (hc : code.length < 9223372036854775808) (hm : more.length < 9223372036854775808) (h1 : ∀ x ∈ code, 0 ≤ x ∧ x < 256) (h2 : ∀ x ∈ more, 0 ≤ x ∧ x < 256) : Dw_FnSight code more = some true := Ok.isTrue <| by
  unfold Dw_FnSight
  have d1 : Ok (Ds_DrawSightCode code) fun r => BdD r.1 := by
    unfold Ds_DrawSightCode Ds_DrawSightCells
    exact Ok.bind (Ok.bind (okAnyBoard (cu1 h1 hc) (by omega)) fun r hr => Ok.bind (okPlace hr.2 (by omega) _) fun q hq => Ok.bind (okPlace hq (by omega) _) fun p hp => Ok.ret hr.1) fun r hr => Ok.ret hr
  have d2 : Ok (Ds_DrawSeenFrom more) fun r => BdD r.1 := by
    unfold Ds_DrawSeenFrom
    exact Ok.bind (okAnyBoard (cu1 h2 hm) (by omega)) fun r hr => Ok.bind (okPlace hr.2 (by omega) _) fun q hq => Ok.bind (okAmong hq (by omega) _ (by decide)) fun p hp => Ok.ret hr.1
  have fin : ∀ g x far, BdD g → loop Bw_FnSight (.h1 (((snR g x far 0).1.length : Nat) : Int) 0 (snR g x far 1).1 (snR g x far 0).1) = some true := fun g x far hg => by
    have e1 := snR_len hg.len x far 0
    have e2 := snR_len hg.len x far 1
    exact sight_1 (by omega) (by omega) fun y hy => snR_sub hy
  refine Ok.eq (eBig code more hc hm) (Ok.ite (fun _ => Ok.ret rfl) fun _ => Ok.bind d1 fun r3 hr3 => ?_)
  have hb := hr3.len
  have s1 := sightCode_s hb r3.2.1 r3.2.2
  have s2 := sightCode_i hb r3.2.2 r3.2.1
  have s3 := sightCells_i hb r3.2.1 r3.2.2
  have s4 := sightCells_s hb r3.2.1 r3.2.2
  have s5 := firstBlock_i hb r3.2.1 r3.2.2
  have s6 := firstBlock_s hb r3.2.1 r3.2.2
  refine Ok.eq (sightCode_i hb _ _) ?_
  by_cases c : prG r3.1 r3.2.1 r3.2.2 = true
  · obtain ⟨h, hi, hk⟩ := prG_ok hb c
    have hl := lnB_len h hi hk
    have hl2 := sgC_len r3.1 r3.2.1 r3.2.2
    have e1 : sgcR r3.1 r3.2.1 r3.2.2 = (sgV r3.1 r3.2.1 r3.2.2, true) := by unfold sgcR; rw [if_pos c]
    have e2 : sgcR r3.1 r3.2.2 r3.2.1 = (sgV r3.1 r3.2.1 r3.2.2, true) := by unfold sgcR; rw [if_pos (by rw [prG_comm]; exact c), sgV_comm h hi hk]
    have e3 : sgsR r3.1 r3.2.1 r3.2.2 = (sgC r3.1 r3.2.1 r3.2.2, true) := by unfold sgsR; rw [if_pos c]
    have e4 : (sgfR r3.1 r3.2.1 r3.2.2).2 = ((sgV r3.1 r3.2.1 r3.2.2 : Int) == 2) := by
      obtain ⟨g1, g2⟩ := vfG_nn r3.1 r3.2.1 r3.2.2 (sgC r3.1 r3.2.1 r3.2.2) 0
      unfold sgfR sgV
      rw [if_pos c]
      by_cases cf : fuB r3.1 r3.2.1 r3.2.2 (sgC r3.1 r3.2.1 r3.2.2) = true
      · have := g1.2 cf
        rw [if_neg (by omega), if_pos cf]; rfl
      · rw [if_pos (Int.not_le.1 fun hh => cf (g1.1 hh)), if_neg cf]
        split <;> rfl
    rw [e1] at s1 ⊢
    rw [e2] at s2
    rw [e3] at s3 s4
    refine Ok.chk rfl (Ok.eq s1 (Ok.eq s2 (Ok.els (by simp) (Ok.chk rfl (Ok.els (by simp) (Ok.chk rfl ?_))))))
    refine Ok.eq s3 (Ok.eq s4 (Ok.eq s5 (Ok.eq s6 (Ok.els (by simp) (Ok.eq (eSameLists (by simp only; omega) fun r hr => ?_) (Ok.chk rfl (Ok.els (by simp) (Ok.chk rfl (Ok.els (by rw [e4]; simp) (Ok.bind d2 fun r22 hr22 => ?_))))))))))
    · obtain ⟨j, _, rfl⟩ := sgC_mem.1 hr
      have := (sgRow_ok h hi hk (j + 1)).1
      omega
    have hg := hr22.len
    have l0 := snR_len hg r22.2.1 r22.2.2 0
    have l1 := snR_len hg r22.2.1 r22.2.2 1
    refine Ok.eq (sn_i hg _ _ 1) (Ok.eq (sn_s hg _ _ 1) (Ok.eq (sn_i hg _ _ 0) (Ok.eq (sn_s hg _ _ 0) ?_)))
    refine Ok.els (by simp) (Ok.eq (eSameInts _ (by omega)) (Ok.chk rfl (Ok.els (by simp) (Ok.eq (eSameInts _ (by omega)) (Ok.chk rfl ⟨true, fin _ _ _ hr22, rfl⟩)))))
  · have e1 : sgcR r3.1 r3.2.1 r3.2.2 = (0, false) := by unfold sgcR; rw [if_neg c]
    have e2 : sgcR r3.1 r3.2.2 r3.2.1 = (0, false) := by unfold sgcR; rw [if_neg (by rw [prG_comm]; exact c)]
    have e3 : sgsR r3.1 r3.2.1 r3.2.2 = ([], false) := by unfold sgsR; rw [if_neg c]
    rw [e1] at s1 ⊢
    rw [e2] at s2
    rw [e3] at s3 s4
    refine Ok.els (by decide) (Ok.eq s1 (Ok.eq s2 (Ok.els (by simp) (Ok.chk rfl (Ok.els (by simp) (Ok.chk rfl ?_))))))
    refine Ok.eq s3 (Ok.eq s4 (Ok.eq s5 (Ok.eq s6 (Ok.els (by simp) (Ok.eq (eSameLists (by simp) fun r hr => by simp at hr) (Ok.chk rfl (Ok.els (by simp) (Ok.chk rfl (Ok.bind d2 fun r22 hr22 => ?_)))))))))
    have hg := hr22.len
    have l0 := snR_len hg r22.2.1 r22.2.2 0
    have l1 := snR_len hg r22.2.1 r22.2.2 1
    refine Ok.eq (sn_i hg _ _ 1) (Ok.eq (sn_s hg _ _ 1) (Ok.eq (sn_i hg _ _ 0) (Ok.eq (sn_s hg _ _ 0) ?_)))
    refine Ok.els (by simp) (Ok.eq (eSameInts _ (by omega)) (Ok.chk rfl (Ok.els (by simp) (Ok.eq (eSameInts _ (by omega)) (Ok.chk rfl ⟨true, fin _ _ _ hr22, rfl⟩)))))

end Go.Proofs.YtpggeanoohlmjaaGreatDoor.Ab
