/- Part of the proof of FnLookoutsCard: no condition of its own. -/
import Derived.Test.YtakcjcjfcignjaaGreatDoorB5LP
set_option linter.unusedVariables false
set_option linter.unusedSimpArgs false
open Go
namespace Go.Proofs.YtakcjcjfcignjaaGreatDoor.Ab
theorem okMapLoop {k T W H : Int} (hd : MpDim ⟨W, H, [], [], []⟩ 10) (hk : k + 1000 ≤ 1099511627776) : ∀ {s}, mpI k T W H s → Ok (loop Bs_l1Cur_mapOf s) fun r => MpDrawn r.1 ∧ Cu r.2 (k + 600) := by
  have hs := mpSize hd
  simp only at hs
  have hS : ∀ l : List Int, Ds_mSize ⟨W, H, l, [], []⟩ = some (W * H) := fun l => mSize_s (m := ⟨W, H, l, [], []⟩) (b := 10) hd (by decide)
  intro s0 h0
  refine Ok.loop (mpI k T W H) (mpM W H) (fun s hI => ?_) h0
  match s, hI with
  | .h1 t i b2 b3 b4 b5 b6, hI =>
    obtain ⟨rfl, rfl, hc, rfl, rfl⟩ := hI
    simp only [Bs_l1Cur_mapOf]
    refine Ok.eq (hS []) (Ok.chk (by omega) (Ok.bind (okOne hc (by omega) 3) fun r3 h3 => Ok.ite (fun _ => Ok.bind (okPick h3 (by omega) _) fun r5 h5 => Ok.chk (by simp) (Ok.ret ?_)) fun _ => Ok.chk (by simp) (Ok.ret ?_)))
    · exact ⟨⟨rfl, by decide, by rw [show IntKind.wrap .i64 (0 + 1) = 1 from by decide]; omega, h5.2.mono (by rw [show IntKind.wrap .i64 (0 + 1) = 1 from by decide]; omega) (by rw [show IntKind.wrap .i64 (0 + 1) = 1 from by decide]; omega), rfl, rfl, rfl⟩, by simp only [mpM]; rw [show IntKind.wrap .i64 (0 + 1) = 1 from by decide]; omega⟩
    · exact ⟨⟨rfl, by decide, by rw [show IntKind.wrap .i64 (0 + 1) = 1 from by decide]; omega, h3.mono (by rw [show IntKind.wrap .i64 (0 + 1) = 1 from by decide]; omega) (by rw [show IntKind.wrap .i64 (0 + 1) = 1 from by decide]; omega), rfl, rfl, rfl⟩, by simp only [mpM]; rw [show IntKind.wrap .i64 (0 + 1) = 1 from by decide]; omega⟩
  | .h2 t i b2 b3 b4 b5 b6 l7, hI =>
    obtain ⟨rfl, hi1, hi2, hc, rfl, rfl, hl⟩ := hI
    simp only [Bs_l1Cur_mapOf]
    refine Ok.eq (hS l7) (Ok.ite (fun cc => ?_) fun cc => ?_)
    · have e : IntKind.wrap .i64 (i + 1) = i + 1 := w64 (by omega)
      refine Ok.bind (okOne hc (by omega) 3) fun r3 h3 => Ok.ite (fun _ => Ok.bind (okPick h3 (by omega) _) fun r5 h5 => Ok.chk (by simp; omega) (Ok.ret ?_)) fun _ => Ok.chk (by simp; omega) (Ok.ret ?_)
      · exact ⟨⟨rfl, by omega, by omega, h5.2.mono (by omega) (by omega), rfl, rfl, by simp; omega⟩, by simp only [mpM]; omega⟩
      · exact ⟨⟨rfl, by omega, by omega, h3.mono (by omega) (by omega), rfl, rfl, by simp; omega⟩, by simp only [mpM]; omega⟩
    · have hd1 : MpDim ⟨b5, b6, l7, [], []⟩ 10 := hd
      refine Ok.bind (okEdges hd1 hc (by omega)) fun r3 h3 => ?_
      have hd2 : MpDim ⟨b5, b6, l7, r3.1, []⟩ 10 := hd
      exact Ok.bind (okEdges hd2 h3.2 (by omega)) fun r4 h4 => Ok.ret ⟨⟨hd, by simp only; omega, by simp only; omega, h3.1, h4.1⟩, h4.2.mono (by omega) (by omega)⟩
theorem okMapOf {c : Gs_l1Cur} {k : Int} (h : Cu c k) (hk : k + 1100 ≤ 1099511627776) (T : Int) : Ok (Ds_l1Cur_mapOf c T) fun r => MpDrawn r.1 ∧ Cu r.2 (k + 700) := by
  unfold Ds_l1Cur_mapOf
  refine Ok.bind (okPick h (by omega) 6) fun r1 h1 => Ok.bind (okPick h1.2 (by omega) 6) fun r2 h2 => ?_
  have v1 := h1.1.2.1 (by omega)
  have v2 := h2.1.2.1 (by omega)
  rw [w64 (n := 1 + r1.1) (by omega), w64 (n := 1 + r2.1) (by omega)]
  refine Ok.mono (okMapLoop (k := k + 4) (T := T) (W := 1 + r1.1) (H := 1 + r2.1) ?_ (by omega) ?_) fun r hr => ⟨hr.1, hr.2.mono (by omega) (by omega)⟩
  · unfold MpDim; simp only; omega
  · exact ⟨rfl, rfl, h2.2.mono (by omega) (by omega), rfl, rfl⟩
theorem MpDrawn.len {m : Gi_Map} (h : MpDrawn m) : MpLen m := by
  have := h.t2
  have := h.r
  have := h.o
  exact ⟨by omega, by omega, by omega⟩
theorem okAnyMap {c : Gs_l1Cur} {k : Int} (h : Cu c k) (hk : k + 1100 ≤ 1099511627776) : Ok (Ds_l1Cur_anyMap c) fun r => MpLen r.1 ∧ Cu r.2 (k + 1100) := by
  obtain ⟨m, c', e, h1, h2⟩ := cuAnyMap h hk
  exact ⟨_, e, h2, h1⟩
/-- A board, as drawn. -/
structure BdD (b : Gi_Board) : Prop where
  len : BdLen b
  k : 1 ≤ b.Rules.Kinds.length ∧ b.Rules.Kinds.length ≤ 30
theorem okBoard {c : Gs_l1Cur} {k : Int} (h : Cu c k) (hk : k + 1500 ≤ 1099511627776) : Ok (Ds_l1Cur_board c) fun r => BdD r.1 ∧ Cu r.2 (k + 1000) := by
  unfold Ds_l1Cur_board
  refine Ok.bind (okRules h (by omega)) fun r1 h1 => Ok.bind (okMapOf h1.2 (by omega) _) fun r2 h2 => Ok.ret ⟨⟨⟨h1.1.len, h2.1.len⟩, ?_⟩, h2.2.mono (by omega) (by omega)⟩
  have := h1.1.k
  simp only
  omega
theorem okAnyBoard {c : Gs_l1Cur} {k : Int} (h : Cu c k) (hk : k + 2500 ≤ 1099511627776) : Ok (Ds_l1Cur_anyBoard c) fun r => BdD r.1 ∧ Cu r.2 (k + 2500) := by
  unfold Ds_l1Cur_anyBoard
  refine Ok.bind (okBoard h (by omega)) fun r1 h1 => Ok.bind (okPick h1.2 (by omega) 24) fun r2 h2 => Ok.ite (fun _ => ?_) fun _ => Ok.ite (fun _ => ?_) fun _ => ?_
  · exact Ok.bind (okAnyRules h2.2 (by omega)) fun r4 h4 => Ok.ret ⟨⟨⟨h4.1, h1.1.len.m⟩, h4.2.1⟩, h4.2.2.mono (by omega) (by omega)⟩
  · exact Ok.bind (okAnyMap h2.2 (by omega)) fun r4 h4 => Ok.ret ⟨⟨⟨h1.1.len.r, h4.1⟩, h1.1.k⟩, h4.2.mono (by omega) (by omega)⟩
  · exact Ok.ret ⟨h1.1, h2.2.mono (by omega) (by omega)⟩
theorem okPlace {c : Gs_l1Cur} {k : Int} (h : Cu c k) (hk : k + 4 ≤ 1099511627776) (m : Gi_Map) : Ok (Ds_l1Cur_place c m) fun r => Cu r.2 (k + 4) := by
  obtain ⟨v, c', e, h1⟩ := cuPlace h hk m
  exact ⟨_, e, h1⟩
theorem okKindOf {c : Gs_l1Cur} {k : Int} (h : Cu c k) (hk : k + 6 ≤ 1099511627776) (b : Gi_Board) : Ok (Ds_l1Cur_kindOf c b) fun r => Cu r.2 (k + 6) := by
  unfold Ds_l1Cur_kindOf
  exact Ok.bind (okPick h (by omega) 16) fun r1 h1 => Ok.bind (okPick h1.2 (by omega) _) fun r2 h2 => Ok.bind (okPick h2.2 (by omega) 20) fun r3 h3 => Ok.ret (h3.2.mono (by omega) (by omega))

theorem fm_congr {α β : Type} {f g : α → Option β} : ∀ {l : List α}, (∀ x ∈ l, f x = g x) → l.filterMap f = l.filterMap g
  | [], _ => rfl
  | x :: l, h => by
    rw [List.filterMap_cons, List.filterMap_cons, h x (List.mem_cons_self ..), fm_congr fun y hy => h y (List.mem_cons_of_mem _ hy)]
theorem Ok.isTrue {o : Option Bool} (h : Ok o fun r => r = true) : o = some true := by
  obtain ⟨a, e, rfl⟩ := h
  exact e
theorem Ok.is {α : Type} {o : Option α} {a : α} (h : Ok o fun r => r = a) : o = some a := by
  obtain ⟨a, e, rfl⟩ := h
  exact e
theorem bdG_mp {b : Gi_Board} (h : bdG b = true) : mpGood b.Map = true := by
  simp only [bdG, Bool.and_eq_true] at h
  exact h.1.2
/-- A valid board of a size that a machine holds. -/
structure BdV (b : Gi_Board) : Prop where
  l : BdLen b
  g : bdG b = true
theorem BdV.ok {b : Gi_Board} (h : BdV b) : BdOk b := bdG_ok h.g
theorem BdV.on {b : Gi_Board} (h : BdV b) {i : Int} (hi : 0 ≤ i ∧ i < b.Map.Terrain.length) : mpOn b.Map i = true := mpOn_iff.2 ⟨bdG_mp h.g, hi.1, by have := h.ok.n; omega⟩
theorem BdV.next {b : Gi_Board} (h : BdV b) {i d : Int} (hi : 0 ≤ i ∧ i < b.Map.Terrain.length) (hd : 0 ≤ d ∧ d < 6) : Di_nextTo b.Map i d = some (mpNext b.Map i d) ∧ Ds_mNext b.Map i d = some (mpNext b.Map i d) := next_b h.ok.d100 ⟨hi.1, by have := h.ok.n2; omega⟩ hd
theorem BdV.nlt {b : Gi_Board} (h : BdV b) {i d : Int} (hk : 0 ≤ mpNext b.Map i d) : mpNext b.Map i d < b.Map.Terrain.length := by
  have := (mpNext_lt hk).1
  have := h.ok.n
  omega
theorem fil_goL {σ α ρ : Type} {L : σ → Option ρ} {S : Nat → List α → σ} {l : List α} {p : α → Bool} {r : List α → Option ρ}
    (hs : ∀ i x acc, l[i]? = some x → i < l.length → acc.length ≤ i → L (S i acc) = L (S (i + 1) (if p x = true then acc ++ [x] else acc))) (he : ∀ acc, acc.length ≤ l.length → L (S l.length acc) = r acc) : L (S 0 []) = r (l.filter p) := by
  have key : ∀ (k i : Nat) acc, i + k = l.length → acc.length ≤ i → L (S i acc) = r (acc ++ (l.drop i).filter p) := by
    intro k
    induction k with
    | zero =>
      intro i acc h hl
      have : i = l.length := by omega
      subst this
      rw [he acc hl, List.drop_length]
      simp
    | succ k ih =>
      intro i acc h hl
      have hx : l[i]? = some l[i] := List.getElem?_eq_getElem (by omega)
      rw [hs i _ acc hx (by omega) hl, List.drop_eq_getElem_cons (by omega), List.filter_cons]
      cases p l[i] with
      | false => exact ih (i + 1) acc (by omega) (by omega)
      | true =>
        simp only [if_true]
        rw [ih (i + 1) _ (by omega) (by simp; omega)]
        simp
  simpa using key l.length 0 [] (by omega) (by simp)
def r6 (d : Int) : Int := Int.tmod (d + 3) 6
theorem abs_same {a c : Int} (h : a.natAbs + c.natAbs = (a + c).natAbs) : ¬ (a < 0 ∧ 0 < c) ∧ ¬ (0 < a ∧ c < 0) := by omega
theorem geo {a b c d : Int} (h : a.natAbs + b.natAbs + (a + b).natAbs + (c.natAbs + d.natAbs + (c + d).natAbs) = (a + c).natAbs + (b + d).natAbs + (a + c + (b + d)).natAbs) :
    (a.natAbs + c.natAbs = (a + c).natAbs) ∧ (b.natAbs + d.natAbs = (b + d).natAbs) := by
  have h1 : (a + c).natAbs ≤ a.natAbs + c.natAbs := Int.natAbs_add_le ..
  have h2 : (b + d).natAbs ≤ b.natAbs + d.natAbs := Int.natAbs_add_le ..
  have h3 : (a + c + (b + d)).natAbs ≤ (a + b).natAbs + (c + d).natAbs := by
    have := Int.natAbs_add_le (a + b) (c + d)
    rwa [show a + b + (c + d) = a + c + (b + d) by omega] at this
  omega
theorem hd_two (A B : Gi_Hex) : 2 * hd A B = (((B.Q - A.Q).natAbs + (B.R - A.R).natAbs + (B.Q - A.Q + (B.R - A.R)).natAbs : Nat) : Int) := by
  unfold hd
  omega
theorem between {A B x : Gi_Hex} (h : hd A x + hd x B = hd A B) {W H : Int} (hA : (0 ≤ A.Q ∧ A.Q < W) ∧ 0 ≤ A.R ∧ A.R < H) (hB : (0 ≤ B.Q ∧ B.Q < W) ∧ 0 ≤ B.R ∧ B.R < H) : (0 ≤ x.Q ∧ x.Q < W) ∧ 0 ≤ x.R ∧ x.R < H := by
  have e1 := hd_two A x
  have e2 := hd_two x B
  have e3 := hd_two A B
  obtain ⟨g1, g2⟩ := geo (a := x.Q - A.Q) (b := x.R - A.R) (c := B.Q - x.Q) (d := B.R - x.R) (by
    rw [show x.Q - A.Q + (B.Q - x.Q) = B.Q - A.Q by omega, show x.R - A.R + (B.R - x.R) = B.R - A.R by omega]
    omega)
  have s1 := abs_same g1
  have s2 := abs_same g2
  omega
theorem mpHex_in {m : Gi_Map} {i : Int} (hm : MpDim m 100) (hi : 0 ≤ i ∧ i < m.Width * m.Height) : (0 ≤ (mpHex m i).Q ∧ (mpHex m i).Q < m.Width) ∧ 0 ≤ (mpHex m i).R ∧ (mpHex m i).R < m.Height := by
  unfold MpDim at hm
  obtain ⟨d1, d2, d3, d4⟩ := mpDiv hi.1 hm.1
  have d5 : i / m.Width < m.Height := Int.ediv_lt_of_lt_mul (by omega) (by rw [Int.mul_comm]; exact hi.2)
  unfold mpHex
  simp only
  omega
theorem BdV.d100' {b : Gi_Board} (h : BdV b) : MpDim b.Map 100 := by
  have := h.ok.d
  unfold MpDim at this ⊢
  omega
theorem bd_hex {b : Gi_Board} (h : BdV b) {i : Int} (hi : 0 ≤ i ∧ i < b.Map.Terrain.length) : Di_hexOf b.Map i = some (mpHex b.Map i) ∧ Ds_mHex b.Map i = some (mpHex b.Map i) := hexOf_b h.ok.d.1 (by have := h.ok.n2; omega)
theorem bd_in {b : Gi_Board} (h : BdV b) {i : Int} (hi : 0 ≤ i ∧ i < b.Map.Terrain.length) : (0 ≤ (mpHex b.Map i).Q ∧ (mpHex b.Map i).Q < b.Map.Width) ∧ 0 ≤ (mpHex b.Map i).R ∧ (mpHex b.Map i).R < b.Map.Height := mpHex_in h.d100' (by have := h.ok.n; omega)
theorem bd_hx {b : Gi_Board} (h : BdV b) {i : Int} (hi : 0 ≤ i ∧ i < b.Map.Terrain.length) : HexOk (mpHex b.Map i) := by
  have h1 := bd_in h hi
  have h2 := h.ok.d
  unfold MpDim at h2
  unfold HexOk
  omega
/-- The line between two hexes of a board. -/
def lnB (b : Gi_Board) (i k : Int) : List (List Gi_Hex) := hexLineR (mpHex b.Map i) (mpHex b.Map k)
def sgRow (b : Gi_Board) (L : List (List Gi_Hex)) (n : Nat) : List Int := match L[n]? with
  | some row => row.map (mpIdx b.Map)
  | none => []
def sgC (b : Gi_Board) (i k : Int) : List (List Int) := (List.range ((lnB b i k).length - 2)).filterMap fun (j : Nat) => some (sgRow b (lnB b i k) (j + 1))
theorem lnB_ok {b : Gi_Board} (h : BdV b) {i k : Int} (hi : 0 ≤ i ∧ i < b.Map.Terrain.length) (hk : 0 ≤ k ∧ k < b.Map.Terrain.length) {n : Nat} {row : List Gi_Hex} (hr : (lnB b i k)[n]? = some row) : row.length ≤ 2 ∧ ∀ x ∈ row, 0 ≤ mpIdx b.Map x ∧ mpIdx b.Map x < b.Map.Terrain.length := by
  obtain ⟨h1, _, h3⟩ := hexLineR_mem (bd_hx h hi) (bd_hx h hk) hr
  refine ⟨h1, fun x hx => ?_⟩
  obtain ⟨_, g1, g2⟩ := h3 x hx
  obtain ⟨p1, p2⟩ := between (by rw [g1, g2]; omega) (bd_in h hi) (bd_in h hk)
  have hn := h.ok.n
  have := mpMul (w := b.Map.Width) (h := b.Map.Height) (r := x.R) (q := x.Q) (by omega) (by omega)
  unfold mpIdx
  rw [if_pos (by omega)]
  omega
theorem lnB_len {b : Gi_Board} (h : BdV b) {i k : Int} (hi : 0 ≤ i ∧ i < b.Map.Terrain.length) (hk : 0 ≤ k ∧ k < b.Map.Terrain.length) : 1 ≤ (lnB b i k).length ∧ (lnB b i k).length ≤ 161 := by
  have h1 := hexLineR_len (bd_hx h hi) (bd_hx h hk)
  have h2 := hd_b (bd_hx h hi) (bd_hx h hk)
  unfold lnB
  omega
theorem sgC_len (b : Gi_Board) (i k : Int) : (sgC b i k).length ≤ (lnB b i k).length - 2 := fm_len _ _
theorem sgC_mem {b : Gi_Board} {i k : Int} {row : List Int} : row ∈ sgC b i k ↔ ∃ j : Nat, j < (lnB b i k).length - 2 ∧ row = sgRow b (lnB b i k) (j + 1) := by
  unfold sgC
  rw [List.mem_filterMap]
  constructor
  · rintro ⟨j, hj, e⟩
    cases e
    exact ⟨j, List.mem_range.1 hj, rfl⟩
  · rintro ⟨j, hj, rfl⟩
    exact ⟨j, List.mem_range.2 hj, rfl⟩
theorem sgRow_ok {b : Gi_Board} (h : BdV b) {i k : Int} (hi : 0 ≤ i ∧ i < b.Map.Terrain.length) (hk : 0 ≤ k ∧ k < b.Map.Terrain.length) (n : Nat) : (sgRow b (lnB b i k) n).length ≤ 2 ∧ ∀ x ∈ sgRow b (lnB b i k) n, 0 ≤ x ∧ x < b.Map.Terrain.length := by
  unfold sgRow
  cases e : (lnB b i k)[n]? with
  | none => simp
  | some row =>
    obtain ⟨h1, h2⟩ := lnB_ok h hi hk e
    refine ⟨by simpa using h1, fun x hx => ?_⟩
    obtain ⟨y, hy, rfl⟩ := List.mem_map.1 hx
    exact h2 y hy
theorem cellRow_i {b : Gi_Board} (h : BdV b) {L : List (List Gi_Hex)} {out : List (List Int)} {t : Int} {row : List Gi_Hex} (hl : row.length ≤ 2) (ho : out.length ≤ 1000) : ∀ (p pre : List Gi_Hex) (acc : List Int), row = pre ++ p → acc.length ≤ pre.length →
    loop Bi_sightCells (.h2 t row (row.length : Int) (pre.length : Int) b out L acc) = loop Bi_sightCells (.h3 (IntKind.wrap .i64 (t + 1)) b (out ++ [acc ++ p.map (mpIdx b.Map)]) L)
  | [], pre, acc, e, ha => by
    conv => lhs; rw [loop_eq]
    have : row.length = pre.length := by rw [e]; simp
    rw [this]
    simp only [Bi_sightCells, nltc, if_false]
    rw [if_pos (by simp; omega)]
    simp [goOn]
  | x :: p, pre, acc, e, ha => by
    have hlen : pre.length < row.length := by rw [e]; simp
    have hx : row[pre.length]? = some x := by rw [e]; simp
    have ih := cellRow_i h (L := L) (t := t) hl ho p (pre ++ [x]) (acc ++ [mpIdx b.Map x]) (by rw [e]; simp) (by simp; omega)
    rw [List.length_append, List.length_singleton] at ih
    conv => lhs; rw [loop_eq]
    simp only [Bi_sightCells, ltc hlen, nnc, if_true, Int.toNat_natCast, hx, Option.bind_some, (indexOf_b h.d100').1, if8 (show acc.length ≤ 3000000 by omega), wsucc (show pre.length < 9223372036854775807 by omega)]
    simp only [goOn]
    rw [ih]
    simp
theorem cellRow_s {b : Gi_Board} (h : BdV b) {L : List (List Gi_Hex)} {out : List (List Int)} {t : Int} {row : List Gi_Hex} (hl : row.length ≤ 2) (ho : out.length ≤ 1000) : ∀ (p pre : List Gi_Hex) (acc : List Int), row = pre ++ p → acc.length ≤ pre.length →
    loop Bs_vCells (.h2 t row (row.length : Int) (pre.length : Int) b L out acc) = loop Bs_vCells (.h3 (IntKind.wrap .i64 (t + 1)) b L (out ++ [acc ++ p.map (mpIdx b.Map)]))
  | [], pre, acc, e, ha => by
    conv => lhs; rw [loop_eq]
    have : row.length = pre.length := by rw [e]; simp
    rw [this]
    simp only [Bs_vCells, nltc, if_false]
    rw [if_pos (by simp; omega)]
    simp [goOn]
  | x :: p, pre, acc, e, ha => by
    have hlen : pre.length < row.length := by rw [e]; simp
    have hx : row[pre.length]? = some x := by rw [e]; simp
    have ih := cellRow_s h (L := L) (t := t) hl ho p (pre ++ [x]) (acc ++ [mpIdx b.Map x]) (by rw [e]; simp) (by simp; omega)
    rw [List.length_append, List.length_singleton] at ih
    conv => lhs; rw [loop_eq]
    simp only [Bs_vCells, ltc hlen, nnc, if_true, Int.toNat_natCast, hx, Option.bind_some, (indexOf_b h.d100').2, if8 (show acc.length ≤ 3000000 by omega), wsucc (show pre.length < 9223372036854775807 by omega)]
    simp only [goOn]
    rw [ih]
    simp
theorem cells_i {b : Gi_Board} (h : BdV b) {i k : Int} (hi : 0 ≤ i ∧ i < b.Map.Terrain.length) (hk : 0 ≤ k ∧ k < b.Map.Terrain.length) : Di_sightCells b i k = some (sgC b i k) := by
  have hl := lnB_len h hi hk
  unfold Di_sightCells
  rw [(bd_hex h hi).1, Option.bind_some, (bd_hex h hk).1, Option.bind_some, lineOf_i (bd_hx h hi) (bd_hx h hk), Option.bind_some]
  show loop Bi_sightCells (.h1 1 b [] (lnB b i k)) = _
  have e0 : loop Bi_sightCells (.h1 1 b [] (lnB b i k)) = loop Bi_sightCells (.h3 1 b [] (lnB b i k)) := by
    rw [loop_eq]
    conv => rhs; rw [loop_eq]
    rfl
  rw [e0]
  unfold sgC
  refine fm_goL (L := loop Bi_sightCells) (S := fun j acc => .h3 (((j + 1 : Nat)) : Int) b acc (lnB b i k)) (r := some) (fun j acc hj ha => ?_) fun acc ha => ?_
  · have hx : (lnB b i k)[j + 1]? = some ((lnB b i k)[j + 1]'(by omega)) := List.getElem?_eq_getElem (by omega)
    have ho := lnB_ok h hi hk hx
    rw [loop_eq]
    simp only [Bi_sightCells]
    rw [wsucc (by omega), if_pos (by omega), if_pos (by omega), Int.toNat_natCast, hx, Option.bind_some]
    simp only [goOn]
    have := cellRow_i h (L := lnB b i k) (out := acc) (t := ((j + 1 : Nat) : Int)) ho.1 (by omega) _ [] [] rfl (Nat.le_refl _)
    refine Eq.trans this ?_
    rw [wsucc (by omega)]
    unfold sgRow
    rw [hx]
    simp
  · rw [loop_eq]
    simp only [Bi_sightCells]
    rw [wsucc (by omega), if_neg (by omega)]; rfl
theorem cells_s {b : Gi_Board} (h : BdV b) {i k : Int} (hi : 0 ≤ i ∧ i < b.Map.Terrain.length) (hk : 0 ≤ k ∧ k < b.Map.Terrain.length) : Ds_vCells b i k = some (sgC b i k) := by
  have hl := lnB_len h hi hk
  unfold Ds_vCells
  rw [(bd_hex h hi).2, Option.bind_some, (bd_hex h hk).2, Option.bind_some, hLine_s (bd_hx h hi) (bd_hx h hk), Option.bind_some]
  show loop Bs_vCells (.h1 1 b (lnB b i k) []) = _
  have e0 : loop Bs_vCells (.h1 1 b (lnB b i k) []) = loop Bs_vCells (.h3 1 b (lnB b i k) []) := by
    rw [loop_eq]
    conv => rhs; rw [loop_eq]
    rfl
  rw [e0]
  unfold sgC
  refine fm_goL (L := loop Bs_vCells) (S := fun j acc => .h3 (((j + 1 : Nat)) : Int) b (lnB b i k) acc) (r := some) (fun j acc hj ha => ?_) fun acc ha => ?_
  · have hx : (lnB b i k)[j + 1]? = some ((lnB b i k)[j + 1]'(by omega)) := List.getElem?_eq_getElem (by omega)
    have ho := lnB_ok h hi hk hx
    rw [loop_eq]
    simp only [Bs_vCells]
    rw [w64 (by omega), if_pos (by omega), if_pos (by omega), Int.toNat_natCast, hx, Option.bind_some]
    simp only [goOn]
    have := cellRow_s h (L := lnB b i k) (out := acc) (t := ((j + 1 : Nat) : Int)) ho.1 (by omega) _ [] [] rfl (Nat.le_refl _)
    refine Eq.trans this ?_
    rw [wsucc (by omega)]
    unfold sgRow
    rw [hx]
    simp
  · rw [loop_eq]
    simp only [Bs_vCells]
    rw [w64 (by omega), if_neg (by omega)]; rfl
def hgT (b : Gi_Board) (x : Int) : Int := if (bdT b x).Blocks = true then (bdT b x).Height + 1 else (bdT b x).Height
def bkB (b : Gi_Board) (i k x : Int) : Bool := decide (hgT b x > max (bdT b i).Height (bdT b k).Height)
theorem blocks_i {b : Gi_Board} (h : BdV b) {i k x : Int} (hi : 0 ≤ i ∧ i < b.Map.Terrain.length) (hk : 0 ≤ k ∧ k < b.Map.Terrain.length) (hx : 0 ≤ x ∧ x < b.Map.Terrain.length) : Di_blocksBetween b i k x = some (bkB b i k x) := by
  obtain ⟨a1, _, m1⟩ := bdT_b h.ok hi
  obtain ⟨a2, _, m2⟩ := bdT_b h.ok hk
  obtain ⟨a3, _, m3⟩ := bdT_b h.ok hx
  have s3 := h.ok.r.sh _ m3
  unfold Di_blocksBetween bkB hgT
  rw [a1, a2, a3, Option.bind_some, w64 (by omega)]
  have e : (if (bdT b i).Height < (bdT b k).Height then (bdT b k).Height else (bdT b i).Height) = max (bdT b i).Height (bdT b k).Height := by
    split <;> omega
  simp only [Option.bind_some, e]
  split <;> rfl
theorem blocks_s {b : Gi_Board} (h : BdV b) {i k x : Int} (hi : 0 ≤ i ∧ i < b.Map.Terrain.length) (hk : 0 ≤ k ∧ k < b.Map.Terrain.length) (hx : 0 ≤ x ∧ x < b.Map.Terrain.length) : Ds_vBlocks b i k x = some (bkB b i k x) := by
  obtain ⟨_, a1, m1⟩ := bdT_b h.ok hi
  obtain ⟨_, a2, m2⟩ := bdT_b h.ok hk
  obtain ⟨_, a3, m3⟩ := bdT_b h.ok hx
  have s3 := h.ok.r.sh _ m3
  unfold Ds_vBlocks Ds_vHeight bkB hgT Ds_l1Most
  rw [a1, a2, a3, Option.bind_some, w64 (by omega)]
  have e : (if (bdT b i).Height > (bdT b k).Height then some (bdT b i).Height else some (bdT b k).Height) = some (max (bdT b i).Height (bdT b k).Height) := by
    split
    · congr 1; omega
    · congr 1; omega
  simp only [Option.bind_some, e]
  split <;> rfl
def ctB (b : Gi_Board) (i k : Int) (row : List Int) : Nat := (row.filter (bkB b i k)).length
theorem ctB_len (b : Gi_Board) (i k : Int) (row : List Int) : ctB b i k row ≤ row.length := List.length_filter_le _ _
theorem ctB_cons (b : Gi_Board) (i k x : Int) (row : List Int) : ctB b i k (x :: row) = (if bkB b i k x = true then 1 else 0) + ctB b i k row := by
  unfold ctB
  rw [List.filter_cons]
  split
  · rw [List.length_cons]; omega
  · omega
def Cells (b : Gi_Board) (C : List (List Int)) : Prop := ∀ row ∈ C, row.length ≤ 2 ∧ ∀ x ∈ row, 0 ≤ x ∧ x < b.Map.Terrain.length
theorem count_b {b : Gi_Board} (h : BdV b) {i k : Int} (hi : 0 ≤ i ∧ i < b.Map.Terrain.length) (hk : 0 ≤ k ∧ k < b.Map.Terrain.length) {row : List Int} (hl : row.length ≤ 2) (hr : ∀ x ∈ row, 0 ≤ x ∧ x < b.Map.Terrain.length) : ∀ (p pre : List Int) (n : Nat), row = pre ++ p → n ≤ pre.length →
    loop Bs_vCount (.h1 i k (n : Int) row (row.length : Int) (pre.length : Int) b) = some ((n + ctB b i k p : Nat) : Int)
  | [], pre, n, e, hn => by
    rw [loop_eq]
    have : row.length = pre.length := by rw [e]; simp
    rw [this]
    simp only [Bs_vCount, nltc, if_false]
    rfl
  | x :: p, pre, n, e, hn => by
    have hlen : pre.length < row.length := by rw [e]; simp
    have hx : row[pre.length]? = some x := by rw [e]; simp
    have hxb := hr x (List.mem_of_getElem? hx)
    rw [loop_eq, ctB_cons]
    simp only [Bs_vCount, ltc hlen, nnc, if_true, Int.toNat_natCast, hx, Option.bind_some, blocks_s h hi hk hxb, wsucc (show pre.length < 9223372036854775807 by omega), wsucc (show n < 9223372036854775807 by omega)]
    by_cases c : bkB b i k x = true
    · have ih := count_b h hi hk hl hr p (pre ++ [x]) (n + 1) (by rw [e]; simp) (by simp; omega)
      rw [List.length_append, List.length_singleton] at ih
      rw [if_pos c, if_pos c]
      simp only [goOn]
      rw [ih, Nat.add_assoc]
    · have ih := count_b h hi hk hl hr p (pre ++ [x]) n (by rw [e]; simp) (by simp; omega)
      rw [List.length_append, List.length_singleton] at ih
      rw [if_neg c, if_neg c]
      simp only [goOn]
      rw [ih, Nat.zero_add]
theorem count_s {b : Gi_Board} (h : BdV b) {i k : Int} (hi : 0 ≤ i ∧ i < b.Map.Terrain.length) (hk : 0 ≤ k ∧ k < b.Map.Terrain.length) {row : List Int} (hl : row.length ≤ 2) (hr : ∀ x ∈ row, 0 ≤ x ∧ x < b.Map.Terrain.length) : Ds_vCount b i k row = some (ctB b i k row : Int) := by
  have := count_b h hi hk hl hr row [] 0 rfl (Nat.le_refl _)
  rw [Nat.zero_add] at this
  exact this
theorem count_i2 {b : Gi_Board} (h : BdV b) {i k : Int} (hi : 0 ≤ i ∧ i < b.Map.Terrain.length) (hk : 0 ≤ k ∧ k < b.Map.Terrain.length) {row : List Int} (hl : row.length ≤ 2) (hr : ∀ x ∈ row, 0 ≤ x ∧ x < b.Map.Terrain.length) {code t6 t7 z : Int} {C : List (List Int)} : ∀ (p pre : List Int) (n : Nat), row = pre ++ p → n ≤ pre.length →
    loop Bi_sightOf (.h2 i k code z row (n : Int) t6 t7 row (row.length : Int) (pre.length : Int) b C) = loop Bi_sightOf (.h2 i k code z row ((n + ctB b i k p : Nat) : Int) t6 t7 row (row.length : Int) (row.length : Int) b C)
  | [], pre, n, e, hn => by
    have : row.length = pre.length := by rw [e]; simp
    rw [this]
    rfl
  | x :: p, pre, n, e, hn => by
    have hlen : pre.length < row.length := by rw [e]; simp
    have hx : row[pre.length]? = some x := by rw [e]; simp
    have hxb := hr x (List.mem_of_getElem? hx)
    conv => lhs; rw [loop_eq]
    rw [ctB_cons]
    simp only [Bi_sightOf, ltc hlen, nnc, if_true, Int.toNat_natCast, hx, Option.bind_some, blocks_i h hi hk hxb, wsucc (show pre.length < 9223372036854775807 by omega), wsucc (show n < 9223372036854775807 by omega)]
    by_cases c : bkB b i k x = true
    · have ih := count_i2 h hi hk hl hr (code := code) (t6 := t6) (t7 := t7) (z := z) (C := C) p (pre ++ [x]) (n + 1) (by rw [e]; simp) (by simp; omega)
      rw [List.length_append, List.length_singleton] at ih
      rw [if_pos c, if_pos c]
      simp only [goOn]
      rw [ih, Nat.add_assoc]
    · have ih := count_i2 h hi hk hl hr (code := code) (t6 := t6) (t7 := t7) (z := z) (C := C) p (pre ++ [x]) n (by rw [e]; simp) (by simp; omega)
      rw [List.length_append, List.length_singleton] at ih
      rw [if_neg c, if_neg c]
      simp only [goOn]
      rw [ih, Nat.zero_add]
def vfG (b : Gi_Board) (i k : Int) : Nat → List (List Int) → Int
  | _, [] => -1
  | n, row :: C => if ctB b i k row = row.length then (n : Int) else vfG b i k (n + 1) C
def paB (b : Gi_Board) (i k : Int) (C : List (List Int)) : Bool := C.any fun row => decide (0 < ctB b i k row)
def fuB (b : Gi_Board) (i k : Int) (C : List (List Int)) : Bool := C.any fun row => decide (ctB b i k row = row.length)
theorem vfG_nn (b : Gi_Board) (i k : Int) : ∀ (C : List (List Int)) (n : Nat), (0 ≤ vfG b i k n C ↔ fuB b i k C = true) ∧ (vfG b i k n C < 0 → vfG b i k n C = -1)
  | [], n => by simp [vfG, fuB]
  | row :: C, n => by
    obtain ⟨h1, h2⟩ := vfG_nn b i k C (n + 1)
    unfold vfG
    by_cases c : ctB b i k row = row.length
    · rw [if_pos c]
      refine ⟨⟨fun _ => by simp [fuB, c], fun _ => by omega⟩, fun h => by omega⟩
    · rw [if_neg c]
      refine ⟨?_, h2⟩
      rw [h1]
      simp [fuB, c]
theorem first_s {b : Gi_Board} (h : BdV b) {i k : Int} (hi : 0 ≤ i ∧ i < b.Map.Terrain.length) (hk : 0 ≤ k ∧ k < b.Map.Terrain.length) {C : List (List Int)} (hl : C.length ≤ 1000) (hC : Cells b C) : ∀ (p pre : List (List Int)), C = pre ++ p → loop Bs_vFirst (.h2 i k (C.length : Int) (pre.length : Int) b C) = some (vfG b i k pre.length p)
  | [], pre, e => by
    rw [loop_eq]
    have : C.length = pre.length := by rw [e]; simp
    rw [this]
    simp only [Bs_vFirst, nltc, if_false]
    rfl
  | row :: p, pre, e => by
    have hlen : pre.length < C.length := by rw [e]; simp
    have hx : C[pre.length]? = some row := by rw [e]; simp
    obtain ⟨r1, r2⟩ := hC row (List.mem_of_getElem? hx)
    have ih := first_s h hi hk hl hC p (pre ++ [row]) (by rw [e]; simp)
    rw [List.length_append, List.length_singleton] at ih
    rw [loop_eq]
    unfold vfG
    simp only [Bs_vFirst, ltc hlen, nnc, if_true, Int.toNat_natCast, hx, Option.bind_some, count_s h hi hk r1 r2, wsucc (show pre.length < 9223372036854775807 by omega), Int.ofNat_inj]
    by_cases c : ctB b i k row = row.length
    · rw [if_pos c, if_pos c]; rfl
    · rw [if_neg c, if_neg c]
      exact ih
theorem vFirst_s {b : Gi_Board} (h : BdV b) {i k : Int} (hi : 0 ≤ i ∧ i < b.Map.Terrain.length) (hk : 0 ≤ k ∧ k < b.Map.Terrain.length) : Ds_vFirst b i k = some (vfG b i k 0 (sgC b i k)) := by
  have hl := lnB_len h hi hk
  have hl2 := sgC_len b i k
  have hC : Cells b (sgC b i k) := fun row hr => by
    obtain ⟨j, _, rfl⟩ := sgC_mem.1 hr
    exact sgRow_ok h hi hk _
  unfold Ds_vFirst
  rw [cells_s h hi hk, Option.bind_some]
  have e0 : loop Bs_vFirst (.h1 i k ((sgC b i k).length : Int) 0 b (sgC b i k)) = loop Bs_vFirst (.h2 i k ((sgC b i k).length : Int) 0 b (sgC b i k)) := by
    rw [loop_eq]
    conv => rhs; rw [loop_eq]
    rfl
  rw [e0]
  exact first_s h hi hk (by omega) hC _ [] rfl
/-- The code of the sight. -/
def sgV (b : Gi_Board) (i k : Int) : Int := if fuB b i k (sgC b i k) = true then 2 else if paB b i k (sgC b i k) = true then 1 else 0
theorem sight_i {b : Gi_Board} (h : BdV b) {i k : Int} (hi : 0 ≤ i ∧ i < b.Map.Terrain.length) (hk : 0 ≤ k ∧ k < b.Map.Terrain.length) {C : List (List Int)} (hl : C.length ≤ 1000) (hC : Cells b C) : ∀ (p pre : List (List Int)) (code : Int), C = pre ++ p → loop Bi_sightOf (.h3 i k code (C.length : Int) (pre.length : Int) b C) = some (if fuB b i k p = true then (2, vfG b i k pre.length p) else (if paB b i k p = true then 1 else code, -1))
  | [], pre, code, e => by
    rw [loop_eq]
    have : C.length = pre.length := by rw [e]; simp
    rw [this]
    simp only [Bi_sightOf, nltc, if_false, fuB, paB, List.any_nil]
    rfl
  | row :: p, pre, code, e => by
    have hlen : pre.length < C.length := by rw [e]; simp
    have hx : C[pre.length]? = some row := by rw [e]; simp
    obtain ⟨r1, r2⟩ := hC row (List.mem_of_getElem? hx)
    have ih := fun code' => sight_i h hi hk hl hC p (pre ++ [row]) code' (by rw [e]; simp)
    rw [List.length_append, List.length_singleton] at ih
    have hct := ctB_len b i k row
    rw [loop_eq]
    simp only [Bi_sightOf, ltc hlen, nnc, if_true, Int.toNat_natCast, hx, Option.bind_some]
    simp only [goOn]
    have c2 := count_i2 h hi hk r1 r2 (code := code) (t6 := (C.length : Int)) (t7 := (pre.length : Int)) (z := (pre.length : Int)) (C := C) row [] 0 rfl (Nat.le_refl _)
    rw [Nat.zero_add] at c2
    refine Eq.trans c2 ?_
    rw [loop_eq]
    simp only [Bi_sightOf, nltc, if_false, Int.ofNat_inj, wsucc (show pre.length < 9223372036854775807 by omega)]
    have hfc : fuB b i k (row :: p) = (decide (ctB b i k row = row.length) || fuB b i k p) := by simp [fuB]
    have hpc : paB b i k (row :: p) = (decide (0 < ctB b i k row) || paB b i k p) := by simp [paB]
    rw [hfc, hpc]
    unfold vfG
    by_cases c : ctB b i k row = row.length
    · rw [if_pos c, if_pos c, decide_eq_true c, Bool.true_or, if_pos rfl]; rfl
    · rw [if_neg c, if_neg c, decide_eq_false c, Bool.false_or]
      by_cases c3 : (ctB b i k row : Int) > 0
      · rw [if_pos c3, decide_eq_true (by omega), Bool.true_or]
        simp only [goOn]
        rw [ih]
        simp
      · rw [if_neg c3, decide_eq_false (by omega), Bool.false_or]
        simp only [goOn]
        rw [ih]
theorem sightOf_i {b : Gi_Board} (h : BdV b) {i k : Int} (hi : 0 ≤ i ∧ i < b.Map.Terrain.length) (hk : 0 ≤ k ∧ k < b.Map.Terrain.length) : Di_sightOf b i k = some (sgV b i k, vfG b i k 0 (sgC b i k)) := by
  have hl := lnB_len h hi hk
  have hl2 := sgC_len b i k
  have hC : Cells b (sgC b i k) := fun row hr => by
    obtain ⟨j, _, rfl⟩ := sgC_mem.1 hr
    exact sgRow_ok h hi hk _
  unfold Di_sightOf
  rw [cells_i h hi hk, Option.bind_some]
  have e0 : loop Bi_sightOf (.h1 i k 0 ((sgC b i k).length : Int) 0 b (sgC b i k)) = loop Bi_sightOf (.h3 i k 0 ((sgC b i k).length : Int) 0 b (sgC b i k)) := by
    rw [loop_eq]
    conv => rhs; rw [loop_eq]
    rfl
  have e1 : loop Bi_sightOf (.h3 i k 0 ((sgC b i k).length : Int) 0 b (sgC b i k)) = some (if fuB b i k (sgC b i k) = true then (2, vfG b i k 0 (sgC b i k)) else (if paB b i k (sgC b i k) = true then 1 else 0, -1)) := sight_i h hi hk (by omega) hC (sgC b i k) [] 0 rfl
  rw [e0, e1]
  obtain ⟨g1, g2⟩ := vfG_nn b i k (sgC b i k) 0
  unfold sgV
  by_cases c : fuB b i k (sgC b i k) = true
  · rw [if_pos c, if_pos c]
  · rw [if_neg c, if_neg c, g2 (Int.not_le.1 fun hh => c (g1.1 hh))]
theorem code_b {b : Gi_Board} (h : BdV b) {i k : Int} (hi : 0 ≤ i ∧ i < b.Map.Terrain.length) (hk : 0 ≤ k ∧ k < b.Map.Terrain.length) {C : List (List Int)} (hl : C.length ≤ 1000) (hC : Cells b C) : ∀ (p pre : List (List Int)), C = pre ++ p → loop Bs_vCode (.h2 i k (C.length : Int) (pre.length : Int) b C) = some (if paB b i k p = true then 1 else 0)
  | [], pre, e => by
    rw [loop_eq]
    have : C.length = pre.length := by rw [e]; simp
    rw [this]
    simp only [Bs_vCode, nltc, if_false, paB, List.any_nil]
    rfl
  | row :: p, pre, e => by
    have hlen : pre.length < C.length := by rw [e]; simp
    have hx : C[pre.length]? = some row := by rw [e]; simp
    obtain ⟨r1, r2⟩ := hC row (List.mem_of_getElem? hx)
    have ih := code_b h hi hk hl hC p (pre ++ [row]) (by rw [e]; simp)
    rw [List.length_append, List.length_singleton] at ih
    rw [loop_eq]
    have hpc : paB b i k (row :: p) = (decide (0 < ctB b i k row) || paB b i k p) := by simp [paB]
    rw [hpc]
    simp only [Bs_vCode, ltc hlen, nnc, if_true, Int.toNat_natCast, hx, Option.bind_some, count_s h hi hk r1 r2, wsucc (show pre.length < 9223372036854775807 by omega)]
    by_cases c : (ctB b i k row : Int) > 0
    · rw [if_pos c, decide_eq_true (by omega), Bool.true_or, if_pos rfl]; rfl
    · rw [if_neg c, decide_eq_false (by omega), Bool.false_or]
      exact ih
theorem vCode_s {b : Gi_Board} (h : BdV b) {i k : Int} (hi : 0 ≤ i ∧ i < b.Map.Terrain.length) (hk : 0 ≤ k ∧ k < b.Map.Terrain.length) : Ds_vCode b i k = some (sgV b i k) := by
  have hl := lnB_len h hi hk
  have hl2 := sgC_len b i k
  have hC : Cells b (sgC b i k) := fun row hr => by
    obtain ⟨j, _, rfl⟩ := sgC_mem.1 hr
    exact sgRow_ok h hi hk _
  obtain ⟨g1, g2⟩ := vfG_nn b i k (sgC b i k) 0
  unfold Ds_vCode sgV
  rw [vFirst_s h hi hk, Option.bind_some]
  by_cases c : fuB b i k (sgC b i k) = true
  · rw [if_pos (g1.2 c), if_pos c]
  · rw [if_neg (fun hh => c (g1.1 hh)), if_neg c, cells_s h hi hk, Option.bind_some]
    have e0 : loop Bs_vCode (.h1 i k ((sgC b i k).length : Int) 0 b (sgC b i k)) = loop Bs_vCode (.h2 i k ((sgC b i k).length : Int) 0 b (sgC b i k)) := by
      rw [loop_eq]
      conv => rhs; rw [loop_eq]
      rfl
    rw [e0]
    exact code_b h hi hk (by omega) hC _ [] rfl

def dsB (b : Gi_Board) (i t : Int) : Int := hd (mpHex b.Map i) (mpHex b.Map t)
theorem ds_b {b : Gi_Board} (h : BdV b) {i t : Int} (hi : 0 ≤ i ∧ i < b.Map.Terrain.length) (ht : 0 ≤ t ∧ t < b.Map.Terrain.length) : Di_distance (mpHex b.Map i) (mpHex b.Map t) = some (dsB b i t) ∧ Ds_hDistance (mpHex b.Map i) (mpHex b.Map t) = some (dsB b i t) := by
  have h1 := bd_in h hi
  have h2 := bd_in h ht
  have h3 := h.ok.d
  unfold MpDim at h3
  exact ⟨hd_i (by omega) (by omega), hd_s (by omega) (by omega)⟩
def seL (b : Gi_Board) (i far worst : Int) : List Int := (List.range b.Map.Terrain.length).filterMap fun (t : Nat) => if dsB b i t ≤ far ∧ sgV b i t ≤ worst then some (t : Int) else none
theorem seL_len (b : Gi_Board) (i far worst : Int) : (seL b i far worst).length ≤ b.Map.Terrain.length := fm_len _ _
theorem inSight_i {b : Gi_Board} (h : BdV b) {i : Int} (hi : 0 ≤ i ∧ i < b.Map.Terrain.length) (far worst : Int) : Di_inSight b i far worst = some (seL b i far worst) := by
  have hn := h.ok.n2
  unfold Di_inSight seL
  refine fm_goL (L := loop Bi_inSight) (S := fun t acc => .h1 i far worst (b.Map.Terrain.length : Int) (t : Int) b acc) (r := some) (fun t acc ht ha => ?_) fun acc ha => ?_
  · have ht' : (0 : Int) ≤ (t : Int) ∧ (t : Int) < b.Map.Terrain.length := by omega
    rw [loop_eq]
    simp only [Bi_inSight, ltc ht, if_true, (bd_hex h hi).1, (bd_hex h ht').1, (ds_b h hi ht').1, sightOf_i h hi ht', Option.bind_some, if8 (show acc.length ≤ 3000000 by omega), wsucc (show t < 9223372036854775807 by omega)]
    by_cases c : dsB b i t > far
    · rw [if_pos c, if_neg (by omega)]; rfl
    · rw [if_neg c]
      by_cases c2 : sgV b i t ≤ worst
      · rw [if_pos c2, if_pos (by omega)]; rfl
      · rw [if_neg c2, if_neg (by omega)]; rfl
  · rw [loop_eq]
    simp only [Bi_inSight, nltc, if_false, goOn]
def nrB (b : Gi_Board) (i far : Int) : List Int := (List.range b.Map.Terrain.length).filterMap fun (t : Nat) => if dsB b i t ≤ far then some (t : Int) else none
theorem mNear_b {b : Gi_Board} (h : BdV b) {i : Int} (hi : 0 ≤ i ∧ i < b.Map.Terrain.length) (far : Int) : Ds_mNear b.Map i far = some (nrB b i far) := by
  have hn := h.ok.n2
  have hz := h.ok.n
  unfold Ds_mNear nrB
  refine fm_goL (L := loop Bs_mNear) (S := fun t acc => .h1 i far (t : Int) b.Map acc) (r := some) (fun t acc ht ha => ?_) fun acc ha => ?_
  · have ht' : (0 : Int) ≤ (t : Int) ∧ (t : Int) < b.Map.Terrain.length := by omega
    rw [loop_eq]
    simp only [Bs_mNear, mSize_s h.ok.d (by decide), ← hz, ltc ht, if_true, (bd_hex h hi).2, (bd_hex h ht').2, (ds_b h hi ht').2, Option.bind_some, if8 (show acc.length ≤ 3000000 by omega), wsucc (show t < 9223372036854775807 by omega)]
    by_cases c : dsB b i t ≤ far
    · rw [if_pos c, if_pos c]; rfl
    · rw [if_neg c, if_neg c]; rfl
  · rw [loop_eq]
    simp only [Bs_mNear, mSize_s h.ok.d (by decide), ← hz, nltc, if_false, goOn, Option.bind_some]
theorem nrB_mem {b : Gi_Board} {i far x : Int} (h : x ∈ nrB b i far) : 0 ≤ x ∧ x < b.Map.Terrain.length := by
  unfold nrB at h
  rw [List.mem_filterMap] at h
  obtain ⟨t, ht, h⟩ := h
  have := List.mem_range.1 ht
  split at h
  · cases h; omega
  · cases h
theorem vSeen_s {b : Gi_Board} (h : BdV b) {i : Int} (hi : 0 ≤ i ∧ i < b.Map.Terrain.length) (far worst : Int) : Ds_vSeen b i far worst = some (seL b i far worst) := by
  have hn := h.ok.n2
  have hl : (nrB b i far).length ≤ b.Map.Terrain.length := fm_len _ _
  have e : seL b i far worst = (nrB b i far).filter (fun t => decide (sgV b i t ≤ worst)) := by
    unfold seL nrB
    rw [List.filter_filterMap]
    refine fm_congr fun t _ => ?_
    by_cases c : dsB b i t ≤ far
    · by_cases c2 : sgV b i t ≤ worst
      · simp [c, c2, Option.filter]
      · simp [c, c2, Option.filter]
    · simp [c, Option.filter]
  unfold Ds_vSeen
  rw [mNear_b h hi, Option.bind_some, e]
  refine fil_goL (L := loop Bs_vSeen) (S := fun j acc => .h1 i worst ((nrB b i far).length : Int) (j : Int) b acc (nrB b i far)) (r := some) (fun j x acc hx hj ha => ?_) fun acc ha => ?_
  · have hxb := nrB_mem (List.mem_of_getElem? hx)
    rw [loop_eq]
    simp only [Bs_vSeen, ltc hj, nnc, if_true, Int.toNat_natCast, hx, Option.bind_some, vCode_s h hi hxb, if8 (show acc.length ≤ 3000000 by omega), wsucc (show j < 9223372036854775807 by omega), decide_eq_true_eq]
    by_cases c : sgV b i x ≤ worst
    · rw [if_pos c, if_pos c]; rfl
    · rw [if_neg c, if_neg c]; rfl
  · rw [loop_eq]
    simp only [Bs_vSeen, nltc, if_false, goOn]
def vwN (b : Gi_Board) (k : Int) : Int := match b.Rules.Kinds[k.toNat]? with
  | some x => x.View
  | none => 0
def seK (b : Gi_Board) (k i : Int) : List Int := seL b i (vwN b k) 1
theorem vwN_b {b : Gi_Board} (h : BdV b) {k : Int} (hk : 0 ≤ k ∧ k < b.Rules.Kinds.length) : ∃ x, b.Rules.Kinds[k.toNat]? = some x ∧ x.View = vwN b k ∧ 0 ≤ vwN b k := by
  have h1 : b.Rules.Kinds[k.toNat]? = some b.Rules.Kinds[k.toNat] := List.getElem?_eq_getElem (by omega)
  have h2 := h.ok.r.ks _ (List.mem_of_getElem? h1)
  have e : vwN b k = b.Rules.Kinds[k.toNat].View := by unfold vwN; rw [h1]
  exact ⟨_, h1, e.symm, by rw [e]; omega⟩
theorem seenBy_b {b : Gi_Board} (h : BdV b) {k i : Int} (hk : 0 ≤ k ∧ k < b.Rules.Kinds.length) (hi : 0 ≤ i ∧ i < b.Map.Terrain.length) : Di_seenBy b k i = some (seK b k i) ∧ Ds_vBy b k i = some (seK b k i) := by
  obtain ⟨x, h1, h2, h3⟩ := vwN_b h hk
  unfold Di_seenBy Ds_vBy seK
  rw [if_pos hk.1, if_pos hk.1, h1, Option.bind_some, Option.bind_some, h2, inSight_i h hi, vSeen_s h hi]
  exact ⟨rfl, rfl⟩
theorem seK_len (b : Gi_Board) (k i : Int) : (seK b k i).length ≤ b.Map.Terrain.length := seL_len ..
theorem sgV_self {b : Gi_Board} (h : BdV b) {i : Int} (hi : 0 ≤ i ∧ i < b.Map.Terrain.length) : sgV b i i = 0 := by
  have h1 := hexLineR_len (bd_hx h hi) (bd_hx h hi)
  have h2 : hd (mpHex b.Map i) (mpHex b.Map i) = 0 := by unfold hd; omega
  have h3 : (lnB b i i).length - 2 = 0 := by unfold lnB; omega
  have e : sgC b i i = [] := by unfold sgC; rw [h3]; rfl
  unfold sgV
  rw [e]
  rfl
theorem seK_self {b : Gi_Board} (h : BdV b) {k i : Int} (hk : 0 ≤ k ∧ k < b.Rules.Kinds.length) (hi : 0 ≤ i ∧ i < b.Map.Terrain.length) : i ∈ seK b k i := by
  obtain ⟨x, h1, h2, h3⟩ := vwN_b h hk
  unfold seK seL
  rw [List.mem_filterMap]
  refine ⟨i.toNat, by rw [List.mem_range]; omega, ?_⟩
  have e : ((i.toNat : Nat) : Int) = i := by omega
  rw [e, sgV_self h hi, if_pos ⟨by unfold dsB hd; omega, by omega⟩]
theorem seK_pos {b : Gi_Board} (h : BdV b) {k i : Int} (hk : 0 ≤ k ∧ k < b.Rules.Kinds.length) (hi : 0 ≤ i ∧ i < b.Map.Terrain.length) : 1 ≤ (seK b k i).length := List.length_pos_of_mem (seK_self h hk hi)
def lkR (b : Gi_Board) (k i : Int) : List Int × Bool := if (bdG b && kIn k 0 (b.Rules.Kinds.length - 1) && kIn i 0 (b.Map.Terrain.length - 1)) = true then (seK b k i, true) else ([], false)
theorem seenByG {b : Gi_Board} (hb : BdLen b) (k i : Int) : Di_SeenBy b k i = some (lkR b k i) := by
  have hm := hb.m.1
  unfold Di_SeenBy lkR Di_sizeOf
  rw [isKindOf_i hb, Option.bind_some]
  by_cases c1 : (bdG b && kIn k 0 (b.Rules.Kinds.length - 1)) = true
  · rw [if_pos c1, c1]
    simp only [Option.bind_some, isIndex_i (x := i) (n := (b.Map.Terrain.length : Int)) (by omega), Bool.true_and]
    by_cases c2 : kIn i 0 (b.Map.Terrain.length - 1) = true
    · simp only [Bool.and_eq_true] at c1
      have hk := kIn_iff.1 c1.2
      have hi := kIn_iff.1 c2
      rw [if_pos c2, if_pos c2, (seenBy_b ⟨hb, c1.1⟩ (k := k) (i := i) (by omega) (by omega)).1]
      rfl
    · rw [if_neg c2, if_neg c2]
  · rw [if_neg c1, if_neg (by simp [c1])]
def waB (b : Gi_Board) (k x i : Int) : Bool := hasB (seK b k i) x
def waL (b : Gi_Board) (k x : Int) : List Int := (opL b k).filter (waB b k x)
theorem watch_i {b : Gi_Board} (h : BdV b) {k x : Int} (hk : 0 ≤ k ∧ k < b.Rules.Kinds.length) : loop Bi_WatchersOf (.h1 k x ((opL b k).length : Int) 0 b [] (opL b k)) = some (waL b k x, true) := by
  have hn := h.ok.n2
  have hl := opL_len b k
  refine fil_goL (L := loop Bi_WatchersOf) (S := fun j acc => .h1 k x ((opL b k).length : Int) (j : Int) b acc (opL b k)) (r := fun l => some (l, true)) (fun j y acc hy hj ha => ?_) fun acc ha => ?_
  · have hyb := opL_mem.1 (List.mem_of_getElem? hy)
    have hsl := seK_len b k y
    have hcx : Dslices_Contains_int (seK b k y) x = some (waB b k x y) := contains_i (by omega)
    rw [loop_eq]
    simp only [Bi_WatchersOf, ltc hj, nnc, if_true, Int.toNat_natCast, hy, Option.bind_some, (seenBy_b h hk ⟨hyb.1, hyb.2.1⟩).1, hcx, if8 (show acc.length ≤ 3000000 by omega), wsucc (show j < 9223372036854775807 by omega)]
    by_cases c : waB b k x y = true
    · rw [if_pos c, if_pos c]; rfl
    · rw [if_neg c, if_neg c]; rfl
  · rw [loop_eq]
    simp only [Bi_WatchersOf, nltc, if_false, goOn]
theorem watch_s {b : Gi_Board} (h : BdV b) {k x : Int} (hk : 0 ≤ k ∧ k < b.Rules.Kinds.length) : loop Bs_WatchersOf (.h1 k x ((opL b k).length : Int) 0 b [] (opL b k)) = some (waL b k x, true) := by
  have hn := h.ok.n2
  have hl := opL_len b k
  refine fil_goL (L := loop Bs_WatchersOf) (S := fun j acc => .h1 k x ((opL b k).length : Int) (j : Int) b acc (opL b k)) (r := fun l => some (l, true)) (fun j y acc hy hj ha => ?_) fun acc ha => ?_
  · have hyb := opL_mem.1 (List.mem_of_getElem? hy)
    have hsl := seK_len b k y
    have hcx : Ds_l1Has (seK b k y) x = some (waB b k x y) := has_s (by omega)
    rw [loop_eq]
    simp only [Bs_WatchersOf, ltc hj, nnc, if_true, Int.toNat_natCast, hy, Option.bind_some, (seenBy_b h hk ⟨hyb.1, hyb.2.1⟩).2, hcx, if8 (show acc.length ≤ 3000000 by omega), wsucc (show j < 9223372036854775807 by omega)]
    by_cases c : waB b k x y = true
    · rw [if_pos c, if_pos c]; rfl
    · rw [if_neg c, if_neg c]; rfl
  · rw [loop_eq]
    simp only [Bs_WatchersOf, nltc, if_false, goOn]
def waR (b : Gi_Board) (k x : Int) : List Int × Bool := if (bdG b && kIn k 0 (b.Rules.Kinds.length - 1) && kIn x 0 (b.Map.Terrain.length - 1)) = true then (waL b k x, true) else ([], false)
theorem watchers_i {b : Gi_Board} (hb : BdLen b) (k x : Int) : Di_WatchersOf b k x = some (waR b k x) := by
  have hm := hb.m.1
  unfold Di_WatchersOf waR Di_sizeOf
  rw [isKindOf_i hb, Option.bind_some]
  by_cases c1 : (bdG b && kIn k 0 (b.Rules.Kinds.length - 1)) = true
  · rw [if_pos c1, c1]
    simp only [Option.bind_some, isIndex_i (x := x) (n := (b.Map.Terrain.length : Int)) (by omega), Bool.true_and]
    by_cases c2 : kIn x 0 (b.Map.Terrain.length - 1) = true
    · simp only [Bool.and_eq_true] at c1
      have hk := kIn_iff.1 c1.2
      have hv : BdV b := ⟨hb, c1.1⟩
      rw [if_pos c2, if_pos c2, open_i hv.ok (by omega), Option.bind_some, watch_i hv (by omega)]
    · rw [if_neg c2, if_neg c2]
  · rw [if_neg c1, if_neg (by simp [c1])]
theorem watchers_s {b : Gi_Board} (hb : BdLen b) (k x : Int) : Ds_WatchersOf b k x = some (waR b k x) := by
  unfold Ds_WatchersOf waR
  rw [bAt_s hb, Option.bind_some]
  by_cases c : (bdG b && kIn k 0 (b.Rules.Kinds.length - 1) && kIn x 0 (b.Map.Terrain.length - 1)) = true
  · have c' := c
    simp only [Bool.and_eq_true] at c'
    have hk := kIn_iff.1 c'.1.2
    have hv : BdV b := ⟨hb, c'.1.1⟩
    rw [if_pos c, if_pos c, open_s hv.ok (by omega), Option.bind_some, watch_s hv (by omega)]
  · rw [if_neg c, if_neg c]
def blS (b : Gi_Board) (k : Int) (a : Int × Int) (x : Int) : Int × Int := if ((seK b k x).length : Int) > a.2 then (x, ((seK b k x).length : Int)) else a
theorem best_i {b : Gi_Board} (h : BdV b) {k : Int} (hk : 0 ≤ k ∧ k < b.Rules.Kinds.length) (a : Int × Int) : loop Bi_BestLookout (.h1 k a.1 a.2 ((opL b k).length : Int) 0 b (opL b k)) = some (((opL b k).foldl (blS b k) a).1, ((opL b k).foldl (blS b k) a).2, decide (((opL b k).foldl (blS b k) a).2 > 0)) := by
  have hn := h.ok.n2
  have hl := opL_len b k
  refine fold_goL (L := loop Bi_BestLookout) (S := fun a j => .h1 k a.1 a.2 ((opL b k).length : Int) (j : Int) b (opL b k)) (I := fun _ => True) (g := blS b k) (r := fun a => some (a.1, a.2, decide (a.2 > 0))) (fun a j y hy hj _ => ⟨?_, trivial⟩) (fun a _ => ?_) trivial
  · have hyb := opL_mem.1 (List.mem_of_getElem? hy)
    rw [loop_eq]
    simp only [Bi_BestLookout, ltc hj, nnc, if_true, Int.toNat_natCast, hy, Option.bind_some, (seenBy_b h hk ⟨hyb.1, hyb.2.1⟩).1, wsucc (show j < 9223372036854775807 by omega), blS]
    by_cases c : ((seK b k y).length : Int) > a.2
    · rw [if_pos c, if_pos c]; rfl
    · rw [if_neg c, if_neg c]; rfl
  · rw [loop_eq]
    simp only [Bi_BestLookout, nltc, if_false, goOn]
theorem best_s {b : Gi_Board} (h : BdV b) {k : Int} (hk : 0 ≤ k ∧ k < b.Rules.Kinds.length) (a : Int × Int) : loop Bs_BestLookout (.h1 k a.1 a.2 ((opL b k).length : Int) 0 b (opL b k)) = some (((opL b k).foldl (blS b k) a).1, ((opL b k).foldl (blS b k) a).2, true) := by
  have hn := h.ok.n2
  have hl := opL_len b k
  refine fold_goL (L := loop Bs_BestLookout) (S := fun a j => .h1 k a.1 a.2 ((opL b k).length : Int) (j : Int) b (opL b k)) (I := fun _ => True) (g := blS b k) (r := fun a => some (a.1, a.2, true)) (fun a j y hy hj _ => ⟨?_, trivial⟩) (fun a _ => ?_) trivial
  · have hyb := opL_mem.1 (List.mem_of_getElem? hy)
    rw [loop_eq]
    simp only [Bs_BestLookout, ltc hj, nnc, if_true, Int.toNat_natCast, hy, Option.bind_some, (seenBy_b h hk ⟨hyb.1, hyb.2.1⟩).2, wsucc (show j < 9223372036854775807 by omega), blS]
    by_cases c : ((seK b k y).length : Int) > a.2
    · rw [if_pos c, if_pos c]; rfl
    · rw [if_neg c, if_neg c]; rfl
  · rw [loop_eq]
    simp only [Bs_BestLookout, nltc, if_false, goOn]
def BlI (b : Gi_Board) (k : Int) (a : Int × Int) : Prop := a.1 ∈ opL b k ∧ a.2 = ((seK b k a.1).length : Int)
theorem bl_inv {b : Gi_Board} {k : Int} : ∀ (l : List Int) (a : Int × Int), (∀ x ∈ l, x ∈ opL b k) → BlI b k a → BlI b k (l.foldl (blS b k) a)
  | [], a, _, h => h
  | x :: l, a, hl, h => by
    rw [List.foldl_cons]
    refine bl_inv l _ (fun y hy => hl y (List.mem_cons_of_mem _ hy)) ?_
    unfold blS
    split
    · exact ⟨hl x (List.mem_cons_self ..), rfl⟩
    · exact h
theorem bl_first {b : Gi_Board} (h : BdV b) {k : Int} (hk : 0 ≤ k ∧ k < b.Rules.Kinds.length) (ho : opL b k ≠ []) : (opL b k).foldl (blS b k) (0, 0) = (opL b k).foldl (blS b k) (0, -1) ∧ BlI b k ((opL b k).foldl (blS b k) (0, 0)) := by
  cases e : opL b k with
  | nil => exact absurd e ho
  | cons x l =>
    have hx : x ∈ opL b k := by rw [e]; exact List.mem_cons_self ..
    have hxb := opL_mem.1 hx
    have hp := seK_pos h hk ⟨hxb.1, hxb.2.1⟩
    have e1 : blS b k (0, 0) x = (x, ((seK b k x).length : Int)) := by unfold blS; rw [if_pos (by simp only; omega)]
    have e2 : blS b k (0, -1) x = (x, ((seK b k x).length : Int)) := by unfold blS; rw [if_pos (by simp only; omega)]
    rw [List.foldl_cons, List.foldl_cons, e1, e2]
    refine ⟨rfl, bl_inv l _ (fun y hy => by rw [e]; exact List.mem_cons_of_mem _ hy) ⟨hx, rfl⟩⟩
def blR (b : Gi_Board) (k : Int) : Int × Int × Bool := if (bdG b && kIn k 0 (b.Rules.Kinds.length - 1) && decide (opL b k ≠ [])) = true then (((opL b k).foldl (blS b k) (0, 0)).1, ((opL b k).foldl (blS b k) (0, 0)).2, true) else (0, 0, false)
theorem bestL_i {b : Gi_Board} (hb : BdLen b) (k : Int) : Di_BestLookout b k = some (blR b k) := by
  unfold Di_BestLookout blR
  rw [isKindOf_i hb, Option.bind_some]
  by_cases c1 : (bdG b && kIn k 0 (b.Rules.Kinds.length - 1)) = true
  · rw [if_pos c1, c1]
    simp only [Bool.and_eq_true] at c1
    have hk := kIn_iff.1 c1.2
    have hv : BdV b := ⟨hb, c1.1⟩
    have hk' : 0 ≤ k ∧ k < b.Rules.Kinds.length := by omega
    have hbi : loop Bi_BestLookout (.h1 k 0 0 ((opL b k).length : Int) 0 b (opL b k)) = _ := best_i hv hk' (0, 0)
    rw [open_i hv.ok hk', Option.bind_some, hbi]
    by_cases c2 : opL b k = []
    · rw [c2]; rfl
    · obtain ⟨_, h2, h3⟩ := bl_first hv hk' c2
      have hxb := opL_mem.1 h2
      have hp := seK_pos hv hk' ⟨hxb.1, hxb.2.1⟩
      rw [if_pos (by simp [c2]), decide_eq_true (show ((opL b k).foldl (blS b k) (0, 0)).2 > 0 by omega)]
  · rw [if_neg c1, if_neg (by simp [c1])]
theorem bestL_s {b : Gi_Board} (hb : BdLen b) (k : Int) : Ds_BestLookout b k = some (blR b k) := by
  unfold Ds_BestLookout blR
  rw [bAt_s hb, Option.bind_some]
  by_cases c1 : (bdG b && kIn k 0 (b.Rules.Kinds.length - 1)) = true
  · have c1' := c1
    simp only [Bool.and_eq_true] at c1'
    have hk := kIn_iff.1 c1'.2
    have hv : BdV b := ⟨hb, c1'.1⟩
    have hn := hv.ok.n2
    have hk' : 0 ≤ k ∧ k < b.Rules.Kinds.length := by omega
    have hbi : loop Bs_BestLookout (.h1 k 0 (-1) ((opL b k).length : Int) 0 b (opL b k)) = _ := best_s hv hk' (0, -1)
    rw [if_pos (by rw [c1, kIn_iff.2 (by omega : (0 : Int) ≤ 0 ∧ (0 : Int) ≤ b.Map.Terrain.length - 1)]; rfl), c1, open_s hv.ok hk', Option.bind_some]
    by_cases c2 : opL b k = []
    · rw [c2]; rfl
    · obtain ⟨h1, _⟩ := bl_first hv hk' c2
      have hlen : ¬ (((opL b k).length : Nat) : Int) = 0 := fun e => c2 (List.length_eq_zero_iff.1 (by omega))
      rw [if_neg hlen, Option.bind_some, hbi, if_pos (by simp [c2]), ← h1]
  · simp only [Bool.not_eq_true] at c1
    rw [c1]; rfl
theorem look_t {l9 l10 : List Int} (hl : l10.length ≤ 1000) {b : Gi_Board} {k x t4 t5 : Int} : ∀ (n j : Nat), j + n = l10.length → loop Bw_FnLookouts (.h2 k x true true t4 t5 (l10.length : Int) (j : Int) b l9 l10) = loop Bw_FnLookouts (.h1 k x t4 (IntKind.wrap .i64 (t5 + 1)) b l9)
  | 0, j, h => by
    conv => lhs; rw [loop_eq]
    have : j = l10.length := by omega
    subst this
    simp only [Bw_FnLookouts, nltc, if_false, goOn]
  | n + 1, j, h => by
    have hk : j < l10.length := by omega
    have hx : l10[j]? = some l10[j] := List.getElem?_eq_getElem hk
    conv => lhs; rw [loop_eq]
    simp only [Bw_FnLookouts, ltc hk, nnc, if_true, Int.toNat_natCast, hx, Option.bind_some, wsucc (show j < 9223372036854775807 by omega), goOn]
    exact look_t hl n (j + 1) (by omega)
theorem look_f {l9 l10 : List Int} (hl : l10.length ≤ 1000) {b : Gi_Board} {k x t4 t5 : Int} : ∀ (n j : Nat), j + n = l10.length → x ∈ l10.drop j → loop Bw_FnLookouts (.h2 k x true false t4 t5 (l10.length : Int) (j : Int) b l9 l10) = loop Bw_FnLookouts (.h1 k x t4 (IntKind.wrap .i64 (t5 + 1)) b l9)
  | 0, j, h, hm => by
    have : j = l10.length := by omega
    subst this
    simp at hm
  | n + 1, j, h, hm => by
    have hk : j < l10.length := by omega
    have hx : l10[j]? = some l10[j] := List.getElem?_eq_getElem hk
    rw [List.drop_eq_getElem_cons hk] at hm
    conv => lhs; rw [loop_eq]
    simp only [Bw_FnLookouts, ltc hk, nnc, if_true, Int.toNat_natCast, hx, Option.bind_some, wsucc (show j < 9223372036854775807 by omega), goOn]
    by_cases c : l10[j] = x
    · rw [show ((l10[j] : Int) == x) = true from by rw [c]; simp]
      exact look_t hl n (j + 1) (by omega)
    · rw [show ((l10[j] : Int) == x) = false from by simpa using c]
      refine look_f hl n (j + 1) (by omega) ?_
      rcases List.mem_cons.1 hm with e | e
      · exact absurd e.symm c
      · exact e
theorem look_1 {b : Gi_Board} (hb : BdLen b) {k x : Int} {L : List Int} (hL : L = (waR b k x).1) : loop Bw_FnLookouts (.h1 k x (L.length : Int) 0 b L) = some true := by
  have key : ∀ (n j : Nat), j + n = L.length → loop Bw_FnLookouts (.h1 k x (L.length : Int) (j : Int) b L) = some true := by
    intro n
    induction n with
    | zero =>
      intro j h
      have : j = L.length := by omega
      subst this
      rw [loop_eq]
      simp only [Bw_FnLookouts, nltc, if_false, goOn]
    | succ n ih =>
      intro j h
      have hk : j < L.length := by omega
      have hx : L[j]? = some L[j] := List.getElem?_eq_getElem hk
      have hm : L[j] ∈ (waR b k x).1 := hL ▸ List.mem_of_getElem? hx
      unfold waR at hm
      split at hm
      · rename_i c
        have c' := c
        simp only [Bool.and_eq_true] at c'
        have hk0 := kIn_iff.1 c'.1.2
        have hv : BdV b := ⟨hb, c'.1.1⟩
        have hn := hv.ok.n2
        simp only [waL, List.mem_filter] at hm
        have hyb := opL_mem.1 hm.1
        have hh := hm.2
        unfold waB hasB at hh
        rw [List.any_eq_true] at hh
        obtain ⟨y, hy, hyx⟩ := hh
        simp only [decide_eq_true_eq] at hyx
        subst hyx
        have e : lkR b k L[j] = (seK b k L[j], true) := by
          unfold lkR
          rw [if_pos]
          simp only [c'.1.1, c'.1.2, Bool.true_and, Bool.and_eq_true, kIn_iff]
          omega
        have hsl := seK_len b k L[j]
        have hLl : L.length ≤ 100 := by
          rw [hL]
          unfold waR
          rw [if_pos c]
          have := opL_len b k
          have := List.length_filter_le (waB b k y) (opL b k)
          simp only [waL]
          omega
        rw [loop_eq]
        simp only [Bw_FnLookouts, ltc hk, nnc, if_true, Int.toNat_natCast, hx, Option.bind_some, seenByG hb, e, goOn]
        refine (look_f (l10 := seK b k L[j]) (by omega) (seK b k L[j]).length 0 (by omega) hy).trans ?_
        rw [wsucc (show j < 9223372036854775807 by omega)]
        exact ih (j + 1) (by omega)
      · simp at hm
  exact key L.length 0 (by omega)
theorem waR_len {b : Gi_Board} (hb : BdLen b) (k x : Int) : (waR b k x).1.length ≤ 100 := by
  unfold waR
  split
  · rename_i c
    simp only [Bool.and_eq_true] at c
    have hv : BdV b := ⟨hb, c.1.1⟩
    have hn := hv.ok.n2
    have := opL_len b k
    have := List.length_filter_le (waB b k x) (opL b k)
    simp only [waL]
    omega
  · simp
theorem lawLookouts (code more : List Int) (hc : code.length < 9223372036854775808) (hm : more.length < 9223372036854775808) (h1 : ∀ x ∈ code, 0 ≤ x ∧ x < 256) (h2 : ∀ x ∈ more, 0 ≤ x ∧ x < 256) : Dw_FnLookouts code more = some true := Ok.isTrue <| by
  unfold Dw_FnLookouts
  have d1 : Ok (Ds_DrawBestLookout code) fun r => BdD r.1 := by
    unfold Ds_DrawBestLookout Ds_DrawOpenHexes
    exact Ok.bind (Ok.bind (okAnyBoard (cu1 h1 hc) (by omega)) fun r hr => Ok.bind (okKindOf hr.2 (by omega) _) fun q hq => Ok.ret hr.1) fun r hr => Ok.ret hr
  have d2 : Ok (Ds_DrawWatchersOf more) fun r => BdD r.1 := by
    unfold Ds_DrawWatchersOf Ds_DrawEnterCost
    exact Ok.bind (Ok.bind (okAnyBoard (cu1 h2 hm) (by omega)) fun r hr => Ok.bind (okKindOf hr.2 (by omega) _) fun q hq => Ok.bind (okPlace hq (by omega) _) fun p hp => Ok.ret hr.1) fun r hr => Ok.ret hr
  refine Ok.eq (eBig code more hc hm) (Ok.ite (fun _ => Ok.ret rfl) fun _ => Ok.bind d1 fun r3 hr3 => ?_)
  have hb := hr3.len
  have s1 := bestL_s hb r3.2
  refine Ok.eq (bestL_i hb _) ?_
  by_cases c : (bdG r3.1 && kIn r3.2 0 (r3.1.Rules.Kinds.length - 1) && decide (opL r3.1 r3.2 ≠ [])) = true
  · have e : blR r3.1 r3.2 = (((opL r3.1 r3.2).foldl (blS r3.1 r3.2) (0, 0)).1, ((opL r3.1 r3.2).foldl (blS r3.1 r3.2) (0, 0)).2, true) := by unfold blR; rw [if_pos c]
    have c' := c
    simp only [Bool.and_eq_true, decide_eq_true_eq] at c'
    have hk := kIn_iff.1 c'.1.2
    have hv : BdV r3.1 := ⟨hb, c'.1.1⟩
    obtain ⟨_, g2, g3⟩ := bl_first hv (k := r3.2) (by omega) c'.2
    have hxb := opL_mem.1 g2
    have e10 : lkR r3.1 r3.2 ((opL r3.1 r3.2).foldl (blS r3.1 r3.2) (0, 0)).1 = (seK r3.1 r3.2 ((opL r3.1 r3.2).foldl (blS r3.1 r3.2) (0, 0)).1, true) := by
      unfold lkR
      rw [if_pos]
      simp only [c'.1.1, c'.1.2, Bool.true_and, Bool.and_eq_true, kIn_iff]
      omega
    rw [e] at s1 ⊢
    refine Ok.chk rfl (Ok.eq s1 (Ok.els (by simp) (Ok.chk rfl (Ok.chk rfl (Ok.eq (seenByG hb _ _) ?_)))))
    rw [e10]
    refine Ok.chk rfl (Ok.chk g3.symm (Ok.bind d2 fun r13 hr13 => ?_))
    have hg := hr13.len
    have hwl := waR_len hg r13.2.1 r13.2.2
    exact Ok.eq (watchers_i hg _ _) (Ok.eq (watchers_s hg _ _) (Ok.els (by simp) (Ok.eq (eSameInts _ (by omega)) (Ok.chk rfl ⟨true, look_1 hg rfl, rfl⟩))))
  · have e : blR r3.1 r3.2 = (0, 0, false) := by unfold blR; rw [if_neg c]
    rw [e] at s1 ⊢
    refine Ok.els (by decide) (Ok.eq s1 (Ok.els (by simp) (Ok.chk rfl (Ok.chk rfl (Ok.bind d2 fun r13 hr13 => ?_)))))
    have hg := hr13.len
    have hwl := waR_len hg r13.2.1 r13.2.2
    exact Ok.eq (watchers_i hg _ _) (Ok.eq (watchers_s hg _ _) (Ok.els (by simp) (Ok.eq (eSameInts _ (by omega)) (Ok.chk rfl ⟨true, look_1 hg rfl, rfl⟩))))

end Go.Proofs.YtakcjcjfcignjaaGreatDoor.Ab
