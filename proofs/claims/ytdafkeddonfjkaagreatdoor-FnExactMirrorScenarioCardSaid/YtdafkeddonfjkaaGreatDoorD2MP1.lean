/- Part of the proof of FnExactMirrorScenarioCard: no condition of its own. -/
import Derived.Test.YtdafkeddonfjkaaGreatDoorD2MP
set_option linter.unusedVariables false
set_option linter.unusedSimpArgs false
open Go
namespace Go.Proofs.YtdafkeddonfjkaaGreatDoor.Ab
theorem mir_next {m : Gi_Map} (hd : MpDim m 10) {i d : Int} (hi : 0 ≤ i ∧ i < m.Width * m.Height) (h6 : 0 ≤ d ∧ d < 6) (hp : 0 ≤ mpNext m i d) : mpNext (mir2 m) (mirI m i) (5 - d) = mirI m (mpNext m i d) := by
 have hd' := hd
 unfold MpDim at hd'
 unfold mpNext at hp ⊢
 rw [mir_hex hd hi]
 have hq : dQ (5 - d) = dR d ∧ dR (5 - d) = dQ d := by rcases sixDirs h6 with rfl | rfl | rfl | rfl | rfl | rfl <;> exact ⟨rfl, rfl⟩
 unfold hexGo at hp ⊢
 rw [hq.1, hq.2]
 generalize (mpHex m i).Q + 1 * dQ d = q at hp ⊢
 generalize (mpHex m i).R + 1 * dR d = r at hp ⊢
 by_cases hc : 0 ≤ q ∧ q ≤ m.Width - 1 ∧ 0 ≤ r ∧ r ≤ m.Height - 1
 ·rw [show mpIdx m ⟨q, r⟩ = r * m.Width + q from if_pos hc, show mpIdx (mir2 m) ⟨r, q⟩ = q * m.Height + r from if_pos ⟨hc.2.2.1, hc.2.2.2, hc.1, hc.2.1⟩]
  unfold mirI
  rw [Int.add_comm (r * m.Width) q, Int.add_mul_emod_self_right, Int.emod_eq_of_lt hc.1 (by omega), Int.add_mul_ediv_right _ _ (by omega), Int.ediv_eq_zero_of_lt hc.1 (by omega), Int.zero_add]
 ·rw [show mpIdx m ⟨q, r⟩ = -1 from if_neg hc] at hp
  omega
def mirE (m : Gi_Map) (e : Int) : Int := 3 * mirI m (mpNext m (e / 3) (e % 3)) + (2 - e % 3)
theorem edge_hex {m : Gi_Map} {e : Int} (h : mpEdgeOk m e = true) : (0 ≤ e / 3 ∧ e / 3 < m.Width * m.Height) ∧ (0 ≤ e % 3 ∧ e % 3 < 3) ∧ 0 ≤ mpNext m (e / 3) (e % 3) := by
 obtain ⟨h1, h2, h3⟩ := mpEdge_iff.1 h
 omega
theorem mirE_b {m m' : Gi_Map} (hd : MpDim m 10) (hw : m'.Width = m.Height) (hh : m'.Height = m.Width) {e : Int} (h : mpEdgeOk m e = true) :
  Di_edgeOf m' (mirI m (e / 3)) (5 - e % 3) = some (mirE m e) ∧ Ds_mEdge m' (mirI m (e / 3)) (5 - e % 3) = some (mirE m e) := by
 obtain ⟨h1, h2, h3⟩ := edge_hex h
 have hm := mir_mul hd
 have hon := mirI_on hd h1
 have hn := mir_next hd h1 (d := e % 3) (by omega) h3
 have hnl := (mpNext_lt h3).1
 have hon2 := mirI_on hd (i := mpNext m (e / 3) (e % 3)) ⟨h3, hnl⟩
 have hd' : MpDim m' 100 := by unfold MpDim at hd ⊢; omega
 obtain ⟨n1, n2⟩ := next_b (m := m') (i := mirI m (e / 3)) (d := 5 - e % 3) hd' (by omega) (by omega)
 have hn' : mpNext m' (mirI m (e / 3)) (5 - e % 3) = mirI m (mpNext m (e / 3) (e % 3)) := by
  rw [← hn]
  unfold mpNext mpHex mpIdx mir2
  rw [hw, hh]
 rw [hn'] at n1 n2
 unfold Di_edgeOf Ds_mEdge mirE
 rw [n1, n2, Option.bind_some, Option.bind_some, if_neg (by omega), if_neg (by omega)]
 generalize mirI m (mpNext m (e / 3) (e % 3)) = u at *
 rw [w64 (n := 3 * u) (by omega), w64 (n := 3 * u + (5 - e % 3)) (by omega), w64 (by omega)]
 constructor <;> (congr 1; omega)
theorem mirE_inj {b : Gi_Board} (h : BdV b) {e e' : Int} (he : mpEdgeOk b.Map e = true) (he' : mpEdgeOk b.Map e' = true) (hq : mirE b.Map e = mirE b.Map e') : e = e' := by
 have hd := h.ok.d
 have hn := h.ok.n
 obtain ⟨h1, h2, h3⟩ := edge_hex he
 obtain ⟨g1, g2, g3⟩ := edge_hex he'
 unfold mirE at hq
 have hnl := (mpNext_lt h3).1
 have gnl := (mpNext_lt g3).1
 have e1 : e % 3 = e' % 3 := by omega
 have e2 : mirI b.Map (mpNext b.Map (e / 3) (e % 3)) = mirI b.Map (mpNext b.Map (e' / 3) (e' % 3)) := by omega
 have e3 := mirI_inj hd ⟨h3, hnl⟩ ⟨g3, gnl⟩ e2
 have b1 := next_back (h.on (i := e / 3) (by omega)) (d := e % 3) (by omega) h3
 have b2 := next_back (h.on (i := e' / 3) (by omega)) (d := e' % 3) (by omega) g3
 rw [e3, e1, b2] at b1
 omega
theorem app_loop {σ α β ρ : Type} {B : σ → Option (σ ⊕ ρ)} {S : List β → Nat → σ} {l : List α} {g : α → β} {fin : List β → Option ρ}
  (hs : ∀ acc i x, l[i]? = some x → i < l.length → acc.length = i → B (S acc i) = some (.inl (S (acc ++ [g x]) (i + 1)))) (he : ∀ acc, acc.length = l.length → goOn (loop B) (B (S acc l.length)) = fin acc) :
  loop B (S [] 0) = fin (l.map g) := by
 have key : ∀ (k i : Nat), i + k = l.length → loop B (S ((l.take i).map g) i) = fin (l.map g) := by
  intro k
  induction k with
  | zero =>
   intro i h
   have : i = l.length := by omega
   subst this
   rw [loop_eq, List.take_length, he _ (by simp)]
  | succ k ih =>
   intro i h
   have hlt : i < l.length := by omega
   have hx := List.getElem?_eq_getElem hlt
   rw [loop_eq, hs _ i l[i] hx hlt (by simp; omega)]
   simp only [goOn]
   rw [show (l.take i).map g ++ [g l[i]] = (l.take (i + 1)).map g by rw [List.take_add_one, hx, List.map_append]; rfl]
   exact ih (i + 1) (by omega)
 simpa using key l.length 0 (by omega)
theorem ins_loop {σ α ρ : Type} {B : σ → Option (σ ⊕ ρ)} {S : List Int → Nat → σ} {l : List α} {g : α → Int} {fin : List Int → Option ρ}
  (hs : ∀ acc i x, l[i]? = some x → i < l.length → acc.length ≤ i → B (S acc i) = some (.inl (S (insL (g x) acc) (i + 1)))) (he : ∀ acc, acc.length ≤ l.length → goOn (loop B) (B (S acc l.length)) = fin acc) :
  loop B (S [] 0) = fin ((l.map g).foldl (fun o x => insL x o) []) := by
 have key : ∀ (k i : Nat) acc, i + k = l.length → acc.length ≤ i → loop B (S acc i) = fin (((l.drop i).map g).foldl (fun o x => insL x o) acc) := by
  intro k
  induction k with
  | zero =>
   intro i acc h ha
   have : i = l.length := by omega
   subst this
   rw [loop_eq, he _ ha, List.drop_of_length_le (Nat.le_refl _)]
   rfl
  | succ k ih =>
   intro i acc h ha
   have hlt : i < l.length := by omega
   have hx := List.getElem?_eq_getElem hlt
   rw [loop_eq, hs _ i l[i] hx hlt ha, List.drop_eq_getElem_cons hlt]
   simp only [goOn, List.map_cons, List.foldl_cons]
   exact ih (i + 1) _ (by omega) (by have := insL_len (g l[i]) acc; omega)
 simpa using key l.length 0 [] (by omega) (by simp)
def msort (l : List Int) : List Int := l.mergeSort fun x y => decide (x ≤ y)
theorem msort_len (l : List Int) : (msort l).length = l.length := List.length_mergeSort l
theorem msort_mem {l : List Int} {x : Int} : x ∈ msort l ↔ x ∈ l := List.mem_mergeSort
theorem msort_srt {l : List Int} (hn : l.Nodup) : (msort l).Pairwise (· < ·) := by
 have h1 : (msort l).Pairwise fun a b => decide (a ≤ b) = true := List.pairwise_mergeSort (fun a b c h1 h2 => by simp at *; omega) (fun a b => by simp; omega) l
 have h2 : (msort l).Nodup := (List.mergeSort_perm l _).nodup_iff.2 hn
 refine (h1.and h2).imp fun {a b} h => ?_
 have := h.1
 have hne := h.2
 simp at this
 omega
theorem insF_srt : ∀ (l acc : List Int), acc.Pairwise (· < ·) → (l.foldl (fun o x => insL x o) acc).Pairwise (· < ·)
 | [], _, h => h
 | x :: l, acc, h => insF_srt l _ (insL_srt h)
theorem insF_mem : ∀ (l acc : List Int) (y : Int), y ∈ l.foldl (fun o x => insL x o) acc ↔ y ∈ l ∨ y ∈ acc
 | [], acc, y => by simp
 | x :: l, acc, y => by
  rw [List.foldl_cons, insF_mem l _ y, insL_mem, List.mem_cons, or_assoc]
  constructor
  ·rintro (h | h | h) <;> simp [h]
  ·rintro (h | h | h) <;> simp [h]
theorem insF_msort {l : List Int} (hn : l.Nodup) : l.foldl (fun o x => insL x o) [] = msort l :=
 srt_ext (insF_srt l [] .nil) (msort_srt hn) fun x => by rw [insF_mem, msort_mem]; simp
theorem rising_nodup {l : List Int} (h : l.Pairwise (· < ·)) : l.Nodup := h.imp fun h => by omega
theorem map_nodup {α β : Type} {f : α → β} : ∀ {l : List α}, l.Nodup → (∀ x ∈ l, ∀ y ∈ l, f x = f y → x = y) → (l.map f).Nodup
 | [], _, _ => .nil
 | a :: l, h, hf => by
  rw [List.nodup_cons] at h
  rw [List.map_cons, List.nodup_cons]
  refine ⟨fun hm => ?_, map_nodup h.2 fun x hx y hy => hf x (List.mem_cons_of_mem _ hx) y (List.mem_cons_of_mem _ hy)⟩
  obtain ⟨y, hy, he⟩ := List.mem_map.1 hm
  have := hf y (List.mem_cons_of_mem _ hy) a (List.mem_cons_self ..) he
  exact h.1 (this ▸ hy)

theorem rising_pw {l : List Int} (h : rising l = true) : l.Pairwise (· < ·) := by
 have h1 := rising_iff.1 h
 have key : ∀ (d i : Nat) x y, l[i]? = some x → l[i + 1 + d]? = some y → x < y := by
  intro d
  induction d with
  | zero => intro i x y hx hy; exact h1 (i + 1) x y (by omega) hx hy
  | succ d ih =>
   intro i x y hx hy
   have hl : i + 1 + d < l.length := by have := (List.getElem?_eq_some_iff.1 hy).1; omega
   have a1 := ih i x _ hx (List.getElem?_eq_getElem hl)
   have a2 := h1 (i + 1 + d + 1) _ y (by omega) (List.getElem?_eq_getElem hl) hy
   omega
 rw [List.pairwise_iff_getElem]
 intro i j hi hj hij
 exact key (j - i - 1) i _ _ (List.getElem?_eq_getElem hi) (by rw [show i + 1 + (j - i - 1) = j by omega]; exact List.getElem?_eq_getElem hj)
structure PlOk (m : Gi_Map) (l : List Int) : Prop where
 n : l.length ≤ 1000
 ndp : l.Nodup
 on : ∀ x ∈ l, 0 ≤ x ∧ x < m.Width * m.Height
theorem PlOk.mir {m : Gi_Map} (hd : MpDim m 10) {l : List Int} (h : PlOk m l) : (l.map (mirI m)).Nodup :=
 map_nodup h.ndp fun x hx y hy e => mirI_inj hd (h.on x hx) (h.on y hy) e
theorem sort_int {l : List Int} (h : l.length ≤ 3000000) : Dslices_Sort_int l = some (msort l) := by
 unfold Dslices_Sort_int
 rw [if_pos (by omega)]
 rfl
theorem mirPl_i {m : Gi_Map} (hd : MpDim m 10) {l : List Int} (h : PlOk m l) : Di_mirrorPlaces m l = some (msort (l.map (mirI m))) := by
 have hn := h.n
 unfold Di_mirrorPlaces
 have key := app_loop (B := Bi_mirrorPlaces) (S := fun acc i => .h1 l (l.length : Int) (i : Int) m acc) (l := l) (g := mirI m) (fin := fun acc => (Dslices_Sort_int acc).bind fun r => if r.length = acc.length then some r else none) (fun acc i x hx hi ha => by
  have hb := (mirI_b hd (h.on x (List.mem_of_getElem? hx))).1
  simp (disch := omega) only [Bi_mirrorPlaces, if_pos, Int.toNat_natCast, hx, Option.bind_some, hb, wsucc, List.length_append, List.length_singleton]
  ) fun acc ha => by
  have e := sort_int (l := acc) (by omega)
  simp (disch := omega) only [Bi_mirrorPlaces, if_neg, e, Option.bind_some, msort_len, if_pos, if_true, goOn]
 refine Eq.trans key ?_
 rw [sort_int (by simp; omega), Option.bind_some, if_pos (msort_len _)]
theorem mirHx_s {m : Gi_Map} (hd : MpDim m 10) {l : List Int} (h : PlOk m l) : Ds_snHexes m l = some (msort (l.map (mirI m))) := by
 have hn := h.n
 unfold Ds_snHexes
 have key := ins_loop (B := Bs_snHexes) (S := fun acc i => .h1 l (l.length : Int) (i : Int) m acc) (l := l) (g := mirI m) (fin := fun acc => some acc) (fun acc i x hx hi ha => by
  have hb := (mirI_b hd (h.on x (List.mem_of_getElem? hx))).2
  have hp := put_s (x := mirI m x) (l := acc) (by omega)
  simp (disch := omega) only [Bs_snHexes, if_pos, Int.toNat_natCast, hx, Option.bind_some, hb, hp, wsucc]) fun acc ha => by
  simp (disch := omega) only [Bs_snHexes, if_neg, goOn]
 refine Eq.trans key ?_
 rw [insF_msort (h.mir hd)]
structure EgOk (m : Gi_Map) (l : List Int) : Prop where
 n : l.length ≤ 2000000
 ok : ∀ x ∈ l, mpEdgeOk m x = true
 ndp : (l.map (mirE m)).Nodup
theorem EgOk.of {b : Gi_Board} (h : BdV b) {l : List Int} (hn : l.length ≤ 2000000) (hl : mpList b.Map l = true) : EgOk b.Map l := by
 unfold mpList at hl
 rw [Bool.and_eq_true] at hl
 have h1 := List.all_eq_true.1 hl.1
 exact ⟨hn, h1, map_nodup (rising_nodup (rising_pw hl.2)) fun x hx y hy e => mirE_inj h (h1 x hx) (h1 y hy) e⟩
theorem mirEd_i {m m' : Gi_Map} (hd : MpDim m 10) (hw : m'.Width = m.Height) (hh : m'.Height = m.Width) {l : List Int} (h : EgOk m l) : Di_mirrorMap_1 l m' m = some (msort (l.map (mirE m))) := by
 have hn := h.n
 have hm := mir_mul hd
 unfold Di_mirrorMap_1
 have key := app_loop (B := Bi_mirrorMap_1) (S := fun acc i => .h1 m' m l (l.length : Int) (i : Int) acc) (l := l) (g := mirE m) (fin := fun acc => (Dslices_Sort_int acc).bind fun r => if r.length = acc.length then some r else none) (fun acc i x hx hi ha => by
  have hok := h.ok x (List.mem_of_getElem? hx)
  obtain ⟨h1, h2, h3⟩ := edge_hex hok
  have hx0 := (mpEdge_iff.1 hok).1
  have hx1 := (mpEdge_iff.1 hok).2.1
  have hb := (mirI_b hd h1).1
  have he := (mirE_b hd hw hh hok).1
  have e1 : IntKind.wrap .i64 (Int.tdiv x 3) = x / 3 := by rw [Int.tdiv_eq_ediv_of_nonneg hx0, w64 (by omega)]
  have e2 : IntKind.wrap .i64 (5 - Int.tmod x 3) = 5 - x % 3 := by rw [Int.tmod_eq_emod_of_nonneg hx0, w64 (by omega)]
  simp (disch := omega) only [Bi_mirrorMap_1, if_pos, Int.toNat_natCast, hx, Option.bind_some, e1, e2, hb, he, wsucc, List.length_append, List.length_singleton]) fun acc ha => by
  have e := sort_int (l := acc) (by omega)
  simp (disch := omega) only [Bi_mirrorMap_1, if_neg, e, Option.bind_some, msort_len, if_pos, if_true, goOn]
 refine Eq.trans key ?_
 rw [sort_int (by simp; omega), Option.bind_some, if_pos (msort_len _)]
theorem mirEd_s {m m' : Gi_Map} (hd : MpDim m 10) (hw : m'.Width = m.Height) (hh : m'.Height = m.Width) {l : List Int} (h : EgOk m l) : Ds_mMirrorEdges m m' l = some (msort (l.map (mirE m))) := by
 have hn := h.n
 have hm := mir_mul hd
 unfold Ds_mMirrorEdges
 have key := ins_loop (B := Bs_mMirrorEdges) (S := fun acc i => .h1 l (l.length : Int) (i : Int) m m' acc) (l := l) (g := mirE m) (fin := fun acc => some acc) (fun acc i x hx hi ha => by
  have hok := h.ok x (List.mem_of_getElem? hx)
  obtain ⟨h1, h2, h3⟩ := edge_hex hok
  have hx0 := (mpEdge_iff.1 hok).1
  have hx1 := (mpEdge_iff.1 hok).2.1
  have hb := (mirI_b hd h1).2
  have he := (mirE_b hd hw hh hok).2
  have hp := put_s (x := mirE m x) (l := acc) (by omega)
  have e1 : IntKind.wrap .i64 (Int.tdiv x 3) = x / 3 := by rw [Int.tdiv_eq_ediv_of_nonneg hx0, w64 (by omega)]
  have e2 : IntKind.wrap .i64 (5 - Int.tmod x 3) = 5 - x % 3 := by rw [Int.tmod_eq_emod_of_nonneg hx0, w64 (by omega)]
  simp (disch := omega) only [Bs_mMirrorEdges, if_pos, Int.toNat_natCast, hx, Option.bind_some, e1, e2, hb, he, hp, wsucc]) fun acc ha => by
  simp (disch := omega) only [Bs_mMirrorEdges, if_neg, goOn]
 refine Eq.trans key ?_
 rw [insF_msort h.ndp]
def mirTs (m : Gi_Map) (acc : List Int) (i : Nat) : List Int := acc.set (mirI m i).toNat (m.Terrain.getD i 0)
def mirT (m : Gi_Map) : List Int := (List.range m.Terrain.length).foldl (mirTs m) (List.replicate m.Terrain.length 0)
theorem mirT_fold (m : Gi_Map) : ∀ (l : List Nat) (acc : List Int), (l.foldl (mirTs m) acc).length = acc.length
 | [], acc => rfl
 | i :: l, acc => by rw [List.foldl_cons, mirT_fold m l]; simp [mirTs]
theorem mirT_len (m : Gi_Map) : (mirT m).length = m.Terrain.length := by unfold mirT; rw [mirT_fold]; simp
def mirM (m : Gi_Map) : Gi_Map := ⟨m.Height, m.Width, mirT m, msort (m.Rivers.map (mirE m)), msort (m.Roads.map (mirE m))⟩
theorem mirMap_b {b : Gi_Board} (h : BdV b) : Di_mirrorMap b.Map = some (mirM b.Map) ∧ Ds_mMirror b.Map = some (mirM b.Map) := by
 have hd := h.ok.d
 have hn := h.ok.n
 have hn2 := h.ok.n2
 have hm := mir_mul hd
 obtain ⟨_, _, g3, g4⟩ := mpGood_dim (bdG_mp h.g)
 have hr := EgOk.of h h.l.m.2.1 g3
 have ho := EgOk.of h h.l.m.2.2 g4
 generalize hmm : b.Map = m at *
 have hT : ∀ (i : Nat) x, (List.range m.Terrain.length)[i]? = some x → x = i ∧ i < m.Terrain.length := fun i x hx => by
  have h1 := (List.getElem?_eq_some_iff.1 hx).1
  rw [List.getElem?_range (by simpa using h1)] at hx
  exact ⟨by cases hx; rfl, by simpa using h1⟩
 constructor
 ·unfold Di_mirrorMap
  rw [if_pos (by omega), Int.toNat_natCast]
  have key := fold_loop (B := Bi_mirrorMap) (S := fun acc i => .h1 m.Terrain (m.Terrain.length : Int) (i : Int) m 0 0 m.Height m.Width acc) (l := List.range m.Terrain.length) (g := mirTs m) (I := fun acc => acc.length = m.Terrain.length) (fin := fun acc => (⟨m.Height, m.Width, acc, msort (m.Rivers.map (mirE m)), msort (m.Roads.map (mirE m))⟩ : Gi_Map)) (fun acc i x hx _ ha => by
   obtain ⟨rfl, hi⟩ := hT i x hx
   have hx0 : m.Terrain[x]? = some (m.Terrain.getD x 0) := by rw [List.getElem?_eq_getElem hi, List.getD_eq_getElem?_getD, List.getElem?_eq_getElem hi]; rfl
   have hb := (mirI_b hd (i := (x : Int)) (by omega)).1
   have hon := mirI_on hd (i := (x : Int)) (by omega)
   have hg : acc[(mirI m (x : Int)).toNat]? = some acc[(mirI m (x : Int)).toNat] := List.getElem?_eq_getElem (by omega)
   refine ⟨?_, by simp [mirTs, ha]⟩
   simp (disch := omega) only [Bi_mirrorMap, if_pos, Int.toNat_natCast, hx0, Option.bind_some, hb, hg, wsucc]
   rfl) (fun acc ha => by
   rw [List.length_range]
   have e1 := mirEd_i (m' := ⟨m.Height, m.Width, acc, [], []⟩) hd rfl rfl hr
   have e2 := mirEd_i (m' := ⟨m.Height, m.Width, acc, [], []⟩) hd rfl rfl ho
   simp (disch := omega) only [Bi_mirrorMap, if_neg, e1, e2, Option.bind_some]) (a := List.replicate m.Terrain.length 0) (by simp)
  exact key
 ·unfold Ds_mMirror
  rw [mSize_s (b := 10) hd (by decide), Option.bind_some, if_pos (by omega), show (m.Width * m.Height).toNat = m.Terrain.length by omega, if_pos (by omega)]
  have key := fold_loop (B := Bs_mMirror) (S := fun acc i => .h1 m.Terrain (m.Terrain.length : Int) (i : Int) m 0 0 m.Height m.Width acc) (l := List.range m.Terrain.length) (g := mirTs m) (I := fun acc => acc.length = m.Terrain.length) (fin := fun acc => (⟨m.Height, m.Width, acc, msort (m.Rivers.map (mirE m)), msort (m.Roads.map (mirE m))⟩ : Gi_Map)) (fun acc i x hx _ ha => by
   obtain ⟨rfl, hi⟩ := hT i x hx
   have hx0 : m.Terrain[x]? = some (m.Terrain.getD x 0) := by rw [List.getElem?_eq_getElem hi, List.getD_eq_getElem?_getD, List.getElem?_eq_getElem hi]; rfl
   have hb := (mirI_b hd (i := (x : Int)) (by omega)).2
   have hon := mirI_on hd (i := (x : Int)) (by omega)
   have hg : acc[(mirI m (x : Int)).toNat]? = some acc[(mirI m (x : Int)).toNat] := List.getElem?_eq_getElem (by omega)
   refine ⟨?_, by simp [mirTs, ha]⟩
   simp (disch := omega) only [Bs_mMirror, if_pos, Int.toNat_natCast, hx0, Option.bind_some, hb, hg, wsucc]
   rfl) (fun acc ha => by
   rw [List.length_range]
   have e1 := mirEd_s (m' := ⟨m.Height, m.Width, acc, [], []⟩) hd rfl rfl hr
   have e2 := mirEd_s (m' := ⟨m.Height, m.Width, acc, msort (m.Rivers.map (mirE m)), []⟩) hd rfl rfl ho
   simp (disch := omega) only [Bs_mMirror, if_neg, e1, e2, Option.bind_some]) (a := List.replicate m.Terrain.length 0) (by simp)
  exact key

def mirU (m : Gi_Map) (u : Gi_Unit) : Gi_Unit := if u.At ≥ 0 then ⟨u.Side, u.Kind, mirI m u.At, u.Steps⟩ else u
def mirG (m : Gi_Map) (g : Gi_Goal) : Gi_Goal := ⟨mirI m g.At, g.Points⟩
noncomputable def mirS (x : Gi_Scenario) : Gi_Scenario := ⟨x.Name, ⟨x.Board.Rules, mirM x.Board.Map⟩, x.Table, ⟨x.Start.Turn, x.Start.Weather, x.Start.Units.map (mirU x.Board.Map)⟩,
 ⟨srtF Di_mirrorScenario_1 (x.Conditions.Goals.map (mirG x.Board.Map)), x.Conditions.Step, x.Conditions.Margin⟩, msort (x.First.map (mirI x.Board.Map)), msort (x.Other.map (mirI x.Board.Map))⟩
theorem pw_inj {α : Type} {k : α → Int} : ∀ {l : List α}, l.Pairwise (fun a b => k a < k b) → ∀ a ∈ l, ∀ b ∈ l, k a = k b → a = b
 | [], _, a, ha, _, _, _ => absurd ha (by simp)
 | x :: l, h, a, ha, b, hb, e => by
  rw [List.pairwise_cons] at h
  rcases List.mem_cons.1 ha with ea | ha1 <;> rcases List.mem_cons.1 hb with eb | hb1
  ·rw [ea, eb]
  ·have := h.1 b hb1; rw [ea] at e; omega
  ·have := h.1 a ha1; rw [eb] at e; omega
  ·exact pw_inj h.2 a ha1 b hb1 e
theorem key_ext {α : Type} {k : α → Int} : ∀ {a b : List α}, a.Pairwise (fun x y => k x < k y) → b.Pairwise (fun x y => k x < k y) → (∀ x, x ∈ a ↔ x ∈ b) → a = b
 | [], [], _, _, _ => rfl
 | [], y :: s, _, _, h => absurd ((h y).2 (List.mem_cons_self ..)) (by simp)
 | x :: r, [], _, _, h => absurd ((h x).1 (List.mem_cons_self ..)) (by simp)
 | x :: r, y :: s, ha, hb, h => by
  rw [List.pairwise_cons] at ha hb
  have e : x = y := by
   rcases List.mem_cons.1 ((h x).1 (List.mem_cons_self ..)) with e | h1
   ·exact e
   ·rcases List.mem_cons.1 ((h y).2 (List.mem_cons_self ..)) with e | h2
    ·exact e.symm
    ·have := hb.1 x h1
     have := ha.1 y h2
     omega
  subst e
  rw [key_ext ha.2 hb.2 fun z => ?_]
  have hz := h z
  rw [List.mem_cons, List.mem_cons] at hz
  constructor
  ·intro h1
   rcases hz.1 (.inr h1) with e | h2
   ·subst e; have := ha.1 z h1; omega
   ·exact h2
  ·intro h1
   rcases hz.2 (.inr h1) with e | h2
   ·subst e; have := hb.1 z h1; omega
   ·exact h2
structure GsOk (m : Gi_Map) (gs : List Gi_Goal) : Prop where
 n : gs.length ≤ 12
 on : ∀ g ∈ gs, 0 ≤ g.At ∧ g.At < m.Width * m.Height
 pw : gs.Pairwise fun a b => a.At < b.At
theorem cdG_ok {b : Gi_Board} (h : BdOk b) {x : Gi_Conditions} (hc : cdG b x = true) : GsOk b.Map x.Goals := by
 have hn := h.n
 have hl := cdG_len hc
 simp only [cdG, Bool.and_eq_true, decide_eq_true_eq] at hc
 have ha := alli_iff.1 hc.2
 refine ⟨hl, fun g hg => ?_, ?_⟩
 ·obtain ⟨i, hi⟩ := List.getElem?_of_mem hg
  have := ha i g hi
  simp only [glP, Bool.and_eq_true, kIn_iff] at this
  omega
 ·have h1 : rising (x.Goals.map fun g => g.At) = true := rising_iff.2 fun j u v hj hu hv => by
   rw [List.getElem?_map, Option.map_eq_some_iff] at hu hv
   obtain ⟨g, hg, rfl⟩ := hu
   obtain ⟨g', hg', rfl⟩ := hv
   have := ha j g' hg'
   simp only [glP, Bool.and_eq_true, Bool.or_eq_true, decide_eq_true_eq, hg] at this
   rcases this.2 with e | e
   ·omega
   ·exact e
  exact List.pairwise_map.1 (rising_pw h1)
theorem ltF_mir {x y : Gi_Goal} (h : -1000 ≤ x.At - y.At ∧ x.At - y.At ≤ 1000) : ltF Di_mirrorScenario_1 x y = decide (x.At < y.At) := by
 unfold ltF Di_mirrorScenario_1
 rw [Option.getD_some, w64 (by omega)]
 by_cases c : x.At < y.At
 ·rw [decide_eq_true c, decide_eq_true (by omega)]
 ·rw [decide_eq_false c, decide_eq_false (by omega)]
theorem GsOk.srt {m : Gi_Map} (hd : MpDim m 10) {gs : List Gi_Goal} (h : GsOk m gs) : SortOk Di_mirrorScenario_1 (gs.map (mirG m)) := by
 have hm := mir_mul hd
 have hb : ∀ x ∈ gs.map (mirG m), 0 ≤ x.At ∧ x.At ≤ 100 := fun x hx => by
  obtain ⟨g, hg, rfl⟩ := List.mem_map.1 hx
  have := mirI_on hd (h.on g hg)
  unfold mirG
  dsimp only
  omega
 have hl : ∀ x ∈ gs.map (mirG m), ∀ y ∈ gs.map (mirG m), ltF Di_mirrorScenario_1 x y = decide (x.At < y.At) := fun x hx y hy => ltF_mir (by have := hb x hx; have := hb y hy; omega)
 have hn := h.n
 refine ⟨by rw [List.length_map]; omega, fun x _ y _ => ⟨_, rfl⟩, fun x hx => ?_, fun x hx y hy z hz h1 h2 => ?_, fun x hx y hy z hz h1 h2 => ?_, fun x hx y hy h1 h2 => ?_⟩
 ·rw [hl x hx x hx]; simp
 ·rw [hl x hx y hy] at h1; rw [hl y hy z hz] at h2; rw [hl x hx z hz]; simp at *; omega
 ·rw [hl x hx y hy] at h1; rw [hl y hy z hz] at h2; rw [hl x hx z hz]; simp at *; omega
 ·rw [hl x hx y hy] at h1; rw [hl y hy x hx] at h2
  simp at h1 h2
  obtain ⟨g, hg, rfl⟩ := List.mem_map.1 hx
  obtain ⟨g', hg', rfl⟩ := List.mem_map.1 hy
  have e : mirI m g.At = mirI m g'.At := by unfold mirG at h1 h2; dsimp only at h1 h2; omega
  rw [pw_inj h.pw g hg g' hg' (mirI_inj hd (h.on g hg) (h.on g' hg') e)]
theorem srtF_mem {β : Type} {f : β → β → Option Int} {l : List β} {x : β} : x ∈ srtF f l ↔ x ∈ l := List.mem_mergeSort
theorem srtF_pw {β : Type} {f : β → β → Option Int} {l : List β} (h : SortOk f l) : (srtF f l).Pairwise fun a b => ltF f b a = false := by
 have e : srtF f l = (l.attach.mergeSort fun x y : { x : β // x ∈ l } => !ltF f y.1 x.1).map Subtype.val := by
  unfold srtF
  rw [List.map_mergeSort (f := Subtype.val) (s := fun x y => !ltF f y x) (fun a _ b _ => rfl)]
  simp
 rw [e, List.pairwise_map]
 refine (List.pairwise_mergeSort (fun a b c h1 h2 => ?_) (fun a b => ?_) _).imp fun {a b} h => by simpa using h
 ·simp only [Bool.not_eq_true'] at *
  exact h.ntr _ c.2 _ b.2 _ a.2 h2 h1
 ·cases hb : ltF f b.1 a.1 with
  | false => simp
  | true =>
   cases ha : ltF f a.1 b.1 with
   | false => simp
   | true => exact absurd (h.tr _ a.2 _ b.2 _ a.2 ha hb) (by rw [h.irr _ a.2]; simp)
def mirGl (m : Gi_Map) (gs : List Gi_Goal) (i : Int) : List Gi_Goal := gs.filterMap fun g => if mirI m g.At = i then some ⟨i, g.Points⟩ else none
theorem mirGl_eq {m : Gi_Map} (hd : MpDim m 10) {gs : List Gi_Goal} (h : GsOk m gs) : (msort (gs.map fun g => mirI m g.At)).flatMap (mirGl m gs) = srtF Di_mirrorScenario_1 (gs.map (mirG m)) := by
 have hS := h.srt hd
 have hm := mir_mul hd
 have hb : ∀ x ∈ gs.map (mirG m), 0 ≤ x.At ∧ x.At ≤ 100 := fun x hx => by
  obtain ⟨g, hg, rfl⟩ := List.mem_map.1 hx
  have := mirI_on hd (h.on g hg)
  unfold mirG
  dsimp only
  omega
 have hnd : (gs.map fun g => mirI m g.At).Nodup := map_nodup (h.pw.imp fun {a b} hab e => by rw [e] at hab; omega) fun x hx y hy e => pw_inj h.pw x hx y hy (mirI_inj hd (h.on x hx) (h.on y hy) e)
 have hnd2 : (gs.map (mirG m)).Nodup := map_nodup (h.pw.imp fun {a b} hab e => by rw [e] at hab; omega) fun x hx y hy e => pw_inj h.pw x hx y hy (mirI_inj hd (h.on x hx) (h.on y hy) (congrArg Gi_Goal.At e))
 have hat : ∀ i, ∀ x ∈ mirGl m gs i, x.At = i := fun i x hx => by
  obtain ⟨g, _, hg⟩ := List.mem_filterMap.1 hx
  split at hg
  ·cases hg; rfl
  ·cases hg
 refine key_ext (k := fun g => g.At) ?_ ?_ fun x => ?_
 ·rw [List.pairwise_flatMap]
  refine ⟨fun i _ => ?_, (msort_srt hnd).imp fun {i j} hij x hx y hy => ?_⟩
  ·unfold mirGl
   rw [List.pairwise_filterMap]
   refine h.pw.imp_of_mem fun {a b} hma hmb hab x hx y hy => ?_
   split at hx
   ·split at hy
    ·rename_i c1 c2
     have := mirI_inj hd (h.on a hma) (h.on b hmb) (c1.trans c2.symm)
     omega
    ·cases hy
   ·cases hx
  ·rw [hat i x hx, hat j y hy]; exact hij
 ·have h1 := srtF_pw hS
  have h2 : (srtF Di_mirrorScenario_1 (gs.map (mirG m))).Nodup := (List.mergeSort_perm _ _).nodup_iff.2 hnd2
  refine (h1.and h2).imp_of_mem fun {a b} hma hmb hab => ?_
  have ha := srtF_mem.1 hma
  have hb' := srtF_mem.1 hmb
  have h3 := hab.1
  rw [ltF_mir (by have := hb a ha; have := hb b hb'; omega)] at h3
  simp at h3
  have h4 : a.At ≠ b.At := fun e => hab.2 (hS.tie a ha b hb' (by rw [ltF_mir (by omega)]; simp; omega) (by rw [ltF_mir (by omega)]; simp; omega))
  omega
 ·rw [srtF_mem, List.mem_flatMap, List.mem_map]
  constructor
  ·rintro ⟨i, _, hx⟩
   obtain ⟨g, hg, he⟩ := List.mem_filterMap.1 hx
   refine ⟨g, hg, ?_⟩
   split at he
   ·rename_i c
    cases he
    unfold mirG
    rw [c]
   ·cases he
  ·rintro ⟨g, hg, rfl⟩
   exact ⟨mirI m g.At, msort_mem.2 (List.mem_map.2 ⟨g, hg, rfl⟩), List.mem_filterMap.2 ⟨g, hg, if_pos rfl⟩⟩
theorem ScOk.pl {x : Gi_Scenario} (h : ScOk x) {l : List Int} (hs : srG x.Board l = true) : PlOk x.Board.Map l := by
 have hn := (bdG_ok h.b).n
 have hl := srG_len hs
 simp only [srG, Bool.and_eq_true] at hs
 have ha := alli_iff.1 hs.2
 refine ⟨by omega, rising_nodup (rising_pw hs.1.2), fun y hy => ?_⟩
 obtain ⟨i, hi⟩ := List.getElem?_of_mem hy
 have := kIn_iff.1 (ha i y hi)
 omega
theorem mirS_i {x : Gi_Scenario} (hl : ScLen x) (h : ScOk x) : Di_mirrorScenario x = some (mirS x) := by
 have hV : BdV x.Board := ⟨hl.b, h.b⟩
 have hd := hV.ok.d
 have hT := hV.ok.n
 have hs := h.st
 have hn := hs.n
 have hg := cdG_ok hV.ok h.c
 have hgn := hg.n
 have hm := mir_mul hd
 unfold Di_mirrorScenario
 rw [cloneSc_i hl h, Option.bind_some, (mirMap_b hV).1, Option.bind_some]
 have k2 := map_goL (L := loop Bi_mirrorScenario) (S := fun i m => .h2 x.Conditions.Goals (x.Conditions.Goals.length : Int) (i : Int) x ⟨#[]⟩ 0 0 0 0 0 0 0 0 0 0 0 0 x.Name x.Board.Rules.Stack x.Board.Rules.River x.Board.Rules.Road x.Board.Rules.Supply x.Board.Rules.Turns (mirM x.Board.Map).Width (mirM x.Board.Map).Height x.Table.Dice x.Start.Turn x.Start.Weather x.Conditions.Step x.Conditions.Margin x.Board.Rules.Terrains x.Board.Rules.Kinds (mirM x.Board.Map).Terrain (mirM x.Board.Map).Rivers (mirM x.Board.Map).Roads x.Table.Columns x.Table.Results (x.Start.Units.map (mirU x.Board.Map)) m x.First x.Other) (l := x.Conditions.Goals) (g := mirG x.Board.Map) (r := fun m => (Dslices_SortFunc_i_Goal_i_mirrorScenario_1 m).bind fun r2 => if r2.length = m.length then some (Gi_Scenario.mk x.Name ⟨x.Board.Rules, mirM x.Board.Map⟩ x.Table ⟨x.Start.Turn, x.Start.Weather, (x.Start.Units.map (mirU x.Board.Map))⟩ ⟨r2, x.Conditions.Step, x.Conditions.Margin⟩ (msort (x.First.map (mirI x.Board.Map))) (msort (x.Other.map (mirI x.Board.Map)))) else none) (fun i g m hx hi hml hu => by
   have hb := (mirI_b hd (hg.on g (List.mem_of_getElem? hx))).1
   rw [loop_eq]
   simp (disch := omega) only [Bi_mirrorScenario, if_pos, Int.toNat_natCast, hx, hu, hb, Option.bind_some, wsucc, goOn]
   rfl) fun m hml => by
   rw [loop_eq]
   have e1 := mirPl_i hd (h.pl h.f)
   have e2 := mirPl_i hd (h.pl h.o)
   simp (disch := omega) only [Bi_mirrorScenario, if_neg, e1, e2, Option.bind_some]
   cases Dslices_SortFunc_i_Goal_i_mirrorScenario_1 m with
   | none => rfl
   | some r =>
    simp only [Option.bind_some]
    by_cases c : r.length = m.length
    ·rw [if_pos c, if_pos c]; rfl
    ·rw [if_neg c, if_neg c]; rfl
 have k1 := map_goL (L := loop Bi_mirrorScenario) (S := fun i m => .h1 x.Start.Units (x.Start.Units.length : Int) (i : Int) x ⟨#[]⟩ 0 0 0 0 0 0 0 0 0 0 0 0 x.Name x.Board.Rules.Stack x.Board.Rules.River x.Board.Rules.Road x.Board.Rules.Supply x.Board.Rules.Turns (mirM x.Board.Map).Width (mirM x.Board.Map).Height x.Table.Dice x.Start.Turn x.Start.Weather x.Conditions.Step x.Conditions.Margin x.Board.Rules.Terrains x.Board.Rules.Kinds (mirM x.Board.Map).Terrain (mirM x.Board.Map).Rivers (mirM x.Board.Map).Roads x.Table.Columns x.Table.Results m x.Conditions.Goals x.First x.Other) (l := x.Start.Units) (g := mirU x.Board.Map) (r := fun m => loop Bi_mirrorScenario (.h2 x.Conditions.Goals (x.Conditions.Goals.length : Int) 0 x ⟨#[]⟩ 0 0 0 0 0 0 0 0 0 0 0 0 x.Name x.Board.Rules.Stack x.Board.Rules.River x.Board.Rules.Road x.Board.Rules.Supply x.Board.Rules.Turns (mirM x.Board.Map).Width (mirM x.Board.Map).Height x.Table.Dice x.Start.Turn x.Start.Weather x.Conditions.Step x.Conditions.Margin x.Board.Rules.Terrains x.Board.Rules.Kinds (mirM x.Board.Map).Terrain (mirM x.Board.Map).Rivers (mirM x.Board.Map).Roads x.Table.Columns x.Table.Results m x.Conditions.Goals x.First x.Other)) (fun i u m hx hi hml hu => by
   have hun := hs.u u (List.mem_of_getElem? hx)
   rw [loop_eq]
   by_cases c : u.At ≥ 0
   ·have ha := hun.a
    have hb := (mirI_b hd (i := u.At) (by omega)).1
    simp (disch := omega) only [Bi_mirrorScenario, if_pos, Int.toNat_natCast, hx, hu, hb, Option.bind_some, wsucc, goOn, mirU]
   ·have he : m.set i (mirU x.Board.Map u) = m := by
     unfold mirU
     rw [if_neg c]
     refine List.ext_getElem? fun j => ?_
     rw [List.getElem?_set]
     split
     ·rename_i e; subst e; exact hu.symm
     ·rfl
    rw [he]
    simp (disch := omega) only [Bi_mirrorScenario, if_pos, if_neg, Int.toNat_natCast, hx, hu, Option.bind_some, wsucc, goOn]) fun m hml => by
   rw [loop_eq]
   simp (disch := omega) only [Bi_mirrorScenario, if_neg, goOn]
 refine Eq.trans k1 (Eq.trans k2 ?_)
 have e : Dslices_SortFunc_i_Goal_i_mirrorScenario_1 (x.Conditions.Goals.map (mirG x.Board.Map)) = some (srtF Di_mirrorScenario_1 (x.Conditions.Goals.map (mirG x.Board.Map))) := if_pos (hg.srt hd)
 rw [e, Option.bind_some, if_pos (srtF_len _ _)]
 rfl
theorem inn_s {x : Gi_Scenario} (hl : ScLen x) (h : ScOk x) (is : List Int) (hI : is.length ≤ 100) (i0 : Int) (k : Nat) (hk : k < is.length) : ∀ (n j : Nat) (out : List Gi_Goal), j + n = x.Conditions.Goals.length → out.length + n ≤ 100000 →
  (out ≠ [] → loop Bs_snMirror (.h5 i0 (is.length : Int) (k : Int) x.Conditions.Goals (x.Conditions.Goals.length : Int) (j : Int) x ⟨#[]⟩ 0 0 0 0 0 0 0 0 0 0 0 0 x.Board.Map x.Name x.Board.Rules.Stack x.Board.Rules.River x.Board.Rules.Road x.Board.Rules.Supply x.Board.Rules.Turns (mirM x.Board.Map).Width (mirM x.Board.Map).Height x.Table.Dice x.Start.Turn x.Start.Weather x.Conditions.Step x.Conditions.Margin is x.Board.Rules.Terrains x.Board.Rules.Kinds (mirM x.Board.Map).Terrain (mirM x.Board.Map).Rivers (mirM x.Board.Map).Roads x.Table.Columns x.Table.Results (x.Start.Units.map (mirU x.Board.Map)) out x.First x.Other) = loop Bs_snMirror (.h6 (is.length : Int) ((k + 1 : Nat) : Int) x ⟨#[]⟩ 0 0 0 0 0 0 0 0 0 0 0 0 x.Board.Map x.Name x.Board.Rules.Stack x.Board.Rules.River x.Board.Rules.Road x.Board.Rules.Supply x.Board.Rules.Turns (mirM x.Board.Map).Width (mirM x.Board.Map).Height x.Table.Dice x.Start.Turn x.Start.Weather x.Conditions.Step x.Conditions.Margin is x.Board.Rules.Terrains x.Board.Rules.Kinds (mirM x.Board.Map).Terrain (mirM x.Board.Map).Rivers (mirM x.Board.Map).Roads x.Table.Columns x.Table.Results (x.Start.Units.map (mirU x.Board.Map)) (out ++ mirGl x.Board.Map (x.Conditions.Goals.drop j) i0) x.First x.Other)) ∧
  (loop Bs_snMirror (.h4 i0 (is.length : Int) (k : Int) x.Conditions.Goals (x.Conditions.Goals.length : Int) (j : Int) x ⟨#[]⟩ 0 0 0 0 0 0 0 0 0 0 0 0 x.Board.Map x.Name x.Board.Rules.Stack x.Board.Rules.River x.Board.Rules.Road x.Board.Rules.Supply x.Board.Rules.Turns (mirM x.Board.Map).Width (mirM x.Board.Map).Height x.Table.Dice x.Start.Turn x.Start.Weather x.Conditions.Step x.Conditions.Margin is x.Board.Rules.Terrains x.Board.Rules.Kinds (mirM x.Board.Map).Terrain (mirM x.Board.Map).Rivers (mirM x.Board.Map).Roads x.Table.Columns x.Table.Results (x.Start.Units.map (mirU x.Board.Map)) x.First x.Other) = if mirGl x.Board.Map (x.Conditions.Goals.drop j) i0 = [] then loop Bs_snMirror (.h3 (is.length : Int) ((k + 1 : Nat) : Int) x ⟨#[]⟩ 0 0 0 0 0 0 0 0 0 0 0 0 x.Board.Map x.Name x.Board.Rules.Stack x.Board.Rules.River x.Board.Rules.Road x.Board.Rules.Supply x.Board.Rules.Turns (mirM x.Board.Map).Width (mirM x.Board.Map).Height x.Table.Dice x.Start.Turn x.Start.Weather x.Conditions.Step x.Conditions.Margin is x.Board.Rules.Terrains x.Board.Rules.Kinds (mirM x.Board.Map).Terrain (mirM x.Board.Map).Rivers (mirM x.Board.Map).Roads x.Table.Columns x.Table.Results (x.Start.Units.map (mirU x.Board.Map)) x.First x.Other) else loop Bs_snMirror (.h6 (is.length : Int) ((k + 1 : Nat) : Int) x ⟨#[]⟩ 0 0 0 0 0 0 0 0 0 0 0 0 x.Board.Map x.Name x.Board.Rules.Stack x.Board.Rules.River x.Board.Rules.Road x.Board.Rules.Supply x.Board.Rules.Turns (mirM x.Board.Map).Width (mirM x.Board.Map).Height x.Table.Dice x.Start.Turn x.Start.Weather x.Conditions.Step x.Conditions.Margin is x.Board.Rules.Terrains x.Board.Rules.Kinds (mirM x.Board.Map).Terrain (mirM x.Board.Map).Rivers (mirM x.Board.Map).Roads x.Table.Columns x.Table.Results (x.Start.Units.map (mirU x.Board.Map)) (mirGl x.Board.Map (x.Conditions.Goals.drop j) i0) x.First x.Other)) := by
 have hV : BdV x.Board := ⟨hl.b, h.b⟩
 have hd := hV.ok.d
 have hg := cdG_ok hV.ok h.c
 have hgn := hg.n
 intro n
 induction n with
 | zero =>
  intro j out hj ho
  have : j = x.Conditions.Goals.length := by omega
  subst this
  rw [List.drop_of_length_le (Nat.le_refl _)]
  refine ⟨fun _ => ?_, ?_⟩
  ·rw [loop_eq]
   simp (disch := omega) only [Bs_snMirror, if_neg, wsucc, goOn, mirGl, List.filterMap_nil, List.append_nil]
  ·rw [loop_eq]
   simp (disch := omega) only [Bs_snMirror, if_neg, wsucc, goOn, mirGl, List.filterMap_nil, if_pos]
   rfl
 | succ n ih =>
  intro j out hj ho
  have hlt : j < x.Conditions.Goals.length := by omega
  have hx := List.getElem?_eq_getElem hlt
  have hb := (mirI_b hd (hg.on _ (List.getElem_mem hlt))).2
  rw [List.drop_eq_getElem_cons hlt]
  generalize hge : x.Conditions.Goals[j] = g at *
  have e : mirGl x.Board.Map (g :: x.Conditions.Goals.drop (j + 1)) i0 = (if mirI x.Board.Map g.At = i0 then [⟨i0, g.Points⟩] else []) ++ mirGl x.Board.Map (x.Conditions.Goals.drop (j + 1)) i0 := by
   unfold mirGl
   rw [List.filterMap_cons]
   by_cases c : mirI x.Board.Map g.At = i0 <;> simp [c]
  rw [e]
  by_cases c : mirI x.Board.Map g.At = i0
  ·rw [if_pos c]
   refine ⟨fun hne => ?_, ?_⟩
   ·rw [loop_eq]
    have := ((ih (j + 1) (out ++ [⟨i0, g.Points⟩]) (by omega) (by simp; omega)).1 (by simp))
    simp (disch := first | omega | (simp; done) | (simp; omega)) only [Bs_snMirror, if_pos, if_true, Int.toNat_natCast, hx, hb, c, Option.bind_some, wsucc, goOn]
    rw [this, List.append_assoc]
   ·rw [loop_eq]
    have := ((ih (j + 1) [⟨i0, g.Points⟩] (by omega) (by simp; omega)).1 (by simp))
    simp (disch := first | omega | (simp; done) | (simp; omega)) only [Bs_snMirror, if_pos, if_true, Int.toNat_natCast, hx, hb, c, Option.bind_some, wsucc, goOn]
    rw [this, if_neg (by simp)]
  ·rw [if_neg c]
   refine ⟨fun hne => ?_, ?_⟩
   ·rw [loop_eq]
    have := ((ih (j + 1) out (by omega) (by omega)).1 hne)
    simp (disch := omega) only [Bs_snMirror, if_pos, if_false, Int.toNat_natCast, hx, hb, c, Option.bind_some, wsucc, goOn]
    rw [this, List.nil_append]
   ·rw [loop_eq]
    have := ((ih (j + 1) [] (by omega) (by simp; omega)).2)
    simp (disch := omega) only [Bs_snMirror, if_pos, if_false, Int.toNat_natCast, hx, hb, c, Option.bind_some, wsucc, goOn]
    rw [this, List.nil_append]
theorem mirGl_len (m : Gi_Map) (gs : List Gi_Goal) (i : Int) : (mirGl m gs i).length ≤ gs.length := List.length_filterMap_le _ _
theorem out_s {x : Gi_Scenario} (hl : ScLen x) (h : ScOk x) (is : List Int) (hI : is.length ≤ 100) : ∀ (n k : Nat) (out : List Gi_Goal), k + n = is.length → out.length ≤ 12 * k →
  loop Bs_snMirror (if out = [] then .h3 (is.length : Int) (k : Int) x ⟨#[]⟩ 0 0 0 0 0 0 0 0 0 0 0 0 x.Board.Map x.Name x.Board.Rules.Stack x.Board.Rules.River x.Board.Rules.Road x.Board.Rules.Supply x.Board.Rules.Turns (mirM x.Board.Map).Width (mirM x.Board.Map).Height x.Table.Dice x.Start.Turn x.Start.Weather x.Conditions.Step x.Conditions.Margin is x.Board.Rules.Terrains x.Board.Rules.Kinds (mirM x.Board.Map).Terrain (mirM x.Board.Map).Rivers (mirM x.Board.Map).Roads x.Table.Columns x.Table.Results (x.Start.Units.map (mirU x.Board.Map)) x.First x.Other else .h6 (is.length : Int) (k : Int) x ⟨#[]⟩ 0 0 0 0 0 0 0 0 0 0 0 0 x.Board.Map x.Name x.Board.Rules.Stack x.Board.Rules.River x.Board.Rules.Road x.Board.Rules.Supply x.Board.Rules.Turns (mirM x.Board.Map).Width (mirM x.Board.Map).Height x.Table.Dice x.Start.Turn x.Start.Weather x.Conditions.Step x.Conditions.Margin is x.Board.Rules.Terrains x.Board.Rules.Kinds (mirM x.Board.Map).Terrain (mirM x.Board.Map).Rivers (mirM x.Board.Map).Roads x.Table.Columns x.Table.Results (x.Start.Units.map (mirU x.Board.Map)) out x.First x.Other) =
   some (Gi_Scenario.mk x.Name ⟨x.Board.Rules, mirM x.Board.Map⟩ x.Table ⟨x.Start.Turn, x.Start.Weather, (x.Start.Units.map (mirU x.Board.Map))⟩ ⟨out ++ (is.drop k).flatMap (mirGl x.Board.Map x.Conditions.Goals), x.Conditions.Step, x.Conditions.Margin⟩ (msort (x.First.map (mirI x.Board.Map))) (msort (x.Other.map (mirI x.Board.Map)))) := by
 have hV : BdV x.Board := ⟨hl.b, h.b⟩
 have hd := hV.ok.d
 have hg := cdG_ok hV.ok h.c
 have hgn := hg.n
 have e1 := mirHx_s hd (h.pl h.f)
 have e2 := mirHx_s hd (h.pl h.o)
 intro n
 induction n with
 | zero =>
  intro k out hk ho
  have : k = is.length := by omega
  subst this
  rw [List.drop_of_length_le (Nat.le_refl _), List.flatMap_nil, List.append_nil]
  by_cases c : out = []
  ·rw [if_pos c, loop_eq, c]
   simp (disch := omega) only [Bs_snMirror, if_neg, e1, e2, Option.bind_some, goOn]
  ·rw [if_neg c, loop_eq]
   simp (disch := omega) only [Bs_snMirror, if_neg, e1, e2, Option.bind_some, goOn]
 | succ n ih =>
  intro k out hk ho
  have hlt : k < is.length := by omega
  have hx := List.getElem?_eq_getElem hlt
  rw [List.drop_eq_getElem_cons hlt, List.flatMap_cons]
  have hin := inn_s hl h is hI is[k] k hlt x.Conditions.Goals.length 0 out (by omega) (by omega)
  rw [List.drop_zero] at hin
  have hgl := mirGl_len x.Board.Map x.Conditions.Goals is[k]
  have hih := ih (k + 1) (out ++ mirGl x.Board.Map x.Conditions.Goals is[k]) (by omega) (by simp; omega)
  rw [List.append_assoc] at hih
  rw [← hih]
  by_cases c : out = []
  ·rw [if_pos c, loop_eq]
   simp (disch := omega) only [Bs_snMirror, if_pos, Int.toNat_natCast, hx, Option.bind_some, goOn]
   refine Eq.trans hin.2 ?_
   rw [c, List.nil_append]
   by_cases c2 : mirGl x.Board.Map x.Conditions.Goals is[k] = []
   ·rw [if_pos c2, if_pos c2]
   ·rw [if_neg c2, if_neg c2]
  ·rw [if_neg c, if_neg (by simp [c]), loop_eq]
   simp (disch := omega) only [Bs_snMirror, if_pos, Int.toNat_natCast, hx, Option.bind_some, goOn]
   exact hin.1 c
theorem mirS_s {x : Gi_Scenario} (hl : ScLen x) (h : ScOk x) : Ds_snMirror x = some (mirS x) := by
 have hV : BdV x.Board := ⟨hl.b, h.b⟩
 have hd := hV.ok.d
 have hT := hV.ok.n
 have hs := h.st
 have hn := hs.n
 have hg := cdG_ok hV.ok h.c
 have hgn := hg.n
 have hm := mir_mul hd
 have hP : PlOk x.Board.Map (x.Conditions.Goals.map fun g => g.At) := ⟨by simp; omega, map_nodup (hg.pw.imp fun {a b} hab e => by rw [e] at hab; omega) fun u hu v hv e => pw_inj hg.pw u hu v hv e, fun y hy => by
  obtain ⟨g, hg', rfl⟩ := List.mem_map.1 hy
  exact hg.on g hg'⟩
 unfold Ds_snMirror
 rw [snOwn_s hl h, Option.bind_some, (mirMap_b hV).2, Option.bind_some]
 have k2 := app_loop (B := Bs_snMirror) (S := fun acc i => .h2 x.Conditions.Goals (x.Conditions.Goals.length : Int) (i : Int) x ⟨#[]⟩ 0 0 0 0 0 0 0 0 0 0 0 0 x.Board.Map x.Name x.Board.Rules.Stack x.Board.Rules.River x.Board.Rules.Road x.Board.Rules.Supply x.Board.Rules.Turns (mirM x.Board.Map).Width (mirM x.Board.Map).Height x.Table.Dice x.Start.Turn x.Start.Weather x.Conditions.Step x.Conditions.Margin acc x.Board.Rules.Terrains x.Board.Rules.Kinds (mirM x.Board.Map).Terrain (mirM x.Board.Map).Rivers (mirM x.Board.Map).Roads x.Table.Columns x.Table.Results (x.Start.Units.map (mirU x.Board.Map)) x.First x.Other) (l := x.Conditions.Goals) (g := fun g => g.At) (fin := fun acc => (Ds_snHexes x.Board.Map acc).bind fun is => loop Bs_snMirror (.h3 (is.length : Int) 0 x ⟨#[]⟩ 0 0 0 0 0 0 0 0 0 0 0 0 x.Board.Map x.Name x.Board.Rules.Stack x.Board.Rules.River x.Board.Rules.Road x.Board.Rules.Supply x.Board.Rules.Turns (mirM x.Board.Map).Width (mirM x.Board.Map).Height x.Table.Dice x.Start.Turn x.Start.Weather x.Conditions.Step x.Conditions.Margin is x.Board.Rules.Terrains x.Board.Rules.Kinds (mirM x.Board.Map).Terrain (mirM x.Board.Map).Rivers (mirM x.Board.Map).Roads x.Table.Columns x.Table.Results (x.Start.Units.map (mirU x.Board.Map)) x.First x.Other)) (fun acc i g hx hi ha => by
   simp (disch := omega) only [Bs_snMirror, if_pos, Int.toNat_natCast, hx, Option.bind_some, wsucc, List.length_append, List.length_singleton]) fun acc ha => by
   simp (disch := omega) only [Bs_snMirror, if_neg]
   cases Ds_snHexes x.Board.Map acc <;> rfl
 have k1 := map_goL (L := loop Bs_snMirror) (S := fun i m => .h1 (x.Start.Units.length : Int) (i : Int) x ⟨#[]⟩ 0 0 0 0 0 0 0 0 0 0 0 0 x.Board.Map x.Name x.Board.Rules.Stack x.Board.Rules.River x.Board.Rules.Road x.Board.Rules.Supply x.Board.Rules.Turns (mirM x.Board.Map).Width (mirM x.Board.Map).Height x.Table.Dice x.Start.Turn x.Start.Weather x.Conditions.Step x.Conditions.Margin m x.Board.Rules.Terrains x.Board.Rules.Kinds (mirM x.Board.Map).Terrain (mirM x.Board.Map).Rivers (mirM x.Board.Map).Roads x.Table.Columns x.Table.Results x.Conditions.Goals x.First x.Other) (l := x.Start.Units) (g := mirU x.Board.Map) (r := fun m => loop Bs_snMirror (.h2 x.Conditions.Goals (x.Conditions.Goals.length : Int) 0 x ⟨#[]⟩ 0 0 0 0 0 0 0 0 0 0 0 0 x.Board.Map x.Name x.Board.Rules.Stack x.Board.Rules.River x.Board.Rules.Road x.Board.Rules.Supply x.Board.Rules.Turns (mirM x.Board.Map).Width (mirM x.Board.Map).Height x.Table.Dice x.Start.Turn x.Start.Weather x.Conditions.Step x.Conditions.Margin [] x.Board.Rules.Terrains x.Board.Rules.Kinds (mirM x.Board.Map).Terrain (mirM x.Board.Map).Rivers (mirM x.Board.Map).Roads x.Table.Columns x.Table.Results m x.First x.Other)) (fun i u m hx hi hml hu => by
   have hun := hs.u u (List.mem_of_getElem? hx)
   rw [loop_eq]
   by_cases c : u.At ≥ 0
   ·have ha := hun.a
    have hb := (mirI_b hd (i := u.At) (by omega)).2
    simp (disch := omega) only [Bs_snMirror, if_pos, Int.toNat_natCast, hu, hb, Option.bind_some, wsucc, goOn, mirU]
   ·have he : m.set i (mirU x.Board.Map u) = m := by
     unfold mirU
     rw [if_neg c]
     refine List.ext_getElem? fun j => ?_
     rw [List.getElem?_set]
     split
     ·rename_i e; subst e; exact hu.symm
     ·rfl
    rw [he]
    simp (disch := omega) only [Bs_snMirror, if_pos, if_neg, Int.toNat_natCast, hu, Option.bind_some, wsucc, goOn]) fun m hml => by
   rw [loop_eq]
   simp (disch := omega) only [Bs_snMirror, if_neg, goOn]
 refine Eq.trans k1 (Eq.trans k2 ?_)
 have e := mirHx_s hd hP
 rw [List.map_map] at e
 rw [e, Option.bind_some]
 have hfin := out_s hl h (msort (x.Conditions.Goals.map (mirI x.Board.Map ∘ fun g => g.At))) (by rw [msort_len]; simp; omega) (msort (x.Conditions.Goals.map (mirI x.Board.Map ∘ fun g => g.At))).length 0 [] (by omega) (by simp)
 rw [if_pos rfl, List.drop_zero, List.nil_append] at hfin
 refine Eq.trans hfin ?_
 have e2 := mirGl_eq hd hg
 unfold mirS
 rw [← e2]
 rfl
noncomputable def mrR (x : Gi_Scenario) : Gi_Scenario × Bool := if scF x = 0 then (mirS x, true) else (sc0, false)
theorem mrR_i {x : Gi_Scenario} (h : ScLen x) : Di_MirrorScenario x = some (mrR x) := by
 unfold Di_MirrorScenario mrR
 rw [isSc_i h, Option.bind_some]
 by_cases c : scF x = 0
 ·rw [if_pos (decide_eq_true c), if_pos c, mirS_i h (scF_ok c)]; rfl
 ·rw [if_neg (by simpa using c), if_neg c]; rfl
theorem mrR_s {x : Gi_Scenario} (h : ScLen x) : Ds_MirrorScenario x = some (mrR x) := by
 unfold Ds_MirrorScenario mrR
 rw [snGood_s h, Option.bind_some]
 by_cases c : scF x = 0
 ·rw [if_pos (decide_eq_true c), if_pos c, mirS_s h (scF_ok c)]; rfl
 ·rw [if_neg (by simpa using c), if_neg c]; rfl
theorem mrR_si {x : Gi_Scenario} (h : Si_Scenario x) : Si_Scenario (mrR x).1 := by
 unfold mrR
 split
 ·obtain ⟨h1, ⟨h2, h2b⟩, h3, h4, h5, h6, h7⟩ := h
  refine ⟨h1, ⟨h2, ?_, ?_, ?_⟩, h3, le_map h4, ?_, ?_, ?_⟩
  ·show (mirT x.Board.Map).length ≤ _; rw [mirT_len]; exact h2b.1
  ·show (msort _).length ≤ _; rw [msort_len]; exact le_map h2b.2.1
  ·show (msort _).length ≤ _; rw [msort_len]; exact le_map h2b.2.2
  ·show (srtF _ _).length ≤ _; rw [srtF_len]; exact le_map h5
  ·show (msort _).length ≤ _; rw [msort_len]; exact le_map h6
  ·show (msort _).length ≤ _; rw [msort_len]; exact le_map h7
 ·exact si_sc0

theorem lawMirrorScenario (a0 : Gw_Scenario) (hwa0 : Wf_Scenario a0) : Dw_FnExactMirrorScenario a0 = some true := Ok.isTrue <| by
 unfold Dw_FnExactMirrorScenario
 refine Ok.bind (sz_Scenario hwa0 (left := 1048576) ⟨by omega, by omega⟩) fun r1 zr1 => Ok.ite (fun _ => Ok.ret rfl) fun cr1 => ?_
 replace zr1 := zr1.resolve_left cr1
 have hsa0 := zr1.2
 have hia0 := szi_Scenario hsa0
 refine Ok.eq (to_Scenario hsa0) ?_
 refine Ok.eq (mrR_s (si_ScLen hia0)) ?_
 refine Ok.eq (to_Scenario hsa0) ?_
 refine Ok.eq (mrR_i (si_ScLen hia0)) ?_
 refine Ok.eq (eq_Scenario (mrR_si hia0)) ?_
 refine Ok.chk rfl ?_
 refine Ok.els (by simp) ?_
 refine Ok.eq (to_Scenario hsa0) ?_
 refine Ok.eq (eq_Scenario hia0) ?_
 refine Ok.chk rfl ?_
 refine Ok.bind (mark_Scenario hia0 (k := 1) ⟨by omega, by omega⟩) fun r13 hr13 => ?_
 have br13 := hr13.1
 refine Ok.chk hr13.2.1 ?_
 refine Ok.chk hr13.2.2.1 ?_
 refine Ok.chk hr13.2.2.2.1 ?_
 refine Ok.chk hr13.2.2.2.2.1 ?_
 refine Ok.chk hr13.2.2.2.2.2.1 ?_
 refine Ok.chk hr13.2.2.2.2.2.2.1 ?_
 refine Ok.chk hr13.2.2.2.2.2.2.2.1 ?_
 refine Ok.chk hr13.2.2.2.2.2.2.2.2.1 ?_
 refine Ok.chk hr13.2.2.2.2.2.2.2.2.2.1 ?_
 refine Ok.chk hr13.2.2.2.2.2.2.2.2.2.2.1 ?_
 refine Ok.chk hr13.2.2.2.2.2.2.2.2.2.2.2 ?_
 refine Ok.els (by have := br13; omega) ?_
 refine Ok.eq (eq_Scenario (mrR_si hia0)) ?_
 refine Ok.chk rfl ?_
 refine Ok.els (by simp) ?_
 refine Ok.bind (markh_Scenario (mrR_si hia0) (k := 1) ⟨by omega, by omega⟩) fun r29 hr29 => ?_
 have br29 := hr29.1
 refine Ok.chk hr29.2.1.1 ?_
 refine Ok.chk hr29.2.1.2.1 ?_
 refine Ok.chk hr29.2.1.2.2.1 ?_
 refine Ok.chk hr29.2.1.2.2.2.1 ?_
 refine Ok.chk hr29.2.1.2.2.2.2.1 ?_
 refine Ok.chk hr29.2.1.2.2.2.2.2.1 ?_
 refine Ok.chk hr29.2.1.2.2.2.2.2.2.1 ?_
 refine Ok.chk hr29.2.1.2.2.2.2.2.2.2.1 ?_
 refine Ok.chk hr29.2.1.2.2.2.2.2.2.2.2.1 ?_
 refine Ok.chk hr29.2.1.2.2.2.2.2.2.2.2.2.1 ?_
 refine Ok.chk hr29.2.1.2.2.2.2.2.2.2.2.2.2 ?_
 refine Ok.eq hr29.2.2 ?_
 refine Ok.els (by have := br29; omega) ?_
 refine Ok.chk rfl ?_
 refine Ok.eq (to_Scenario hsa0) ?_
 refine Ok.eq (mrR_i (si_ScLen hia0)) ?_
 refine Ok.eq (eq_Scenario (mrR_si hia0)) ?_
 refine Ok.chk rfl ?_
 refine Ok.els (by simp) ?_
 refine Ok.eq hr29.2.2 ?_
 refine Ok.els (by have := br29; omega) ?_
 exact Ok.chk rfl (Ok.ret rfl)

end Go.Proofs.YtdafkeddonfjkaaGreatDoor.Ab
