/- Part of the proof of FnExactIsFairCard: no condition of its own. -/
import Derived.Test.YtogomlkoocbhcaaGreatDoorE1FP
set_option linter.unusedVariables false
set_option linter.unusedSimpArgs false
open Go
namespace Go.Proofs.YtogomlkoocbhcaaGreatDoor.Ab
theorem mirS_s {x : Gi_Scenario} (hl : ScLen x) (h : ScOk x) : Ds_snMirror x = some (mirS x) := by
 have hV : BdV x.Board := ⟨hl.b, h.b⟩
 have hd := hV.ok.d
 have hT := hV.ok.n
 have hs := h.st
 have hn := hs.n
 have hg := cdG_ok hV.ok h.c
 have hgn := hg.n
 have hm := mir_mul hd
 have hP : PlOk x.Board.Map (x.Conditions.Goals.map fun g => g.At) := ⟨by simp; omega, map_nodup (hg.pw.imp fun {a b} hab e => by rw [e] at hab; omega) fun u hu v hv e => pw_inj hg.pw u hu v hv e, fun y hy => by
  obtain ⟨g, hg', rfl⟩ := List.mem_map.1 hy
  exact hg.on g hg'⟩
 unfold Ds_snMirror
 rw [snOwn_s hl h, Option.bind_some, (mirMap_b hV).2, Option.bind_some]
 have k2 := app_loop (B := Bs_snMirror) (S := fun acc i => .h2 x.Conditions.Goals (x.Conditions.Goals.length : Int) (i : Int) x ⟨#[]⟩ 0 0 0 0 0 0 0 0 0 0 0 0 x.Board.Map x.Name x.Board.Rules.Stack x.Board.Rules.River x.Board.Rules.Road x.Board.Rules.Supply x.Board.Rules.Turns (mirM x.Board.Map).Width (mirM x.Board.Map).Height x.Table.Dice x.Start.Turn x.Start.Weather x.Conditions.Step x.Conditions.Margin acc x.Board.Rules.Terrains x.Board.Rules.Kinds (mirM x.Board.Map).Terrain (mirM x.Board.Map).Rivers (mirM x.Board.Map).Roads x.Table.Columns x.Table.Results (x.Start.Units.map (mirU x.Board.Map)) x.First x.Other) (l := x.Conditions.Goals) (g := fun g => g.At) (fin := fun acc => (Ds_snHexes x.Board.Map acc).bind fun is => loop Bs_snMirror (.h3 (is.length : Int) 0 x ⟨#[]⟩ 0 0 0 0 0 0 0 0 0 0 0 0 x.Board.Map x.Name x.Board.Rules.Stack x.Board.Rules.River x.Board.Rules.Road x.Board.Rules.Supply x.Board.Rules.Turns (mirM x.Board.Map).Width (mirM x.Board.Map).Height x.Table.Dice x.Start.Turn x.Start.Weather x.Conditions.Step x.Conditions.Margin is x.Board.Rules.Terrains x.Board.Rules.Kinds (mirM x.Board.Map).Terrain (mirM x.Board.Map).Rivers (mirM x.Board.Map).Roads x.Table.Columns x.Table.Results (x.Start.Units.map (mirU x.Board.Map)) x.First x.Other)) (fun acc i g hx hi ha => by
   simp (disch := omega) only [Bs_snMirror, if_pos, Int.toNat_natCast, hx, Option.bind_some, wsucc, List.length_append, List.length_singleton]) fun acc ha => by
   simp (disch := omega) only [Bs_snMirror, if_neg]
   cases Ds_snHexes x.Board.Map acc <;> rfl
 have k1 := map_goL (L := loop Bs_snMirror) (S := fun i m => .h1 (x.Start.Units.length : Int) (i : Int) x ⟨#[]⟩ 0 0 0 0 0 0 0 0 0 0 0 0 x.Board.Map x.Name x.Board.Rules.Stack x.Board.Rules.River x.Board.Rules.Road x.Board.Rules.Supply x.Board.Rules.Turns (mirM x.Board.Map).Width (mirM x.Board.Map).Height x.Table.Dice x.Start.Turn x.Start.Weather x.Conditions.Step x.Conditions.Margin m x.Board.Rules.Terrains x.Board.Rules.Kinds (mirM x.Board.Map).Terrain (mirM x.Board.Map).Rivers (mirM x.Board.Map).Roads x.Table.Columns x.Table.Results x.Conditions.Goals x.First x.Other) (l := x.Start.Units) (g := mirU x.Board.Map) (r := fun m => loop Bs_snMirror (.h2 x.Conditions.Goals (x.Conditions.Goals.length : Int) 0 x ⟨#[]⟩ 0 0 0 0 0 0 0 0 0 0 0 0 x.Board.Map x.Name x.Board.Rules.Stack x.Board.Rules.River x.Board.Rules.Road x.Board.Rules.Supply x.Board.Rules.Turns (mirM x.Board.Map).Width (mirM x.Board.Map).Height x.Table.Dice x.Start.Turn x.Start.Weather x.Conditions.Step x.Conditions.Margin [] x.Board.Rules.Terrains x.Board.Rules.Kinds (mirM x.Board.Map).Terrain (mirM x.Board.Map).Rivers (mirM x.Board.Map).Roads x.Table.Columns x.Table.Results m x.First x.Other)) (fun i u m hx hi hml hu => by
   have hun := hs.u u (List.mem_of_getElem? hx)
   rw [loop_eq]
   by_cases c : u.At ≥ 0
   ·have ha := hun.a
    have hb := (mirI_b hd (i := u.At) (by omega)).2
    simp (disch := omega) only [Bs_snMirror, if_pos, Int.toNat_natCast, hu, hb, Option.bind_some, wsucc, goOn, mirU]
   ·have he : m.set i (mirU x.Board.Map u) = m := by
     unfold mirU
     rw [if_neg c]
     refine List.ext_getElem? fun j => ?_
     rw [List.getElem?_set]
     split
     ·rename_i e; subst e; exact hu.symm
     ·rfl
    rw [he]
    simp (disch := omega) only [Bs_snMirror, if_pos, if_neg, Int.toNat_natCast, hu, Option.bind_some, wsucc, goOn]) fun m hml => by
   rw [loop_eq]
   simp (disch := omega) only [Bs_snMirror, if_neg, goOn]
 refine Eq.trans k1 (Eq.trans k2 ?_)
 have e := mirHx_s hd hP
 rw [List.map_map] at e
 rw [e, Option.bind_some]
 have hfin := out_s hl h (msort (x.Conditions.Goals.map (mirI x.Board.Map ∘ fun g => g.At))) (by rw [msort_len]; simp; omega) (msort (x.Conditions.Goals.map (mirI x.Board.Map ∘ fun g => g.At))).length 0 [] (by omega) (by simp)
 rw [if_pos rfl, List.drop_zero, List.nil_append] at hfin
 refine Eq.trans hfin ?_
 have e2 := mirGl_eq hd hg
 unfold mirS
 rw [← e2]
 rfl
def byL (b : ByteArray) : List UInt8 := b.data.toList
theorem by_ext {a b : ByteArray} (h : byL a = byL b) : a = b := ByteArray.ext (Array.toList_inj.1 h)
theorem byL_app (a b : ByteArray) : byL (a ++ b) = byL a ++ byL b := ByteArray.toList_data_append
theorem byL_mk (l : List UInt8) : byL ⟨l.toArray⟩ = l := rfl
theorem by_size (b : ByteArray) : ByteArray.size b = (byL b).length := by
 show b.data.size = b.data.toList.length
 simp
theorem by_one (x : Int) : byL (bytesOf [x]) = [UInt8.ofNat x.toNat] := by simp [byL, bytesOf]
theorem byL_itoa (n : Int) : byL (itoaB n) = Lib.itoa n := by unfold itoaB byL; simp
theorem wu8 {n : Int} (h : 0 ≤ n ∧ n < 256) : IntKind.wrap .u8 n = n := by
 simp only [IntKind.wrap, IntKind.bits, IntKind.signed]
 simp
 omega
theorem dec_small {u : Nat} (h : u < 10) : Lib.decDigits u = [UInt8.ofNat (48 + u)] := by rw [Lib.decDigits, dif_pos h]
theorem dec_big {u : Nat} (h : ¬ u < 10) : Lib.decDigits u = Lib.decDigits (u / 10) ++ [UInt8.ofNat (48 + u % 10)] := by rw [Lib.decDigits, dif_neg h]
theorem dec_len : ∀ (k u : Nat), u < 10 ^ (k + 1) → (Lib.decDigits u).length ≤ k + 1
 | 0, u, h => by rw [dec_small (by simpa using h)]; simp
 | k + 1, u, h => by
  by_cases c : u < 10
  ·rw [dec_small c]; simp
  ·rw [dec_big c, List.length_append]
   have := dec_len k (u / 10) (by rw [Nat.pow_succ] at h; omega)
   simp
   omega
theorem itoa_nn {n : Int} (h : 0 ≤ n) : Lib.itoa n = Lib.decDigits n.toNat := by unfold Lib.itoa; rw [if_neg (by omega)]
theorem itoa_len {n : Int} (h : -9223372036854775808 ≤ n ∧ n ≤ 9223372036854775807) : (Lib.itoa n).length ≤ 20 := by
 unfold Lib.itoa
 split
 ·have := dec_len 18 n.natAbs (by omega)
  simp
  omega
 ·have := dec_len 18 n.toNat (by omega)
  omega
theorem itoa_i {n : Int} (h : -9223372036854775808 ≤ n ∧ n ≤ 9223372036854775807) : Dstrconv_Itoa n = some (itoaB n) := if_pos h
theorem num_fs : ∀ (k f : Nat) (n : Int), k < f → k ≤ 18 → 0 ≤ n → n < (10 : Int) ^ (k + 1) → n ≤ 9223372036854775807 → Ds_l1Num f n = some (itoaB n) := by
 have small : ∀ (f : Nat) (n : Int), 0 < f → 0 ≤ n → n < 10 → Ds_l1Num f n = some (itoaB n) := fun f n hf h0 h1 => by
  obtain ⟨f, rfl⟩ : ∃ g, f = g + 1 := ⟨f - 1, by omega⟩
  show Fs_l1Num (Ds_l1Num f) n = _
  unfold Fs_l1Num
  rw [if_pos h1, w64 (by omega), wu8 (by omega), if_pos (by simp; omega)]
  congr 1
  refine by_ext ?_
  rw [byL_itoa, itoa_nn h0, dec_small (by omega), by_one, show (48 + n).toNat = 48 + n.toNat by omega]
 intro k
 induction k with
 | zero => intro f n hf _ h0 h1 _; exact small f n hf h0 (by simpa using h1)
 | succ k ih =>
  intro f n hf hk h0 h1 h2
  by_cases c : n < 10
  ·exact small f n (by omega) h0 c
  ·obtain ⟨f, rfl⟩ : ∃ g, f = g + 1 := ⟨f - 1, by omega⟩
   show Fs_l1Num (Ds_l1Num f) n = _
   unfold Fs_l1Num
   have hdv : IntKind.wrap .i64 (Int.tdiv n 10) = n / 10 := by rw [Int.tdiv_eq_ediv_of_nonneg h0, w64 (by omega)]
   have hm : Int.tmod n 10 = n % 10 := Int.tmod_eq_emod_of_nonneg h0
   have hr := ih f (n / 10) (by omega) (by omega) (by omega) (by rw [Int.pow_succ] at h1; omega) (by omega)
   have hl := itoa_len (n := n / 10) (by omega)
   have hs : ByteArray.size (itoaB (n / 10)) ≤ 20 := by rw [by_size, byL_itoa]; exact hl
   have hs1 : ∀ x : Int, ByteArray.size (bytesOf [x]) = 1 := fun x => by rw [by_size, by_one]; rfl
   rw [if_neg c, hdv, hr, Option.bind_some, hm, w64 (by omega), wu8 (by omega), if_pos (by simp; omega), hs1, if_pos (by omega)]
   congr 1
   refine by_ext ?_
   rw [byL_app, byL_itoa, byL_itoa, itoa_nn h0, itoa_nn (show 0 ≤ n / 10 by omega), dec_big (u := n.toNat) (by omega)]
   rw [by_one, show (n / 10).toNat = n.toNat / 10 by omega, show (48 + n % 10).toNat = 48 + n.toNat % 10 by omega]
theorem num_s {n : Int} (h0 : 0 ≤ n) (h1 : n ≤ 9223372036854775807) : Ds_l1Num 100 n = some (itoaB n) := num_fs 18 100 n (by omega) (by omega) h0 (by omega) h1
def wordsB (w : ByteArray) (l : List Int) : ByteArray := joinB (w :: l.map itoaB) ⟨#[32]⟩
theorem byL_words (w : ByteArray) (l : List Int) : byL (wordsB w l) = byL w ++ (l.map fun n => 32 :: Lib.itoa n).flatten := by
 unfold wordsB joinB
 rw [byL_mk, List.map_cons, Lib.join_cons]
 unfold Lib.joinTail byL
 rw [List.map_map, List.map_map]
 rfl
def I64 (n : Int) : Prop := -9223372036854775808 ≤ n ∧ n ≤ 9223372036854775807
theorem words_len {l : List Int} (hl : ∀ n ∈ l, I64 n) : ((l.map fun n => (32 : UInt8) :: Lib.itoa n).flatten).length ≤ 21 * l.length := by
 induction l with
 | nil => simp
 | cons n l ih =>
  have h1 := ih fun m hm => hl m (List.mem_cons_of_mem _ hm)
  have h2 := itoa_len (hl n (List.mem_cons_self ..))
  simp only [List.map_cons, List.flatten_cons, List.length_append, List.length_cons]
  omega
theorem words_i {w : ByteArray} {l : List Int} (hw : w.size ≤ 2000000) (hn : l.length ≤ 2000000) (hl : ∀ n ∈ l, I64 n) : Di_wordsText w l = some (wordsB w l) := by
 unfold Di_wordsText
 have key := app_loop (B := Bi_wordsText) (S := fun acc i => .h1 l (l.length : Int) (i : Int) (w :: acc)) (l := l) (g := itoaB) (fin := fun acc => (Dstrings_Join (w :: acc) ⟨#[32]⟩).bind fun r => some r) (fun acc i x hx hi ha => by
  have e := itoa_i (hl x (List.mem_of_getElem? hx))
  simp (disch := omega) only [Bi_wordsText, if_pos, Int.toNat_natCast, hx, e, Option.bind_some, wsucc, List.length_append, List.length_singleton, List.length_cons, List.length_nil, List.cons_append]) fun acc ha => by
  simp (disch := omega) only [Bi_wordsText, if_neg]
  cases Dstrings_Join (w :: acc) ⟨#[32]⟩ <;> rfl
 refine Eq.trans key ?_
 have hj : Dstrings_Join (w :: l.map itoaB) ⟨#[32]⟩ = some (wordsB w l) := by
  refine if_pos ⟨by simp; omega, ?_⟩
  have h1 : byL (wordsB w l) = Lib.join ((w :: l.map itoaB).map (·.data.toList)) (ByteArray.mk #[32]).data.toList := rfl
  rw [← h1, byL_words, List.length_append, ← by_size]
  have := words_len hl
  omega
 rw [hj]
 rfl
theorem words_size {w : ByteArray} {l : List Int} (hl : ∀ n ∈ l, I64 n) : (wordsB w l).size ≤ w.size + 21 * l.length := by
 rw [by_size, byL_words, List.length_append, ← by_size]
 have := words_len hl
 omega
theorem cat_loop {σ α ρ : Type} {B : σ → Option (σ ⊕ ρ)} {S : ByteArray → Nat → σ} {l : List α} {g : α → ByteArray} {fin : ByteArray → Option ρ} {K : Nat} {a0 : ByteArray}
  (hs : ∀ acc i x, l[i]? = some x → i < l.length → ByteArray.size acc ≤ ByteArray.size a0 + K * i → B (S acc i) = some (.inl (S (acc ++ g x) (i + 1))) ∧ ByteArray.size (g x) ≤ K) (he : ∀ acc, ByteArray.size acc ≤ ByteArray.size a0 + K * l.length → goOn (loop B) (B (S acc l.length)) = fin acc) :
  loop B (S a0 0) = fin (l.foldl (fun o x => o ++ g x) a0) := by
 have key : ∀ (k i : Nat) acc, i + k = l.length → ByteArray.size acc ≤ ByteArray.size a0 + K * i → loop B (S acc i) = fin ((l.drop i).foldl (fun o x => o ++ g x) acc) := by
  intro k
  induction k with
  | zero =>
   intro i acc h ha
   have : i = l.length := by omega
   subst this
   rw [loop_eq, he _ ha, List.drop_of_length_le (Nat.le_refl _)]
   rfl
  | succ k ih =>
   intro i acc h ha
   have hlt : i < l.length := by omega
   have hx := List.getElem?_eq_getElem hlt
   obtain ⟨h1, h2⟩ := hs _ i l[i] hx hlt ha
   rw [loop_eq, h1, List.drop_eq_getElem_cons hlt]
   simp only [goOn, List.foldl_cons]
   exact ih (i + 1) _ (by omega) (by rw [ByteArray.size_append, Nat.mul_succ]; omega)
 simpa using key l.length 0 a0 (by omega) (by simp)
theorem cat_size {α : Type} {g : α → ByteArray} {K : Nat} : ∀ (l : List α) (a : ByteArray), (∀ x ∈ l, ByteArray.size (g x) ≤ K) → ByteArray.size (l.foldl (fun o x => o ++ g x) a) ≤ ByteArray.size a + K * l.length
 | [], a, _ => by simp
 | x :: l, a, h => by
  have := cat_size (g := g) (K := K) l (a ++ g x) fun y hy => h y (List.mem_cons_of_mem _ hy)
  have h1 := h x (List.mem_cons_self ..)
  rw [ByteArray.size_append] at this
  rw [List.foldl_cons, List.length_cons, Nat.mul_succ]
  omega

def Tx (o : Option ByteArray) (L : List UInt8) (K : Nat) : Prop := ∃ b, o = some b ∧ byL b = L ∧ ByteArray.size b ≤ K
theorem Tx.both {o p : Option ByteArray} {L : List UInt8} {K K' : Nat} (h : Tx o L K) (k : Tx p L K') : ∃ b, o = some b ∧ p = some b ∧ ByteArray.size b ≤ K := by
 obtain ⟨b, e1, e2, e3⟩ := h
 obtain ⟨c, f1, f2, _⟩ := k
 exact ⟨b, e1, by rw [f1, by_ext (f2.trans e2.symm)], e3⟩
theorem sz_mk (a : Array UInt8) : ByteArray.size ⟨a⟩ = a.size := rfl
theorem byL_arr (a : Array UInt8) : byL ⟨a⟩ = a.toList := rfl
theorem num_size {n : Int} (h : I64 n) : (itoaB n).size ≤ 20 := by rw [by_size, byL_itoa]; exact itoa_len h
theorem i64_of {n : Int} (h : -1000000 ≤ n ∧ n ≤ 1000000) : I64 n := by unfold I64; omega
def numsL (l : List Int) : List UInt8 := (l.map fun n => (32 : UInt8) :: Lib.itoa n).flatten
theorem cat_byL {α : Type} {g : α → ByteArray} : ∀ (l : List α) (a : ByteArray), byL (l.foldl (fun o x => o ++ g x) a) = byL a ++ (l.map fun x => byL (g x)).flatten
 | [], a => by simp
 | x :: l, a => by rw [List.foldl_cons, cat_byL l, byL_app]; simp
theorem mlist_s {w : ByteArray} {l : List Int} (hw : w.size ≤ 100) (hn : l.length ≤ 2000000) (hl : ∀ x ∈ l, 0 ≤ x ∧ x ≤ 1000000) : Tx (Ds_mList w l) (byL w ++ numsL l ++ [10]) (w.size + 21 * l.length + 1) := by
 have key := cat_loop (B := Bs_mList) (S := fun acc i => .h1 acc l (l.length : Int) (i : Int)) (l := l) (g := fun n => ⟨#[32]⟩ ++ itoaB n) (K := 21) (a0 := w) (fin := fun acc => some (acc ++ ⟨#[10]⟩)) (fun acc i x hx hi ha => by
  have hc := hl x (List.mem_of_getElem? hx)
  have e := num_s (n := x) (by omega) (by omega)
  have s := num_size (n := x) (i64_of (by omega))
  refine ⟨?_, by simp only [ByteArray.size_append, sz_mk, List.size_toArray, List.length_cons, List.length_nil]; omega⟩
  simp only [Bs_mList, Int.toNat_natCast, hx, e, Option.bind_some]
  rw [if_pos (by omega), if_pos (by omega), if_pos (by simp only [sz_mk, List.size_toArray, List.length_cons, List.length_nil]; omega), if_pos (by simp only [ByteArray.size_append, sz_mk, List.size_toArray, List.length_cons, List.length_nil]; omega), wsucc (by omega)]) fun acc ha => by
  simp only [Bs_mList]
  rw [if_neg (by omega), if_pos (by simp only [sz_mk, List.size_toArray, List.length_cons, List.length_nil]; omega)]
  rfl
 have hcs := cat_size (g := fun n => (⟨#[32]⟩ : ByteArray) ++ itoaB n) (K := 21) l w (fun x hx => by
  have hc := hl x hx
  have s := num_size (n := x) (i64_of (by omega))
  simp only [ByteArray.size_append, sz_mk, List.size_toArray, List.length_cons, List.length_nil]; omega)
 have hcl := cat_byL (g := fun n => (⟨#[32]⟩ : ByteArray) ++ itoaB n) l w
 have hm : (l.map fun x => byL ((⟨#[32]⟩ : ByteArray) ++ itoaB x)) = l.map fun n => (32 : UInt8) :: Lib.itoa n := List.map_congr_left fun x _ => by rw [byL_app, byL_itoa, byL_arr]; rfl
 rw [hm] at hcl
 refine ⟨_, key, ?_, by rw [ByteArray.size_append]; simp only [sz_mk, List.size_toArray, List.length_cons, List.length_nil]; omega⟩
 rw [byL_app, hcl]
 rfl
theorem wlist_i {w : ByteArray} {l : List Int} (hw : w.size ≤ 100) (hn : l.length ≤ 2000000) (hl : ∀ x ∈ l, 0 ≤ x ∧ x ≤ 1000000) : Tx (Di_wordsText w l) (byL w ++ numsL l) (w.size + 21 * l.length) := by
 have h : ∀ x ∈ l, I64 x := fun x hx => i64_of (by have := hl x hx; omega)
 exact ⟨_, words_i (by omega) hn h, byL_words w l, words_size h⟩
def cellG (m : Gi_Map) (i : Nat) : ByteArray := if (i : Int) % m.Width = m.Width - 1 then itoaB (m.Terrain.getD i 0) ++ ⟨#[10]⟩ else itoaB (m.Terrain.getD i 0)
def cellsL (m : Gi_Map) : List UInt8 := ((List.range m.Terrain.length).map fun i => byL (cellG m i)).flatten
def mapL (m : Gi_Map) : List UInt8 := [109, 97, 112, 32] ++ Lib.itoa m.Width ++ [32] ++ Lib.itoa m.Height ++ [10] ++ cellsL m ++ ([114, 105, 118, 101, 114, 115] ++ numsL m.Rivers ++ [10]) ++ ([114, 111, 97, 100, 115] ++ numsL m.Roads ++ [10])
structure MpT (m : Gi_Map) : Prop where
 d : MpDim m 10
 n : m.Terrain.length ≤ 100
 t : ∀ x ∈ m.Terrain, 0 ≤ x ∧ x ≤ 5
 r : m.Rivers.length ≤ 2000000
 o : m.Roads.length ≤ 2000000
 rs : ∀ x ∈ m.Rivers, 0 ≤ x ∧ x ≤ 1000000
 os : ∀ x ∈ m.Roads, 0 ≤ x ∧ x ≤ 1000000
theorem mpT_of {b : Gi_Board} (h : BdV b) : MpT b.Map := by
 have hd := h.ok.d
 have hm := mir_mul hd
 obtain ⟨_, _, g3, g4⟩ := mpGood_dim (bdG_mp h.g)
 have he : ∀ l : List Int, mpList b.Map l = true → ∀ x ∈ l, 0 ≤ x ∧ x ≤ 1000000 := fun l hl x hx => by
  unfold mpList at hl
  rw [Bool.and_eq_true] at hl
  have := mpEdge_iff.1 (List.all_eq_true.1 hl.1 x hx)
  omega
 exact ⟨hd, h.ok.n2.2, mpGood_terr (bdG_mp h.g), h.l.m.2.1, h.l.m.2.2, he _ g3, he _ g4⟩
theorem cellG_size {m : Gi_Map} (h : MpT m) {i : Nat} (hi : i < m.Terrain.length) : (cellG m i).size ≤ 21 := by
 have hx : m.Terrain.getD i 0 ∈ m.Terrain := by rw [List.getD_eq_getElem?_getD, List.getElem?_eq_getElem hi]; exact List.getElem_mem hi
 have hb := h.t _ hx
 have s := num_size (n := m.Terrain.getD i 0) (i64_of (by omega))
 unfold cellG
 split
 ·simp only [ByteArray.size_append, sz_mk, List.size_toArray, List.length_cons, List.length_nil]; omega
 ·omega
theorem map_it {m : Gi_Map} (h : MpT m) : Tx (Di_mapText m) (mapL m) 100000000 := by
 have hd := h.d; have hn := h.n; have hr := h.r; have ho := h.o
 unfold MpDim at hd
 obtain ⟨br, r1, r2, r3⟩ := wlist_i (w := ⟨#[114, 105, 118, 101, 114, 115]⟩) (l := m.Rivers) (by decide) hr h.rs
 obtain ⟨bo, o1, o2, o3⟩ := wlist_i (w := ⟨#[114, 111, 97, 100, 115]⟩) (l := m.Roads) (by decide) ho h.os
 simp only [sz_mk, List.size_toArray, List.length_cons, List.length_nil] at r3 o3
 have hwh : ∀ x ∈ [m.Width, m.Height], 0 ≤ x ∧ x ≤ 1000000 := fun x hx => by
  simp only [List.mem_cons, List.not_mem_nil, or_false] at hx
  rcases hx with rfl | rfl <;> omega
 obtain ⟨bw, w1, w2, w3⟩ := wlist_i (w := ⟨#[109, 97, 112]⟩) (l := [m.Width, m.Height]) (by decide) (by simp) hwh
 simp only [sz_mk, List.size_toArray, List.length_cons, List.length_nil] at w3
 unfold Tx Di_mapText
 rw [w1, Option.bind_some, if_pos (by simp only [sz_mk, List.size_toArray, List.length_cons, List.length_nil]; omega)]
 generalize hb : bw ++ (⟨#[10]⟩ : ByteArray) = b0
 have hs0 : b0.size ≤ 100 := by rw [← hb]; simp only [ByteArray.size_append, sz_mk, List.size_toArray, List.length_cons, List.length_nil]; omega
 have hl0 : byL b0 = [109, 97, 112, 32] ++ Lib.itoa m.Width ++ [32] ++ Lib.itoa m.Height ++ [10] := by
  rw [← hb]
  simp only [byL_app, w2, numsL]
  simp [byL_arr]
 have hT : ∀ (i : Nat) x, (List.range m.Terrain.length)[i]? = some x → x = i ∧ i < m.Terrain.length := fun i x hx => by
  have h1 := (List.getElem?_eq_some_iff.1 hx).1
  rw [List.getElem?_range (by simpa using h1)] at hx
  exact ⟨by cases hx; rfl, by simpa using h1⟩
 have key := cat_loop (B := Bi_mapText) (S := fun acc i => .h1 acc m.Terrain (m.Terrain.length : Int) (i : Int) m) (l := List.range m.Terrain.length) (g := cellG m) (K := 21) (a0 := b0) (fin := fun acc => some ((((acc ++ br) ++ ⟨#[10]⟩) ++ bo) ++ ⟨#[10]⟩)) (fun acc i x hx hi ha => by
  obtain ⟨rfl, hi⟩ := hT i x hx
  have hx0 : m.Terrain[x]? = some (m.Terrain.getD x 0) := by rw [List.getElem?_eq_getElem hi, List.getD_eq_getElem?_getD, List.getElem?_eq_getElem hi]; rfl
  have hb := h.t _ (List.mem_of_getElem? hx0)
  have e := itoa_i (n := m.Terrain.getD x 0) (i64_of (by omega))
  have s := num_size (n := m.Terrain.getD x 0) (i64_of (by omega))
  have hm : Int.tmod (x : Int) m.Width = (x : Int) % m.Width := Int.tmod_eq_emod_of_nonneg (by omega)
  refine ⟨?_, cellG_size h hi⟩
  simp only [Bi_mapText, Int.toNat_natCast, hx0, e, Option.bind_some, hm, w64 (n := m.Width - 1) (by omega)]
  unfold cellG
  rw [if_pos (by omega), if_pos (by omega), if_pos (by omega), if_pos (by omega)]
  by_cases c : (x : Int) % m.Width = m.Width - 1
  ·rw [if_pos c, if_pos c, if_pos (by simp only [ByteArray.size_append, sz_mk, List.size_toArray, List.length_cons, List.length_nil]; omega), wsucc (by omega), ByteArray.append_assoc]
  ·rw [if_neg c, if_neg c, wsucc (by omega)]) fun acc ha => by
  rw [List.length_range] at ha ⊢
  simp only [Bi_mapText, r1, o1, Option.bind_some]
  rw [if_neg (by omega)]
  repeat rw [if_pos (by first | omega | (simp only [ByteArray.size_append, sz_mk, List.size_toArray, List.length_cons, List.length_nil]; omega))]
  rfl
 have hcs := cat_size (g := cellG m) (K := 21) (List.range m.Terrain.length) b0 fun x hx => cellG_size h (List.mem_range.1 hx)
 rw [List.length_range] at hcs
 have hcl := cat_byL (g := cellG m) (List.range m.Terrain.length) b0
 refine ⟨_, key, ?_, by simp only [ByteArray.size_append, sz_mk, List.size_toArray, List.length_cons, List.length_nil]; omega⟩
 simp only [byL_app, hcl, hl0, r2, o2]
 unfold mapL cellsL
 simp [byL_arr]
theorem map_st {m : Gi_Map} (h : MpT m) : Tx (Ds_mText m) (mapL m) 100000000 := by
 have hd := h.d; have hn := h.n; have hr := h.r; have ho := h.o
 unfold MpDim at hd
 obtain ⟨br, r1, r2, r3⟩ := mlist_s (w := ⟨#[114, 105, 118, 101, 114, 115]⟩) (l := m.Rivers) (by decide) hr h.rs
 obtain ⟨bo, o1, o2, o3⟩ := mlist_s (w := ⟨#[114, 111, 97, 100, 115]⟩) (l := m.Roads) (by decide) ho h.os
 simp only [sz_mk, List.size_toArray, List.length_cons, List.length_nil] at r3 o3
 have e1 := num_s (n := m.Width) (by omega) (by omega)
 have e2 := num_s (n := m.Height) (by omega) (by omega)
 have s1 := num_size (n := m.Width) (i64_of (by omega))
 have s2 := num_size (n := m.Height) (i64_of (by omega))
 unfold Tx Ds_mText
 simp only [e1, e2, Option.bind_some]
 repeat rw [if_pos (by simp only [ByteArray.size_append, sz_mk, List.size_toArray, List.length_cons, List.length_nil]; omega)]
 generalize hb : ((((⟨#[109, 97, 112, 32]⟩ : ByteArray) ++ itoaB m.Width) ++ ⟨#[32]⟩) ++ itoaB m.Height) ++ ⟨#[10]⟩ = b0
 have hs0 : b0.size ≤ 100 := by rw [← hb]; simp only [ByteArray.size_append, sz_mk, List.size_toArray, List.length_cons, List.length_nil]; omega
 have hl0 : byL b0 = [109, 97, 112, 32] ++ Lib.itoa m.Width ++ [32] ++ Lib.itoa m.Height ++ [10] := by
  rw [← hb]
  simp only [byL_app, byL_itoa]
  simp [byL_arr]
 have hT : ∀ (i : Nat) x, (List.range m.Terrain.length)[i]? = some x → x = i ∧ i < m.Terrain.length := fun i x hx => by
  have h1 := (List.getElem?_eq_some_iff.1 hx).1
  rw [List.getElem?_range (by simpa using h1)] at hx
  exact ⟨by cases hx; rfl, by simpa using h1⟩
 have key := cat_loop (B := Bs_mText) (S := fun acc i => .h1 acc m.Terrain (m.Terrain.length : Int) (i : Int) m) (l := List.range m.Terrain.length) (g := cellG m) (K := 21) (a0 := b0) (fin := fun acc => some ((acc ++ br) ++ bo)) (fun acc i x hx hi ha => by
  obtain ⟨rfl, hi⟩ := hT i x hx
  have hx0 : m.Terrain[x]? = some (m.Terrain.getD x 0) := by rw [List.getElem?_eq_getElem hi, List.getD_eq_getElem?_getD, List.getElem?_eq_getElem hi]; rfl
  have hb := h.t _ (List.mem_of_getElem? hx0)
  have e := num_s (n := m.Terrain.getD x 0) (by omega) (by omega)
  have s := num_size (n := m.Terrain.getD x 0) (i64_of (by omega))
  have hm : Int.tmod (x : Int) m.Width = (x : Int) % m.Width := Int.tmod_eq_emod_of_nonneg (by omega)
  refine ⟨?_, cellG_size h hi⟩
  simp only [Bs_mText, Int.toNat_natCast, hx0, e, Option.bind_some, hm, w64 (n := m.Width - 1) (by omega)]
  unfold cellG
  rw [if_pos (by omega), if_pos (by omega), if_pos (by omega), if_pos (by omega)]
  by_cases c : (x : Int) % m.Width = m.Width - 1
  ·rw [if_pos c, if_pos c, if_pos (by simp only [ByteArray.size_append, sz_mk, List.size_toArray, List.length_cons, List.length_nil]; omega), wsucc (by omega), ByteArray.append_assoc]
  ·rw [if_neg c, if_neg c, wsucc (by omega)]) fun acc ha => by
  rw [List.length_range] at ha ⊢
  simp only [Bs_mText, r1, o1, Option.bind_some]
  rw [if_neg (by omega)]
  repeat rw [if_pos (by first | omega | (simp only [ByteArray.size_append, sz_mk, List.size_toArray, List.length_cons, List.length_nil]; omega))]
  rfl
 have hcs := cat_size (g := cellG m) (K := 21) (List.range m.Terrain.length) b0 fun x hx => cellG_size h (List.mem_range.1 hx)
 rw [List.length_range] at hcs
 have hcl := cat_byL (g := cellG m) (List.range m.Terrain.length) b0
 refine ⟨_, key, ?_, by simp only [ByteArray.size_append, sz_mk, List.size_toArray, List.length_cons, List.length_nil]; omega⟩
 simp only [byL_app, hcl, hl0, r2, o2]
 unfold mapL cellsL
 simp [byL_arr]
def UB (u : Gi_Unit) : Prop := (u.Side = 0 ∨ u.Side = 1) ∧ (-1000 ≤ u.At ∧ u.At ≤ 1000) ∧ (-1000 ≤ u.Kind ∧ u.Kind ≤ 1000) ∧ (-1000 ≤ u.Steps ∧ u.Steps ≤ 1000)
def uLt (a b : Gi_Unit) : Prop := a.Side < b.Side ∨ a.Side = b.Side ∧ (a.At < b.At ∨ a.At = b.At ∧ (a.Kind < b.Kind ∨ a.Kind = b.Kind ∧ a.Steps < b.Steps))
theorem ltF_u {a b : Gi_Unit} (ha : UB a) (hb : UB b) : ltF Di_sortedUnits_1 a b = true ↔ uLt a b := by
 unfold UB at ha hb
 unfold ltF Di_sortedUnits_1 Di_compareUnits uLt
 rw [decide_eq_true_eq]
 by_cases c1 : a.Side = b.Side
 ·rw [if_pos c1]
  by_cases c2 : a.At = b.At
  ·rw [if_pos c2]
   by_cases c3 : a.Kind = b.Kind
   ·rw [if_pos c3, Option.bind_some, Option.getD_some, w64 (by omega)]; omega
   ·rw [if_neg c3, Option.bind_some, Option.getD_some, w64 (by omega)]; omega
  ·rw [if_neg c2, Option.bind_some, Option.getD_some, w64 (by omega)]; omega
 ·rw [if_neg c1, Option.getD_some, w64 (by omega)]; omega
theorem ltF_uF {a b : Gi_Unit} (ha : UB a) (hb : UB b) : ltF Di_sortedUnits_1 a b = false ↔ ¬ uLt a b := by
 rw [← ltF_u ha hb]; simp
theorem us_srtOk {l : List Gi_Unit} (hn : l.length ≤ 12) (h : ∀ u ∈ l, UB u) : SortOk Di_sortedUnits_1 l := by
 refine ⟨by omega, fun x hx y hy => ?_, fun x hx => ?_, fun x hx y hy z hz h1 h2 => ?_, fun x hx y hy z hz h1 h2 => ?_, fun x hx y hy h1 h2 => ?_⟩
 ·unfold Di_sortedUnits_1 Di_compareUnits
  split
  ·split
   ·split <;> exact ⟨_, rfl⟩
   ·exact ⟨_, rfl⟩
  ·exact ⟨_, rfl⟩
 ·rw [ltF_uF (h x hx) (h x hx)]; unfold uLt; omega
 ·rw [ltF_u (h x hx) (h y hy)] at h1; rw [ltF_u (h y hy) (h z hz)] at h2; rw [ltF_u (h x hx) (h z hz)]; unfold uLt at *; omega
 ·rw [ltF_uF (h x hx) (h y hy)] at h1; rw [ltF_uF (h y hy) (h z hz)] at h2; rw [ltF_uF (h x hx) (h z hz)]; unfold uLt at *; omega
 ·rw [ltF_uF (h x hx) (h y hy)] at h1; rw [ltF_uF (h y hy) (h x hx)] at h2
  unfold uLt at h1 h2
  obtain ⟨a1, a2, a3, a4⟩ := x
  obtain ⟨b1, b2, b3, b4⟩ := y
  dsimp only at h1 h2
  have e1 : a1 = b1 := by omega
  have e2 : a2 = b2 := by omega
  have e3 : a3 = b3 := by omega
  have e4 : a4 = b4 := by omega
  rw [e1, e2, e3, e4]
theorem su_eq {β : Type} {f : β → β → Option Int} {l m : List β} (hl : SortOk f l) (hm : SortOk f m) : srtF f l = srtF f m ↔ l.Perm m := by
 constructor
 ·intro h
  exact (List.mergeSort_perm l _).symm.trans ((List.Perm.of_eq h).trans (List.mergeSort_perm m _))
 ·intro h
  refine List.Perm.eq_of_pairwise (fun a b ha hb h1 h2 => ?_) (srtF_pw hl) (srtF_pw hm) ((List.mergeSort_perm l _).trans (h.trans (List.mergeSort_perm m _).symm))
  exact hl.tie a (srtF_mem.1 ha) b (h.mem_iff.2 (srtF_mem.1 hb)) h2 h1
theorem sortedUnits_i {l : List Gi_Unit} (hn : l.length ≤ 12) (h : ∀ u ∈ l, UB u) : Di_sortedUnits l = some (srtF Di_sortedUnits_1 l) := by
 unfold Di_sortedUnits Dslices_Clone_i_Unit
 have e : Dslices_SortFunc_i_Unit_i_sortedUnits_1 l = some (srtF Di_sortedUnits_1 l) := if_pos (us_srtOk hn h)
 rw [if_pos (by omega), Option.bind_some, e, Option.bind_some, if_pos (srtF_len _ _)]
def eqU (a b : Gi_Unit) : Bool := (a.Side == b.Side) && ((a.Kind == b.Kind) && ((a.At == b.At) && (a.Steps == b.Steps)))
theorem eqU_iff {a b : Gi_Unit} : eqU a b = true ↔ a = b := by
 obtain ⟨a1, a2, a3, a4⟩ := a
 obtain ⟨b1, b2, b3, b4⟩ := b
 simp [eqU]
theorem snCnt_s {l : List Gi_Unit} (hn : l.length ≤ 2000000) (u : Gi_Unit) : Ds_snCount l u = some ((l.countP fun x => eqU x u : Nat) : Int) := by
 have key : ∀ (k i : Nat), i + k = l.length → loop Bs_snCount (.h1 (((l.take i).countP fun x => eqU x u : Nat) : Int) l (l.length : Int) (i : Int) u) = some ((l.countP fun x => eqU x u : Nat) : Int) := by
  intro k
  induction k with
  | zero =>
   intro i h
   have : i = l.length := by omega
   subst this
   rw [loop_eq, List.take_length]
   simp only [Bs_snCount, nltc, if_false, goOn]
  | succ k ih =>
   intro i h
   have hlt : i < l.length := by omega
   have hx := List.getElem?_eq_getElem hlt
   have hc : (l.take i).countP (fun x => eqU x u) ≤ i := Nat.le_trans List.countP_le_length (by simp; omega)
   have hih := ih (i + 1) (by omega)
   rw [List.take_add_one, hx, List.countP_append] at hih
   generalize (l.take i).countP (fun x => eqU x u) = n at *
   generalize l[i] = x at *
   rw [loop_eq]
   simp only [Bs_snCount, ltc hlt, nnc, if_true, Int.toNat_natCast, hx, Option.bind_some, wsucc (show i < 9223372036854775807 by omega)]
   change goOn _ (if eqU x u = true then _ else _) = _
   by_cases c : eqU x u = true
   ·rw [if_pos c, wsucc (by omega)]
    simp [c] at hih
    exact hih
   ·rw [if_neg c]
    simp [c] at hih
    exact hih
 exact key l.length 0 (by omega)
theorem perm_cnt : ∀ (x y : List Gi_Unit), (∀ u, x.countP (fun z => eqU z u) ≤ y.countP (fun z => eqU z u)) → y.length = x.length → x.Perm y
 | [], y, _, hl => by rw [List.length_eq_zero_iff.1 hl]
 | a :: x, y, h, hl => by
  have ha : a ∈ y := by
   have h1 := h a
   rw [List.countP_cons_of_pos (p := fun z => eqU z a) (eqU_iff.2 rfl)] at h1
   obtain ⟨z, hz, e⟩ := List.countP_pos_iff.1 (show 0 < y.countP (fun z => eqU z a) by omega)
   rw [← eqU_iff.1 e]
   exact hz
  obtain ⟨s, t, rfl⟩ := List.append_of_mem ha
  have hp : (s ++ a :: t).Perm (a :: (s ++ t)) := List.perm_middle
  refine List.Perm.trans ?_ hp.symm
  refine List.Perm.cons a (perm_cnt x (s ++ t) (fun u => ?_) (by simp at hl ⊢; omega))
  have h1 := h u
  rw [hp.countP_eq, List.countP_cons, List.countP_cons] at h1
  omega
theorem cnt_perm {x y : List Gi_Unit} (hl : y.length = x.length) : (∀ u ∈ x, x.countP (fun z => eqU z u) = y.countP (fun z => eqU z u)) ↔ x.Perm y := by
 constructor
 ·intro h
  refine perm_cnt x y (fun u => ?_) hl
  by_cases hu : u ∈ x
  ·exact Nat.le_of_eq (h u hu)
  ·have : x.countP (fun z => eqU z u) = 0 := List.countP_eq_zero.2 fun z hz e => hu (by rw [← eqU_iff.1 e]; exact hz)
   omega
 ·intro h u _
  exact h.countP_eq _
theorem eqL_loop {σ α : Type} {B : σ → Option (σ ⊕ Bool)} {S : Nat → σ} {l m : List α} {q : α → α → Bool} (hq : ∀ a b, q a b = true ↔ a = b) (hlen : l.length = m.length)
  (hs : ∀ i x y, l[i]? = some x → m[i]? = some y → i < l.length → B (S i) = if q x y = true then some (.inl (S (i + 1))) else some (.inr false)) (he : B (S l.length) = some (.inr true)) : ∃ b, loop B (S 0) = some b ∧ (b = true ↔ l = m) := by
 refine ⟨_, all_loop (q := fun i x => match m[i]? with | some y => q x y | none => false) (fun i x hx hi _ => ?_) he, ?_⟩
 ·have hy : m[i]? = some (m[i]'(by omega)) := List.getElem?_eq_getElem _
  rw [hs i x _ hx hy hi, hy]
 ·rw [alli_iff]
  constructor
  ·intro h
   refine List.ext_getElem? fun i => ?_
   by_cases hi : i < l.length
   ·have hx := List.getElem?_eq_getElem hi
    have hy : m[i]? = some (m[i]'(by omega)) := List.getElem?_eq_getElem _
    have := h i _ hx
    rw [hy] at this
    rw [hx, hy, (hq _ _).1 this]
   ·rw [List.getElem?_eq_none (by omega), List.getElem?_eq_none (by omega)]
  ·rintro rfl i x hx
   rw [hx]
   exact (hq x x).2 rfl
def eqG (a b : Gi_Goal) : Bool := (a.At == b.At) && (a.Points == b.Points)
theorem eqG_iff {a b : Gi_Goal} : eqG a b = true ↔ a = b := by
 obtain ⟨a1, a2⟩ := a
 obtain ⟨b1, b2⟩ := b
 simp [eqG]
theorem eqUnits_i {l m : List Gi_Unit} (hn : l.length ≤ 2000000) : ∃ b, Dslices_Equal_i_Unit l m = some b ∧ (b = true ↔ l = m) := by
 unfold Dslices_Equal_i_Unit
 by_cases c : l.length = m.length
 ·rw [if_pos (by omega)]
  refine eqL_loop (B := Bslices_Equal_i_Unit) (S := fun i => .h1 l m (l.length : Int) (i : Int)) (q := eqU) (fun _ _ => eqU_iff) c (fun i x y hx hy hi => ?_) ?_
  ·simp only [Bslices_Equal_i_Unit, ltc hi, nnc, if_true, Int.toNat_natCast, hx, hy, Option.bind_some, wsucc (show i < 9223372036854775807 by omega)]
   show (if (!eqU x y) = true then _ else _) = _
   cases eqU x y <;> rfl
  ·simp only [Bslices_Equal_i_Unit, nltc, if_false]
 ·rw [if_neg (by omega)]
  exact ⟨false, rfl, by simp; intro e; exact c (by rw [e])⟩
theorem eqGoals_i {l m : List Gi_Goal} (hn : l.length ≤ 2000000) : ∃ b, Dslices_Equal_i_Goal l m = some b ∧ (b = true ↔ l = m) := by
 unfold Dslices_Equal_i_Goal
 by_cases c : l.length = m.length
 ·rw [if_pos (by omega)]
  refine eqL_loop (B := Bslices_Equal_i_Goal) (S := fun i => .h1 l m (l.length : Int) (i : Int)) (q := eqG) (fun _ _ => eqG_iff) c (fun i x y hx hy hi => ?_) ?_
  ·simp only [Bslices_Equal_i_Goal, ltc hi, nnc, if_true, Int.toNat_natCast, hx, hy, Option.bind_some, wsucc (show i < 9223372036854775807 by omega)]
   show (if (!eqG x y) = true then _ else _) = _
   cases eqG x y <;> rfl
  ·simp only [Bslices_Equal_i_Goal, nltc, if_false]
 ·rw [if_neg (by omega)]
  exact ⟨false, rfl, by simp; intro e; exact c (by rw [e])⟩
theorem eqGoals_s {l m : List Gi_Goal} (hn : l.length ≤ 2000000) : ∃ b, Ds_snGoals l m = some b ∧ (b = true ↔ l = m) := by
 unfold Ds_snGoals
 by_cases c : l.length = m.length
 ·rw [if_pos (by omega)]
  refine eqL_loop (B := Bs_snGoals) (S := fun i => .h1 m l (l.length : Int) (i : Int)) (q := eqG) (fun _ _ => eqG_iff) c (fun i x y hx hy hi => ?_) ?_
  ·simp only [Bs_snGoals, ltc hi, nnc, if_true, Int.toNat_natCast, hx, hy, Option.bind_some, wsucc (show i < 9223372036854775807 by omega)]
   show (if (!eqG x y) = true then _ else _) = _
   cases eqG x y <;> rfl
  ·simp only [Bs_snGoals, nltc, if_false]
 ·rw [if_neg (by omega)]
  exact ⟨false, rfl, by simp; intro e; exact c (by rw [e])⟩

structure ClOk (x : Gi_Scenario) : Prop where
 r : RlOk x.Board.Rules
 m : MpLen x.Board.Map
 t : TbOk x.Table
 n : x.Start.Units.length ≤ 12
 s : ∀ u ∈ x.Start.Units, u.Side = 0 ∨ u.Side = 1
 g : x.Conditions.Goals.length ≤ 12
 f : x.First.length ≤ 3000000
 o : x.Other.length ≤ 3000000
theorem cloneC_i {x : Gi_Scenario} (h : ClOk x) : Di_cloneScenario x = some x := by
 have hn := h.n
 have hc := h.g
 unfold Di_cloneScenario Di_cloneBoard Di_cloneState Dslices_Clone_i_Unit Dslices_Clone_i_Goal
 rw [cloneRules_i h.r, Option.bind_some, cloneMap_i h.m, Option.bind_some, Option.bind_some, cloneTable_i h.t, Option.bind_some, if_pos (by omega), Option.bind_some, Option.bind_some, if_pos (by omega), Option.bind_some, clone_int h.f, Option.bind_some, clone_int h.o]
 rfl
theorem ownC_s {x : Gi_Scenario} (h : ClOk x) : Ds_snOwn x = some x := by
 have hn := h.n
 have hc := h.g
 unfold Ds_snOwn Ds_sOwn
 rw [rOwn_s h.r, Option.bind_some, mOwn_s h.m, Option.bind_some, kOwn_s h.t, Option.bind_some, if_pos (by omega), Option.bind_some, if_pos (by omega), own_int h.f, Option.bind_some, own_int h.o]
 rfl
theorem swapC_i {x : Gi_Scenario} (h : ClOk x) : Di_swapScenario x = some (swS x) := by
 have hn := h.n
 unfold Di_swapScenario
 rw [cloneC_i h, Option.bind_some]
 have key := map_goL (L := loop Bi_swapScenario) (S := fun i m => .h1 (x.Start.Units.length : Int) (i : Int) ⟨#[]⟩ 0 0 0 0 0 0 0 0 0 0 0 0 x.Name x.Board.Rules.Stack x.Board.Rules.River x.Board.Rules.Road x.Board.Rules.Supply x.Board.Rules.Turns x.Board.Map.Width x.Board.Map.Height x.Table.Dice x.Start.Turn x.Start.Weather x.Conditions.Step x.Conditions.Margin x.Board.Rules.Terrains x.Board.Rules.Kinds x.Board.Map.Terrain x.Board.Map.Rivers x.Board.Map.Roads x.Table.Columns x.Table.Results m x.Conditions.Goals x.First x.Other) (l := x.Start.Units) (g := swU) (r := fun m => some (Gi_Scenario.mk x.Name x.Board x.Table ⟨x.Start.Turn, x.Start.Weather, m⟩ x.Conditions x.Other x.First)) (fun i u m hx hi hm hu => by
   have := h.s u (List.mem_of_getElem? hx)
   rw [loop_eq]
   simp (disch := omega) only [Bi_swapScenario, if_pos, Int.toNat_natCast, hu, Option.bind_some, w64, goOn]
   rfl) fun m hm => by
   rw [loop_eq]
   simp (disch := omega) only [Bi_swapScenario, if_neg, goOn]
 exact key
theorem swapC_s {x : Gi_Scenario} (h : ClOk x) : Ds_snSwap x = some (swS x) := by
 have hn := h.n
 have hf := h.f
 have ho := h.o
 unfold Ds_snSwap
 rw [ownC_s h, Option.bind_some]
 have key := map_goL (L := loop Bs_snSwap) (S := fun i m => .h1 (x.Start.Units.length : Int) (i : Int) x ⟨#[]⟩ 0 0 0 0 0 0 0 0 0 0 0 0 x.Name x.Board.Rules.Stack x.Board.Rules.River x.Board.Rules.Road x.Board.Rules.Supply x.Board.Rules.Turns x.Board.Map.Width x.Board.Map.Height x.Table.Dice x.Start.Turn x.Start.Weather x.Conditions.Step x.Conditions.Margin x.Board.Rules.Terrains x.Board.Rules.Kinds x.Board.Map.Terrain x.Board.Map.Rivers x.Board.Map.Roads x.Table.Columns x.Table.Results m x.Conditions.Goals x.First x.Other) (l := x.Start.Units) (g := swU) (r := fun m => some (Gi_Scenario.mk x.Name x.Board x.Table ⟨x.Start.Turn, x.Start.Weather, m⟩ x.Conditions x.Other x.First)) (fun i u m hx hi hm hu => by
   have := h.s u (List.mem_of_getElem? hx)
   rw [loop_eq]
   simp (disch := omega) only [Bs_snSwap, if_pos, Int.toNat_natCast, hu, Option.bind_some, w64, goOn]
   rfl) fun m hm => by
   rw [loop_eq]
   simp (disch := omega) only [Bs_snSwap, if_neg, own_int, Option.bind_some, goOn]
 exact key
theorem mirU_side (m : Gi_Map) (u : Gi_Unit) : (mirU m u).Side = u.Side := by
 unfold mirU
 split <;> rfl
theorem mirS_cl {x : Gi_Scenario} (hl : ScLen x) (h : ScOk x) : ClOk (mirS x) := by
 have hb := bdG_ok h.b
 have hm := hl.b.m
 have hg := cdG_len h.c
 have hf := srG_len h.f
 have ho := srG_len h.o
 refine ⟨hb.r, ⟨?_, ?_, ?_⟩, kG_ok h.k, ?_, fun u hu => ?_, ?_, ?_, ?_⟩
 ·show (mirT x.Board.Map).length ≤ _; rw [mirT_len]; exact hm.1
 ·show (msort _).length ≤ _; rw [msort_len, List.length_map]; exact hm.2.1
 ·show (msort _).length ≤ _; rw [msort_len, List.length_map]; exact hm.2.2
 ·show (List.map _ _).length ≤ _; rw [List.length_map]; exact h.st.n
 ·obtain ⟨v, hv, rfl⟩ := List.mem_map.1 hu
  rw [mirU_side]
  exact (h.st.u v hv).s
 ·show (srtF _ _).length ≤ _; rw [srtF_len, List.length_map]; exact hg
 ·show (msort _).length ≤ _; rw [msort_len, List.length_map]; omega
 ·show (msort _).length ≤ _; rw [msort_len, List.length_map]; omega
theorem mirT_vals (m : Gi_Map) (h : ∀ x ∈ m.Terrain, 0 ≤ x ∧ x ≤ 5) : ∀ x ∈ mirT m, 0 ≤ x ∧ x ≤ 5 := by
 have key : ∀ (l : List Nat) (acc : List Int), (∀ x ∈ acc, 0 ≤ x ∧ x ≤ 5) → ∀ x ∈ l.foldl (mirTs m) acc, 0 ≤ x ∧ x ≤ 5 := by
  intro l
  induction l with
  | nil => intro acc ha x hx; exact ha x hx
  | cons i l ih =>
   intro acc ha
   refine ih _ fun x hx => ?_
   unfold mirTs at hx
   rcases List.mem_or_eq_of_mem_set hx with h1 | h1
   ·exact ha x h1
   ·rw [h1, List.getD_eq_getElem?_getD]
    by_cases hi : i < m.Terrain.length
    ·rw [List.getElem?_eq_getElem hi]; exact h _ (List.getElem_mem hi)
    ·rw [List.getElem?_eq_none (by omega)]; decide
 refine key _ _ fun x hx => ?_
 rw [List.eq_of_mem_replicate hx]
 decide
theorem mirM_mpT {b : Gi_Board} (h : BdV b) : MpT (mirM b.Map) := by
 have ht := mpT_of h
 have hd := ht.d
 have hm := mir_mul hd
 obtain ⟨_, _, g3, g4⟩ := mpGood_dim (bdG_mp h.g)
 have he : ∀ l : List Int, mpList b.Map l = true → ∀ x ∈ msort (l.map (mirE b.Map)), 0 ≤ x ∧ x ≤ 1000000 := fun l hl x hx => by
  obtain ⟨e, hee, rfl⟩ := List.mem_map.1 (msort_mem.1 hx)
  unfold mpList at hl
  rw [Bool.and_eq_true] at hl
  obtain ⟨h1, h2, h3⟩ := edge_hex (List.all_eq_true.1 hl.1 e hee)
  have hnl := (mpNext_lt h3).1
  have hon := mirI_on hd (i := mpNext b.Map (e / 3) (e % 3)) ⟨h3, hnl⟩
  unfold mirE
  generalize mirI b.Map (mpNext b.Map (e / 3) (e % 3)) = u at *
  omega
 refine ⟨⟨hd.2.2.1, hd.2.2.2, hd.1, hd.2.1⟩, ?_, mirT_vals _ ht.t, ?_, ?_, he _ g3, he _ g4⟩
 ·show (mirT b.Map).length ≤ _; rw [mirT_len]; exact ht.n
 ·show (msort _).length ≤ _; rw [msort_len, List.length_map]; exact ht.r
 ·show (msort _).length ≤ _; rw [msort_len, List.length_map]; exact ht.o
theorem UnOk.ub {b : Gi_Board} (hb : BdOk b) {u : Gi_Unit} (h : UnOk b u) : UB u := by
 have hn := hb.n2
 have hk := hb.r.k
 have h1 := h.s; have h2 := h.k; have h3 := h.st; have h4 := h.a
 refine ⟨h1, ?_, by omega, by omega⟩
 rcases h4 with h4 | h4 <;> omega
theorem mir_ub {x : Gi_Scenario} (hl : ScLen x) (h : ScOk x) {u : Gi_Unit} (hu : u ∈ x.Start.Units) : UB (swU (mirU x.Board.Map u)) := by
 have hb := bdG_ok h.b
 have hun := h.st.u u hu
 have h0 := hun.ub hb
 have hd := hb.d
 have hm := mir_mul hd
 have hT := hb.n
 have ha := hun.a
 unfold UB at h0
 unfold mirU swU UB
 split
 ·have := mirI_on hd (i := u.At) (by omega)
  dsimp only
  omega
 ·dsimp only
  omega
noncomputable def fairY (x : Gi_Scenario) : Gi_Scenario := swS (mirS x)
def fairP (x y : Gi_Scenario) : Prop := mapL x.Board.Map = mapL y.Board.Map ∧ x.Conditions.Goals = y.Conditions.Goals ∧ x.First = y.First ∧ x.Other = y.Other ∧ x.Start.Units.Perm y.Start.Units
structure FrIs (x : Gi_Scenario) (r : Bool × Bool) : Prop where
 ok : r.2 = decide (scF x = 0)
 fair : r.1 = true ↔ scF x = 0 ∧ fairP x (fairY x)
theorem FrIs.eq {x : Gi_Scenario} {r s : Bool × Bool} (h : FrIs x r) (k : FrIs x s) : r = s := by
 obtain ⟨r1, r2⟩ := r
 obtain ⟨s1, s2⟩ := s
 have e1 : r2 = s2 := h.ok.trans k.ok.symm
 have e2 : r1 = s1 := by
  have := h.fair.trans k.fair.symm
  dsimp only at this
  cases r1 <;> cases s1 <;> simp_all
 rw [e1, e2]
theorem fair_i {x : Gi_Scenario} (hl : ScLen x) : Ok (Di_IsFair x) (FrIs x) := by
 unfold Di_IsFair
 refine Ok.eq (isSc_i hl) ?_
 by_cases c0 : scF x = 0
 ·have h := scF_ok c0
  have hV : BdV x.Board := ⟨hl.b, h.b⟩
  have hs := h.st
  have hun := hs.n
  have hgl := cdG_len h.c
  have hf := srG_len h.f
  have ho := srG_len h.o
  have no : ∀ {r : Bool}, (r = true → fairP x (fairY x)) → (fairP x (fairY x) → r = true) → FrIs x (r, true) := fun h1 h2 => ⟨(decide_eq_true c0).symm, fun e => ⟨c0, h1 e⟩, fun e => h2 e.2⟩
  refine Ok.chk (decide_eq_true c0) (Ok.eq (mirS_i hl h) (Ok.eq (swapC_i (mirS_cl hl h)) ?_))
  obtain ⟨b1, e1, l1, s1⟩ := map_it (mpT_of hV)
  obtain ⟨b2, e2, l2, s2⟩ := map_it (mirM_mpT hV)
  refine Ok.eq e1 (Ok.eq e2 ?_)
  have hy : fairY x = swS (mirS x) := rfl
  rw [← hy] at *
  refine Ok.ite (fun c1 => ?_) fun c1 => Ok.ret (no (fun e => by cases e) fun e => absurd (by_ext (by rw [l1, l2]; exact e.1)) c1)
  obtain ⟨r8, e8, h8⟩ := eqGoals_i (l := x.Conditions.Goals) (m := (fairY x).Conditions.Goals) (by omega)
  refine Ok.eq e8 (Ok.ite (fun c2 => ?_) fun c2 => Ok.ret (no (fun e => by cases e) fun e => absurd (h8.2 e.2.1) c2))
  refine Ok.eq (equal_i (by omega)) (Ok.ite (fun c3 => ?_) fun c3 => Ok.ret (no (fun e => by cases e) fun e => absurd (decide_eq_true e.2.2.1) c3))
  refine Ok.eq (equal_i (by omega)) (Ok.ite (fun c4 => ?_) fun c4 => Ok.ret (no (fun e => by cases e) fun e => absurd (decide_eq_true e.2.2.2.1) c4))
  have hu1 : ∀ u ∈ x.Start.Units, UB u := fun u hu => (hs.u u hu).ub hV.ok
  have hyu : (fairY x).Start.Units = (x.Start.Units.map (mirU x.Board.Map)).map swU := rfl
  have hu2 : ∀ u ∈ (fairY x).Start.Units, UB u := fun u hu => by
   rw [hyu, List.map_map] at hu
   obtain ⟨v, hv, rfl⟩ := List.mem_map.1 hu
   exact mir_ub hl h hv
  have hn2 : (fairY x).Start.Units.length ≤ 12 := by rw [hyu, List.length_map, List.length_map]; omega
  refine Ok.eq (sortedUnits_i hun hu1) (Ok.eq (sortedUnits_i hn2 hu2) ?_)
  obtain ⟨r16, e16, h16⟩ := eqUnits_i (l := srtF Di_sortedUnits_1 x.Start.Units) (m := srtF Di_sortedUnits_1 (fairY x).Start.Units) (by rw [srtF_len]; omega)
  refine Ok.eq e16 (Ok.ret (no (fun e => ?_) fun e => ?_))
  ·refine ⟨by rw [← l1, c1, l2]; rfl, h8.1 c2, of_decide_eq_true c3, of_decide_eq_true c4, ?_⟩
   exact (su_eq (us_srtOk hun hu1) (us_srtOk hn2 hu2)).1 (h16.1 e)
  ·exact h16.2 ((su_eq (us_srtOk hun hu1) (us_srtOk hn2 hu2)).2 e.2.2.2.2)
 ·exact Ok.els (by simpa using c0) (Ok.ret ⟨(decide_eq_false c0).symm, fun e => (by cases e), fun e => absurd e.1 c0⟩)
theorem fair_s {x : Gi_Scenario} (hl : ScLen x) : Ok (Ds_IsFair x) (FrIs x) := by
 unfold Ds_IsFair
 refine Ok.eq (snGood_s hl) ?_
 by_cases c0 : scF x = 0
 ·have h := scF_ok c0
  have hV : BdV x.Board := ⟨hl.b, h.b⟩
  have hs := h.st
  have hun := hs.n
  have hgl := cdG_len h.c
  have hf := srG_len h.f
  have ho := srG_len h.o
  have no : ∀ {r : Bool}, (r = true → fairP x (fairY x)) → (fairP x (fairY x) → r = true) → FrIs x (r, true) := fun h1 h2 => ⟨(decide_eq_true c0).symm, fun e => ⟨c0, h1 e⟩, fun e => h2 e.2⟩
  refine Ok.chk (decide_eq_true c0) (Ok.eq (mirS_s hl h) (Ok.eq (swapC_s (mirS_cl hl h)) ?_))
  obtain ⟨b1, e1, l1, s1⟩ := map_st (mpT_of hV)
  obtain ⟨b2, e2, l2, s2⟩ := map_st (mirM_mpT hV)
  have hy : fairY x = swS (mirS x) := rfl
  rw [← hy]
  have hyu : (fairY x).Start.Units = (x.Start.Units.map (mirU x.Board.Map)).map swU := rfl
  have hn2 : (fairY x).Start.Units.length = x.Start.Units.length := by rw [hyu, List.length_map, List.length_map]
  have e2' : Ds_mText ⟨(fairY x).Board.Map.Width, (fairY x).Board.Map.Height, (fairY x).Board.Map.Terrain, (fairY x).Board.Map.Rivers, (fairY x).Board.Map.Roads⟩ = some b2 := e2
  have hmp : mapL (mirM x.Board.Map) = mapL (fairY x).Board.Map := rfl
  rw [hmp] at l2
  generalize fairY x = y at *
  have hend : ∀ (_ : ∀ u ∈ x.Start.Units, x.Start.Units.countP (fun z => eqU z u) = y.Start.Units.countP (fun z => eqU z u)), Ok (loop Bs_IsFair (.h1 x.Start.Units (x.Start.Units.length : Int) (x.Start.Units.length : Int) x y.Name y.Board.Rules.Stack y.Board.Rules.River y.Board.Rules.Road y.Board.Rules.Supply y.Board.Rules.Turns y.Board.Map.Width y.Board.Map.Height y.Table.Dice y.Start.Turn y.Start.Weather y.Conditions.Step y.Conditions.Margin y.Board.Rules.Terrains y.Board.Rules.Kinds y.Board.Map.Terrain y.Board.Map.Rivers y.Board.Map.Roads y.Table.Columns y.Table.Results y.Start.Units y.Conditions.Goals y.First y.Other)) (FrIs x) := fun hc => by
   rw [loop_eq]
   simp only [Bs_IsFair, nltc, if_false, e1, e2', Option.bind_some]
   obtain ⟨r8, e8, h8⟩ := eqGoals_s (l := x.Conditions.Goals) (m := y.Conditions.Goals) (by omega)
   by_cases c1 : b1 = b2
   ·rw [if_pos c1, e8, Option.bind_some]
    by_cases c2 : r8 = true
    ·rw [if_pos c2, same_s (by omega), Option.bind_some]
     by_cases c3 : x.First = y.First
     ·rw [if_pos (decide_eq_true c3), same_s (by omega), Option.bind_some]
      refine Ok.ret (no (fun e => ⟨by rw [← l1, c1, l2], h8.1 c2, c3, of_decide_eq_true e, (cnt_perm hn2).1 hc⟩) fun e => decide_eq_true e.2.2.2.1)
     ·rw [if_neg (by simpa using c3)]
      exact Ok.ret (no (fun e => by cases e) fun e => absurd e.2.2.1 c3)
    ·rw [if_neg c2]
     exact Ok.ret (no (fun e => by cases e) fun e => absurd (h8.2 e.2.1) c2)
   ·rw [if_neg c1]
    exact Ok.ret (no (fun e => by cases e) fun e => absurd (by_ext (by rw [l1, l2]; exact e.1)) c1)
  have key : ∀ (k i : Nat), i + k = x.Start.Units.length → (∀ j u, j < i → x.Start.Units[j]? = some u → x.Start.Units.countP (fun z => eqU z u) = y.Start.Units.countP (fun z => eqU z u)) → Ok (loop Bs_IsFair (.h1 x.Start.Units (x.Start.Units.length : Int) (i : Int) x y.Name y.Board.Rules.Stack y.Board.Rules.River y.Board.Rules.Road y.Board.Rules.Supply y.Board.Rules.Turns y.Board.Map.Width y.Board.Map.Height y.Table.Dice y.Start.Turn y.Start.Weather y.Conditions.Step y.Conditions.Margin y.Board.Rules.Terrains y.Board.Rules.Kinds y.Board.Map.Terrain y.Board.Map.Rivers y.Board.Map.Roads y.Table.Columns y.Table.Results y.Start.Units y.Conditions.Goals y.First y.Other)) (FrIs x) := by
   intro k
   induction k with
   | zero =>
    intro i hi hj
    have : i = x.Start.Units.length := by omega
    subst this
    exact hend fun u hu => by
     obtain ⟨j, hju⟩ := List.getElem?_of_mem hu
     exact hj j u (List.getElem?_eq_some_iff.1 hju).1 hju
   | succ k ih =>
    intro i hi hj
    have hlt : i < x.Start.Units.length := by omega
    have hx := List.getElem?_eq_getElem hlt
    generalize x.Start.Units[i] = u at *
    rw [loop_eq]
    simp only [Bs_IsFair, ltc hlt, nnc, if_true, Int.toNat_natCast, hx, snCnt_s (show x.Start.Units.length ≤ 2000000 by omega), snCnt_s (show y.Start.Units.length ≤ 2000000 by omega), Option.bind_some, wsucc (show i < 9223372036854775807 by omega)]
    by_cases c : x.Start.Units.countP (fun z => eqU z u) = y.Start.Units.countP (fun z => eqU z u)
    ·rw [if_pos (by omega)]
     refine ih (i + 1) (by omega) fun j v hjv hv => ?_
     by_cases cj : j = i
     ·subst cj
      rw [hx] at hv
      cases hv
      exact c
     ·exact hj j v (by omega) hv
    ·rw [if_neg (by omega)]
     refine Ok.ret (no (fun e => by cases e) fun e => absurd ((cnt_perm hn2).2 e.2.2.2.2 u (List.mem_of_getElem? hx)) c)
  exact key x.Start.Units.length 0 (by omega) fun j u hj => absurd hj (by omega)
 ·exact Ok.els (by simpa using c0) (Ok.ret ⟨(decide_eq_false c0).symm, fun e => (by cases e), fun e => absurd e.1 c0⟩)
theorem lawIsFair (a0 : Gw_Scenario) (hwa0 : Wf_Scenario a0) : Dw_FnExactIsFair a0 = some true := Ok.isTrue <| by
 unfold Dw_FnExactIsFair
 refine Ok.bind (sz_Scenario hwa0 (left := 1048576) ⟨by omega, by omega⟩) fun r1 zr1 => Ok.ite (fun _ => Ok.ret rfl) fun cr1 => ?_
 replace zr1 := zr1.resolve_left cr1
 have hsa0 := zr1.2
 have hia0 := szi_Scenario hsa0
 refine Ok.eq (to_Scenario hsa0) ?_
 refine Ok.bind (fair_s (si_ScLen hia0)) fun r4 h4 => ?_
 refine Ok.eq (to_Scenario hsa0) ?_
 refine Ok.bind (fair_i (si_ScLen hia0)) fun r6 h6 => ?_
 rw [h6.eq h4]
 refine Ok.els (by simp) (Ok.els (by simp) ?_)
 refine Ok.eq (to_Scenario hsa0) ?_
 refine Ok.eq (eq_Scenario hia0) ?_
 exact Ok.chk rfl (Ok.ret rfl)

end Go.Proofs.YtogomlkoocbhcaaGreatDoor.Ab
