/- Part of the proof of FnExactScenarioTextCard: no condition of its own. -/
import Derived.Test.YtogomlkoocbhcaaGreatDoorE1SP
set_option linter.unusedVariables false
set_option linter.unusedSimpArgs false
open Go
namespace Go.Proofs.YtogomlkoocbhcaaGreatDoor.Ab
theorem tab_it {t : Gi_CombatTable} (h : TbT t) : Di_tableText t = some (tabB t) ∧ (tabB t).size ≤ 10000 := by
 have hc := h.c; have hr := h.r; have hd := h.d
 have z4 : ByteArray.size ⟨#[111, 100, 100, 115]⟩ = 4 := rfl
 have hoS : ∀ x ∈ t.Columns, (oddG x).size ≤ 42 := fun x hx => by
  have hb := h.cs x hx
  have s1 := num_size (n := x.Num) (i64_of (by omega))
  have s2 := num_size (n := x.Den) (i64_of (by omega))
  unfold oddG
  simp only [ByteArray.size_append, sz_mk, List.size_toArray, List.length_cons, List.length_nil]; omega
 have n0 := cat_size (g := oddG) (K := 42) t.Columns ⟨#[111, 100, 100, 115]⟩ hoS
 have sd : (diceB t.Dice).size ≤ 30 := by
  have s1 := num_size (n := t.Dice) (i64_of (by omega))
  unfold diceB
  simp only [ByteArray.size_append, sz_mk, List.size_toArray, List.length_cons, List.length_nil]; omega
 have n1 := cat_size (g := rowG) (K := 200) t.Results (t.Columns.foldl (fun o x => o ++ oddG x) ⟨#[111, 100, 100, 115]⟩ ++ diceB t.Dice) fun x hx => rowG_size (h.rs x hx)
 rw [ByteArray.size_append] at n1
 refine ⟨?_, by unfold tabB; omega⟩
 unfold Di_tableText
 have k1 := cat_loop (B := Bi_tableText) (S := fun acc i => .h1 acc t.Columns (t.Columns.length : Int) (i : Int) t) (l := t.Columns) (g := oddG) (K := 42) (a0 := ⟨#[111, 100, 100, 115]⟩) (fin := fun acc => loop Bi_tableText (.h2 (acc ++ diceB t.Dice) t.Results (t.Results.length : Int) 0)) (fun acc i x hx hi ha => by
  have hb := h.cs x (List.mem_of_getElem? hx)
  have e1 := itoa_i (n := x.Num) (i64_of (by omega))
  have e2 := itoa_i (n := x.Den) (i64_of (by omega))
  have s1 := num_size (n := x.Num) (i64_of (by omega))
  have s2 := num_size (n := x.Den) (i64_of (by omega))
  refine ⟨?_, hoS x (List.mem_of_getElem? hx)⟩
  simp only [Bi_tableText, Int.toNat_natCast, hx, e1, e2, Option.bind_some]
  rw [if_pos (by omega), if_pos (by omega), if_pos (by simp only [sz_mk, List.size_toArray, List.length_cons, List.length_nil]; omega), if_pos (by simp only [ByteArray.size_append, sz_mk, List.size_toArray, List.length_cons, List.length_nil]; omega), if_pos (by simp only [ByteArray.size_append, sz_mk, List.size_toArray, List.length_cons, List.length_nil]; omega), if_pos (by simp only [ByteArray.size_append, sz_mk, List.size_toArray, List.length_cons, List.length_nil]; omega), wsucc (by omega)]
  rfl) fun acc ha => by
  obtain ⟨e, s⟩ := words1 (w := ⟨#[32, 100, 105, 99, 101]⟩) (n := t.Dice) (by decide) (i64_of (by omega))
  simp only [sz_mk, List.size_toArray, List.length_cons, List.length_nil] at s
  have ed : wordsB ⟨#[32, 100, 105, 99, 101]⟩ [t.Dice] ++ ⟨#[10]⟩ = diceB t.Dice := by
   unfold diceB
   refine by_ext ?_
   simp only [byL_app, byL_words, byL_itoa]
   simp [byL_arr]
  simp only [Bi_tableText, e, Option.bind_some]
  rw [if_neg (by omega), if_pos (by simp only [sz_mk, List.size_toArray, List.length_cons, List.length_nil]; omega), if_pos (by simp only [ByteArray.size_append, sz_mk, List.size_toArray, List.length_cons, List.length_nil]; omega), ed]
  rfl
 rw [show loop Bi_tableText (.h1 ⟨#[111, 100, 100, 115]⟩ t.Columns (t.Columns.length : Int) 0 t) = _ from k1]
 have hc0 : ByteArray.size (t.Columns.foldl (fun o x => o ++ oddG x) ⟨#[111, 100, 100, 115]⟩ ++ diceB t.Dice) ≤ 5000 := by rw [ByteArray.size_append]; omega
 unfold tabB
 generalize t.Columns.foldl (fun o x => o ++ oddG x) ⟨#[111, 100, 100, 115]⟩ ++ diceB t.Dice = c0 at *
 have k2 : ∀ (k i : Nat) acc, i + k = t.Results.length → ByteArray.size acc ≤ 5000 + 200 * i → loop Bi_tableText (.h2 acc t.Results (t.Results.length : Int) (i : Int)) = some ((t.Results.drop i).foldl (fun o x => o ++ rowG x) acc) := by
  intro k
  induction k with
  | zero =>
   intro i acc hi ha
   have : i = t.Results.length := by omega
   subst this
   rw [loop_eq, List.drop_of_length_le (Nat.le_refl _)]
   simp only [Bi_tableText]
   rw [if_neg (by omega)]
   rfl
  | succ k ih =>
   intro i acc hi ha
   have hlt : i < t.Results.length := by omega
   have hx := List.getElem?_eq_getElem hlt
   have hrow := h.rs _ (List.getElem_mem hlt)
   rw [loop_eq, List.drop_eq_getElem_cons hlt, List.foldl_cons]
   have hrs := rowG_size hrow
   generalize t.Results[i] = x at *
   have hxl := hrow.1
   have k3 := cat_loop (B := Bi_tableText) (S := fun ac j => .h3 ac t.Results (t.Results.length : Int) (i : Int) x (x.length : Int) (j : Int)) (l := x) (g := itoaB) (K := 20) (a0 := acc) (fin := fun ac => loop Bi_tableText (.h2 (ac ++ ⟨#[10]⟩) t.Results (t.Results.length : Int) ((i + 1 : Nat) : Int))) (fun ac j y hy hj hac => by
    have hb := hrow.2 y (List.mem_of_getElem? hy)
    have e := itoa_i (n := y) (i64_of (by omega))
    have s := num_size (n := y) (i64_of (by omega))
    refine ⟨?_, s⟩
    simp only [Bi_tableText, Int.toNat_natCast, hy, e, Option.bind_some]
    rw [if_pos (by omega), if_pos (by omega), if_pos (by omega), wsucc (by omega)]) fun ac hac => by
    simp only [Bi_tableText]
    rw [if_neg (by omega), if_pos (by simp only [sz_mk, List.size_toArray, List.length_cons, List.length_nil]; omega), wsucc (by omega)]
    rfl
   simp only [Bi_tableText, Int.toNat_natCast, hx, Option.bind_some]
   rw [if_pos (by omega), if_pos (by omega)]
   simp only [goOn]
   refine Eq.trans k3 ?_
   have e : x.foldl (fun o n => o ++ itoaB n) acc ++ ⟨#[10]⟩ = acc ++ rowG x := by
    unfold rowG
    rw [foldB x acc, ByteArray.append_assoc]
   rw [e]
   exact ih (i + 1) _ (by omega) (by rw [ByteArray.size_append]; omega)
 have := k2 t.Results.length 0 c0 (by omega) (by omega)
 rw [List.drop_zero] at this
 exact this
theorem tab_st {t : Gi_CombatTable} (h : TbT t) : Ds_kText t = some (tabB t) ∧ (tabB t).size ≤ 10000 := by
 have hc := h.c; have hr := h.r; have hd := h.d
 have z4 : ByteArray.size ⟨#[111, 100, 100, 115]⟩ = 4 := rfl
 have hoS : ∀ x ∈ t.Columns, (oddG x).size ≤ 42 := fun x hx => by
  have hb := h.cs x hx
  have s1 := num_size (n := x.Num) (i64_of (by omega))
  have s2 := num_size (n := x.Den) (i64_of (by omega))
  unfold oddG
  simp only [ByteArray.size_append, sz_mk, List.size_toArray, List.length_cons, List.length_nil]; omega
 have n0 := cat_size (g := oddG) (K := 42) t.Columns ⟨#[111, 100, 100, 115]⟩ hoS
 have sd : (diceB t.Dice).size ≤ 30 := by
  have s1 := num_size (n := t.Dice) (i64_of (by omega))
  unfold diceB
  simp only [ByteArray.size_append, sz_mk, List.size_toArray, List.length_cons, List.length_nil]; omega
 have n1 := cat_size (g := rowG) (K := 200) t.Results (t.Columns.foldl (fun o x => o ++ oddG x) ⟨#[111, 100, 100, 115]⟩ ++ diceB t.Dice) fun x hx => rowG_size (h.rs x hx)
 rw [ByteArray.size_append] at n1
 refine ⟨?_, by unfold tabB; omega⟩
 unfold Ds_kText
 have k1 := cat_loop (B := Bs_kText) (S := fun acc i => .h1 acc t.Columns (t.Columns.length : Int) (i : Int) t) (l := t.Columns) (g := oddG) (K := 42) (a0 := ⟨#[111, 100, 100, 115]⟩) (fin := fun acc => loop Bs_kText (.h2 (acc ++ diceB t.Dice) t.Results (t.Results.length : Int) 0)) (fun acc i x hx hi ha => by
  have hb := h.cs x (List.mem_of_getElem? hx)
  have e1 := num_s (n := x.Num) (by omega) (by omega)
  have e2 := num_s (n := x.Den) (by omega) (by omega)
  have s1 := num_size (n := x.Num) (i64_of (by omega))
  have s2 := num_size (n := x.Den) (i64_of (by omega))
  refine ⟨?_, hoS x (List.mem_of_getElem? hx)⟩
  simp only [Bs_kText, Int.toNat_natCast, hx, e1, e2, Option.bind_some]
  rw [if_pos (by omega), if_pos (by omega), if_pos (by simp only [sz_mk, List.size_toArray, List.length_cons, List.length_nil]; omega), if_pos (by simp only [ByteArray.size_append, sz_mk, List.size_toArray, List.length_cons, List.length_nil]; omega), if_pos (by simp only [ByteArray.size_append, sz_mk, List.size_toArray, List.length_cons, List.length_nil]; omega), if_pos (by simp only [ByteArray.size_append, sz_mk, List.size_toArray, List.length_cons, List.length_nil]; omega), wsucc (by omega)]
  rfl) fun acc ha => by
  have e := num_s (n := t.Dice) (by omega) (by omega)
  have s := num_size (n := t.Dice) (i64_of (by omega))
  simp only [Bs_kText, e, Option.bind_some]
  rw [if_neg (by omega), if_pos (by simp only [sz_mk, List.size_toArray, List.length_cons, List.length_nil]; omega), if_pos (by simp only [ByteArray.size_append, sz_mk, List.size_toArray, List.length_cons, List.length_nil]; omega), if_pos (by simp only [ByteArray.size_append, sz_mk, List.size_toArray, List.length_cons, List.length_nil]; omega)]
  rfl
 rw [show loop Bs_kText (.h1 ⟨#[111, 100, 100, 115]⟩ t.Columns (t.Columns.length : Int) 0 t) = _ from k1]
 have hc0 : ByteArray.size (t.Columns.foldl (fun o x => o ++ oddG x) ⟨#[111, 100, 100, 115]⟩ ++ diceB t.Dice) ≤ 5000 := by rw [ByteArray.size_append]; omega
 unfold tabB
 generalize t.Columns.foldl (fun o x => o ++ oddG x) ⟨#[111, 100, 100, 115]⟩ ++ diceB t.Dice = c0 at *
 have k2 : ∀ (k i : Nat) acc, i + k = t.Results.length → ByteArray.size acc ≤ 5000 + 200 * i → loop Bs_kText (.h2 acc t.Results (t.Results.length : Int) (i : Int)) = some ((t.Results.drop i).foldl (fun o x => o ++ rowG x) acc) := by
  intro k
  induction k with
  | zero =>
   intro i acc hi ha
   have : i = t.Results.length := by omega
   subst this
   rw [loop_eq, List.drop_of_length_le (Nat.le_refl _)]
   simp only [Bs_kText]
   rw [if_neg (by omega)]
   rfl
  | succ k ih =>
   intro i acc hi ha
   have hlt : i < t.Results.length := by omega
   have hx := List.getElem?_eq_getElem hlt
   have hrow := h.rs _ (List.getElem_mem hlt)
   rw [loop_eq, List.drop_eq_getElem_cons hlt, List.foldl_cons]
   have hrs := rowG_size hrow
   generalize t.Results[i] = x at *
   have hxl := hrow.1
   have k3 := cat_loop (B := Bs_kText) (S := fun ac j => .h3 ac t.Results (t.Results.length : Int) (i : Int) x (x.length : Int) (j : Int)) (l := x) (g := itoaB) (K := 20) (a0 := acc) (fin := fun ac => loop Bs_kText (.h2 (ac ++ ⟨#[10]⟩) t.Results (t.Results.length : Int) ((i + 1 : Nat) : Int))) (fun ac j y hy hj hac => by
    have hb := hrow.2 y (List.mem_of_getElem? hy)
    have e := num_s (n := y) (by omega) (by omega)
    have s := num_size (n := y) (i64_of (by omega))
    refine ⟨?_, s⟩
    simp only [Bs_kText, Int.toNat_natCast, hy, e, Option.bind_some]
    rw [if_pos (by omega), if_pos (by omega), if_pos (by omega), wsucc (by omega)]) fun ac hac => by
    simp only [Bs_kText]
    rw [if_neg (by omega), if_pos (by simp only [sz_mk, List.size_toArray, List.length_cons, List.length_nil]; omega), wsucc (by omega)]
    rfl
   simp only [Bs_kText, Int.toNat_natCast, hx, Option.bind_some]
   rw [if_pos (by omega), if_pos (by omega)]
   simp only [goOn]
   refine Eq.trans k3 ?_
   have e : x.foldl (fun o n => o ++ itoaB n) acc ++ ⟨#[10]⟩ = acc ++ rowG x := by
    unfold rowG
    rw [foldB x acc, ByteArray.append_assoc]
   rw [e]
   exact ih (i + 1) _ (by omega) (by rw [ByteArray.size_append]; omega)
 have := k2 t.Results.length 0 c0 (by omega) (by omega)
 rw [List.drop_zero] at this
 exact this

def plcB (a : Int) : ByteArray := if a < 0 then ⟨#[45]⟩ else itoaB a
def knmB (b : Gi_Board) (k : Int) : ByteArray := match b.Rules.Kinds[k.toNat]? with
 | some x => x.Name
 | none => ⟨#[]⟩
def unitB (b : Gi_Board) (u : Gi_Unit) : ByteArray := ((((((itoaB u.Side ++ ⟨#[32]⟩) ++ knmB b u.Kind) ++ ⟨#[32]⟩) ++ plcB u.At) ++ ⟨#[32]⟩) ++ itoaB u.Steps) ++ ⟨#[10]⟩
structure UnT (b : Gi_Board) (u : Gi_Unit) : Prop where
 s : 0 ≤ u.Side ∧ u.Side ≤ 1
 k : ∃ x, b.Rules.Kinds[u.Kind.toNat]? = some x ∧ knmB b u.Kind = x.Name ∧ x.Name.size ≤ 8
 k0 : 0 ≤ u.Kind
 t : 0 ≤ u.Steps ∧ u.Steps ≤ 9
 a : -1 ≤ u.At ∧ u.At ≤ 1000
theorem unT_of {b : Gi_Board} (h : BdOk b) (hr : rlG b.Rules = true) {u : Gi_Unit} (hu : UnOk b u) : UnT b u := by
 have h1 := hu.s; have h2 := hu.k; have h3 := hu.st; have h4 := hu.a; have h5 := h.n2
 have hx : b.Rules.Kinds[u.Kind.toNat]? = some b.Rules.Kinds[u.Kind.toNat] := List.getElem?_eq_getElem (by omega)
 refine ⟨by omega, ⟨_, hx, by unfold knmB; rw [hx], ((rlT_of hr).k _ (List.mem_of_getElem? hx)).n⟩, by omega, by omega, by omega⟩
theorem plc_i {a : Int} (h : -1 ≤ a ∧ a ≤ 1000) : Di_placeText a = some (plcB a) ∧ (plcB a).size ≤ 20 := by
 unfold Di_placeText plcB
 by_cases c : a < 0
 ·rw [if_pos c, if_pos c]; exact ⟨rfl, by decide⟩
 ·rw [if_neg c, if_neg c, itoa_i (i64_of (by omega))]
  exact ⟨rfl, num_size (i64_of (by omega))⟩
theorem unitB_size {b : Gi_Board} {u : Gi_Unit} (h : UnT b u) : (unitB b u).size ≤ 80 := by
 have h1 := h.s; have h2 := h.t
 obtain ⟨x, _, k2, k3⟩ := h.k
 have s1 := num_size (n := u.Side) (i64_of (by omega))
 have s2 := num_size (n := u.Steps) (i64_of (by omega))
 have s3 := (plc_i h.a).2
 unfold unitB
 rw [k2]
 simp only [ByteArray.size_append, sz_mk, List.size_toArray, List.length_cons, List.length_nil]; omega
def stateL (b : Gi_Board) (s : Gi_State) : List UInt8 := [116, 117, 114, 110, 32] ++ Lib.itoa s.Turn ++ [32, 119, 101, 97, 116, 104, 101, 114, 32] ++ Lib.itoa s.Weather ++ [10] ++ (s.Units.map fun u => byL (unitB b u)).flatten
structure StT (b : Gi_Board) (s : Gi_State) : Prop where
 t : 0 ≤ s.Turn ∧ s.Turn ≤ 1000
 w : 0 ≤ s.Weather ∧ s.Weather ≤ 2
 n : s.Units.length ≤ 12
 u : ∀ u ∈ s.Units, UnT b u
theorem state_it {b : Gi_Board} {s : Gi_State} (h : StT b s) : Tx (Di_stateText b s) (stateL b s) 10000 := by
 have h1 := h.t; have h2 := h.w; have h3 := h.n
 obtain ⟨e1, s1⟩ := words1 (w := ⟨#[116, 117, 114, 110]⟩) (n := s.Turn) (by decide) (i64_of (by omega))
 obtain ⟨e2, s2⟩ := words1 (w := ⟨#[119, 101, 97, 116, 104, 101, 114]⟩) (n := s.Weather) (by decide) (i64_of (by omega))
 simp only [sz_mk, List.size_toArray, List.length_cons, List.length_nil] at s1 s2
 have l1 := byL_words ⟨#[116, 117, 114, 110]⟩ [s.Turn]
 have l2 := byL_words ⟨#[119, 101, 97, 116, 104, 101, 114]⟩ [s.Weather]
 unfold Tx Di_stateText
 simp only [e1, e2, Option.bind_some]
 generalize wordsB ⟨#[116, 117, 114, 110]⟩ [s.Turn] = b1 at *
 generalize wordsB ⟨#[119, 101, 97, 116, 104, 101, 114]⟩ [s.Weather] = b2 at *
 repeat rw [if_pos (by first | omega | (simp only [ByteArray.size_append, sz_mk, List.size_toArray, List.length_cons, List.length_nil]; omega))]
 generalize hb : (((b1 ++ (⟨#[32]⟩ : ByteArray)) ++ b2) ++ ⟨#[10]⟩) = b0
 have hs0 : b0.size ≤ 100 := by rw [← hb]; simp only [ByteArray.size_append, sz_mk, List.size_toArray, List.length_cons, List.length_nil]; omega
 have hl0 : byL b0 = [116, 117, 114, 110, 32] ++ Lib.itoa s.Turn ++ [32, 119, 101, 97, 116, 104, 101, 114, 32] ++ Lib.itoa s.Weather ++ [10] := by
  rw [← hb]
  simp only [byL_app, l1, l2]
  simp [byL_arr]
 have key := cat_loop (B := Bi_stateText) (S := fun acc i => .h1 acc s.Units (s.Units.length : Int) (i : Int) b) (l := s.Units) (g := unitB b) (K := 80) (a0 := b0) (fin := fun acc => some acc) (fun acc i u hx hi ha => by
  have hu := h.u u (List.mem_of_getElem? hx)
  have g1 := hu.s; have g2 := hu.t; have g3 := hu.k0
  obtain ⟨x, k1, k2, k3⟩ := hu.k
  have i1 := itoa_i (n := u.Side) (i64_of (by omega))
  have i2 := itoa_i (n := u.Steps) (i64_of (by omega))
  have t1 := num_size (n := u.Side) (i64_of (by omega))
  have t2 := num_size (n := u.Steps) (i64_of (by omega))
  obtain ⟨i3, t3⟩ := plc_i hu.a
  refine ⟨?_, unitB_size hu⟩
  simp only [Bi_stateText, Int.toNat_natCast, hx, i1, i2, i3, k1, Option.bind_some]
  unfold unitB
  rw [k2]
  rw [if_pos (by omega), if_pos (by omega), if_pos (by simp only [sz_mk, List.size_toArray, List.length_cons, List.length_nil]; omega), if_pos (by omega), if_pos (by simp only [ByteArray.size_append, sz_mk, List.size_toArray, List.length_cons, List.length_nil]; omega), if_pos (by simp only [ByteArray.size_append, sz_mk, List.size_toArray, List.length_cons, List.length_nil]; omega), if_pos (by simp only [ByteArray.size_append, sz_mk, List.size_toArray, List.length_cons, List.length_nil]; omega), if_pos (by simp only [ByteArray.size_append, sz_mk, List.size_toArray, List.length_cons, List.length_nil]; omega), if_pos (by simp only [ByteArray.size_append, sz_mk, List.size_toArray, List.length_cons, List.length_nil]; omega), if_pos (by simp only [ByteArray.size_append, sz_mk, List.size_toArray, List.length_cons, List.length_nil]; omega), if_pos (by simp only [ByteArray.size_append, sz_mk, List.size_toArray, List.length_cons, List.length_nil]; omega), wsucc (by omega)]) fun acc ha => by
  simp only [Bi_stateText]
  rw [if_neg (by omega)]
  rfl
 have hcs := cat_size (g := unitB b) (K := 80) s.Units b0 fun u hu => unitB_size (h.u u hu)
 have hcl := cat_byL (g := unitB b) s.Units b0
 exact ⟨_, key, by rw [hcl, hl0]; rfl, by omega⟩
theorem state_st {b : Gi_Board} {s : Gi_State} (h : StT b s) : Tx (Ds_sText b s) (stateL b s) 10000 := by
 have h1 := h.t; have h2 := h.w; have h3 := h.n
 have e1 := num_s (n := s.Turn) (by omega) (by omega)
 have e2 := num_s (n := s.Weather) (by omega) (by omega)
 have s1 := num_size (n := s.Turn) (i64_of (by omega))
 have s2 := num_size (n := s.Weather) (i64_of (by omega))
 unfold Tx Ds_sText
 simp only [e1, e2, Option.bind_some]
 repeat rw [if_pos (by simp only [ByteArray.size_append, sz_mk, List.size_toArray, List.length_cons, List.length_nil]; omega)]
 generalize hb : ((((⟨#[116, 117, 114, 110, 32]⟩ : ByteArray) ++ itoaB s.Turn) ++ ⟨#[32, 119, 101, 97, 116, 104, 101, 114, 32]⟩) ++ itoaB s.Weather) ++ ⟨#[10]⟩ = b0
 have hs0 : b0.size ≤ 100 := by rw [← hb]; simp only [ByteArray.size_append, sz_mk, List.size_toArray, List.length_cons, List.length_nil]; omega
 have hl0 : byL b0 = [116, 117, 114, 110, 32] ++ Lib.itoa s.Turn ++ [32, 119, 101, 97, 116, 104, 101, 114, 32] ++ Lib.itoa s.Weather ++ [10] := by
  rw [← hb]
  simp only [byL_app, byL_itoa]
  simp [byL_arr]
 have key := cat_loop (B := Bs_sText) (S := fun acc i => .h1 acc s.Units (s.Units.length : Int) (i : Int) b) (l := s.Units) (g := unitB b) (K := 80) (a0 := b0) (fin := fun acc => some acc) (fun acc i u hx hi ha => by
  have hu := h.u u (List.mem_of_getElem? hx)
  have g1 := hu.s; have g2 := hu.t; have g3 := hu.k0; have g4 := hu.a
  obtain ⟨x, k1, k2, k3⟩ := hu.k
  have i1 := num_s (n := u.Side) (by omega) (by omega)
  have i2 := num_s (n := u.Steps) (by omega) (by omega)
  have t1 := num_size (n := u.Side) (i64_of (by omega))
  have t2 := num_size (n := u.Steps) (i64_of (by omega))
  refine ⟨?_, unitB_size hu⟩
  unfold unitB plcB
  rw [k2]
  by_cases c : u.At < 0
  ·simp only [Bs_sText, Int.toNat_natCast, hx, i1, i2, k1, Option.bind_some]
   rw [if_pos c, if_pos (by omega), if_pos (by omega), if_neg (by omega), if_pos (by simp only [sz_mk, List.size_toArray, List.length_cons, List.length_nil]; omega), if_pos (by omega), if_pos (by simp only [ByteArray.size_append, sz_mk, List.size_toArray, List.length_cons, List.length_nil]; omega), if_pos (by simp only [ByteArray.size_append, sz_mk, List.size_toArray, List.length_cons, List.length_nil]; omega), if_pos (by simp only [ByteArray.size_append, sz_mk, List.size_toArray, List.length_cons, List.length_nil]; omega), if_pos (by simp only [ByteArray.size_append, sz_mk, List.size_toArray, List.length_cons, List.length_nil]; omega), if_pos (by simp only [ByteArray.size_append, sz_mk, List.size_toArray, List.length_cons, List.length_nil]; omega), if_pos (by simp only [ByteArray.size_append, sz_mk, List.size_toArray, List.length_cons, List.length_nil]; omega), if_pos (by simp only [ByteArray.size_append, sz_mk, List.size_toArray, List.length_cons, List.length_nil]; omega), wsucc (by omega)]
  ·have i3 := num_s (n := u.At) (by omega) (by omega)
   have t3 := num_size (n := u.At) (i64_of (by omega))
   simp only [Bs_sText, Int.toNat_natCast, hx, i1, i2, i3, k1, Option.bind_some]
   rw [if_neg c, if_pos (by omega), if_pos (by omega), if_pos (by omega), if_pos (by simp only [sz_mk, List.size_toArray, List.length_cons, List.length_nil]; omega), if_pos (by omega), if_pos (by simp only [ByteArray.size_append, sz_mk, List.size_toArray, List.length_cons, List.length_nil]; omega), if_pos (by simp only [ByteArray.size_append, sz_mk, List.size_toArray, List.length_cons, List.length_nil]; omega), if_pos (by simp only [ByteArray.size_append, sz_mk, List.size_toArray, List.length_cons, List.length_nil]; omega), if_pos (by simp only [ByteArray.size_append, sz_mk, List.size_toArray, List.length_cons, List.length_nil]; omega), if_pos (by simp only [ByteArray.size_append, sz_mk, List.size_toArray, List.length_cons, List.length_nil]; omega), if_pos (by simp only [ByteArray.size_append, sz_mk, List.size_toArray, List.length_cons, List.length_nil]; omega), if_pos (by simp only [ByteArray.size_append, sz_mk, List.size_toArray, List.length_cons, List.length_nil]; omega), wsucc (by omega)]) fun acc ha => by
  simp only [Bs_sText]
  rw [if_neg (by omega)]
  rfl
 have hcs := cat_size (g := unitB b) (K := 80) s.Units b0 fun u hu => unitB_size (h.u u hu)
 have hcl := cat_byL (g := unitB b) s.Units b0
 exact ⟨_, key, by rw [hcl, hl0]; rfl, by omega⟩
theorem byL_extract (b : ByteArray) (i j : Nat) : byL (b.extract i j) = ((byL b).take j).drop i := by
 unfold byL
 rw [ByteArray.data_extract, Array.toList_extract]
 simp [List.extract, List.drop_take]
theorem trim_b {b : ByteArray} {r : List UInt8} (h : byL b = 32 :: r) : ∃ c, Dstrings_TrimPrefix b ⟨#[32]⟩ = some c ∧ byL c = r ∧ ByteArray.size c ≤ ByteArray.size b := by
 have hs : ByteArray.size b = r.length + 1 := by rw [by_size, h]; rfl
 have h1 : ByteArray.size ⟨#[32]⟩ = 1 := rfl
 have he : ByteArray.extract b 0 1 = ⟨#[32]⟩ := by_ext (by rw [byL_extract, h]; rfl)
 unfold Dstrings_TrimPrefix Dinternal_stringslite_TrimPrefix Dinternal_stringslite_HasPrefix
 rw [h1, if_pos (by omega), if_pos (by omega), if_pos (by omega), show Int.toNat (((1 : Nat) : Int)) = 1 from rfl, he]
 have hb : ((⟨#[32]⟩ : ByteArray) == ⟨#[32]⟩) = true := by decide
 rw [hb, Option.bind_some, if_pos rfl, if_pos (by omega), if_pos (by omega), Option.bind_some]
 have hl : byL (ByteArray.extract b 1 (ByteArray.size b)) = r := by
  rw [byL_extract, h, List.take_of_length_le (by simp; omega)]
  rfl
 exact ⟨_, rfl, hl, by rw [by_size, hl]; omega⟩
def goalB (g : Gi_Goal) : ByteArray := ((itoaB g.At ++ ⟨#[32]⟩) ++ itoaB g.Points) ++ ⟨#[10]⟩
structure GlT (g : Gi_Goal) : Prop where
 a : 0 ≤ g.At ∧ g.At ≤ 1000
 p : 0 ≤ g.Points ∧ g.Points ≤ 1000
theorem goalB_size {g : Gi_Goal} (h : GlT g) : (goalB g).size ≤ 42 := by
 have h1 := h.a; have h2 := h.p
 have s1 := num_size (n := g.At) (i64_of (by omega))
 have s2 := num_size (n := g.Points) (i64_of (by omega))
 unfold goalB
 simp only [ByteArray.size_append, sz_mk, List.size_toArray, List.length_cons, List.length_nil]; omega
structure ScT (x : Gi_Scenario) : Prop where
 n : x.Name.size ≤ 8
 b : BdV x.Board
 r : rlG x.Board.Rules = true
 k : TbT x.Table
 s : StT x.Board x.Start
 gn : x.Conditions.Goals.length ≤ 12
 g : ∀ g ∈ x.Conditions.Goals, GlT g
 c : (0 ≤ x.Conditions.Step ∧ x.Conditions.Step ≤ 1000) ∧ (0 ≤ x.Conditions.Margin ∧ x.Conditions.Margin ≤ 1000)
 fn : x.First.length ≤ 6
 f : ∀ i ∈ x.First, 0 ≤ i ∧ i ≤ 1000000
 on : x.Other.length ≤ 6
 o : ∀ i ∈ x.Other, 0 ≤ i ∧ i ≤ 1000000
theorem scT_of {x : Gi_Scenario} (hl : ScLen x) (h : ScOk x) (hn : nmB x.Name = true) : ScT x := by
 have hV : BdV x.Board := ⟨hl.b, h.b⟩
 have hr : rlG x.Board.Rules = true := by have := h.b; unfold bdG at this; simp only [Bool.and_eq_true] at this; exact this.1.1
 have hs := h.st
 have hg := cdG_ok hV.ok h.c
 have hm := mir_mul hV.ok.d
 have hc := h.c
 simp only [cdG, Bool.and_eq_true, decide_eq_true_eq, kIn_iff] at hc
 have ha := alli_iff.1 hc.2
 have hpl : ∀ l, srG x.Board l = true → ∀ i ∈ l, 0 ≤ i ∧ i ≤ 1000000 := fun l hs i hi => by have := (h.pl hs).on i hi; omega
 have h30 := (rlG_ok hr).e
 refine ⟨?_, hV, hr, tbT_of h.k, ⟨by have := hs.t; omega, hs.w, hs.n, fun u hu => unT_of hV.ok hr (hs.u u hu)⟩, hg.n, fun g hgm => ⟨by have := hg.on g hgm; omega, ?_⟩, by omega, srG_len h.f, hpl _ h.f, srG_len h.o, hpl _ h.o⟩
 ·unfold nmB at hn
  rw [Bool.and_eq_true] at hn
  have := kIn_iff.1 hn.2
  omega
 ·obtain ⟨i, hi⟩ := List.getElem?_of_mem hgm
  have := ha i g hi
  simp only [glP, Bool.and_eq_true, kIn_iff] at this
  omega
def scenL (x : Gi_Scenario) : List UInt8 := [115, 99, 101, 110, 97, 114, 105, 111, 32] ++ byL x.Name ++ [10] ++ (rulesL x.Board.Rules ++ mapL x.Board.Map) ++ byL (tabB x.Table) ++ stateL x.Board x.Start ++ [103, 111, 97, 108, 115, 32] ++ Lib.itoa x.Conditions.Step ++ [32] ++ Lib.itoa x.Conditions.Margin ++ [10] ++ (x.Conditions.Goals.map fun g => byL (goalB g)).flatten ++ ([102, 105, 114, 115, 116] ++ numsL x.First ++ [10]) ++ ([111, 116, 104, 101, 114] ++ numsL x.Other ++ [10])
theorem scen_i {x : Gi_Scenario} (h : ScT x) : Tx (Di_scenarioText x) (scenL x) 1000000000 := by
 have h1 := h.n; have h2 := h.gn; have h3 := h.c; have h4 := h.fn; have h5 := h.on
 obtain ⟨bb, b1, b2, b3⟩ := board_it h.b h.r
 obtain ⟨t1, t2⟩ := tab_it h.k
 obtain ⟨bs, s1, s2, s3⟩ := state_it h.s
 obtain ⟨bf, f1, f2, f3⟩ := wlist_i (w := ⟨#[102, 105, 114, 115, 116]⟩) (l := x.First) (by decide) (by omega) h.f
 obtain ⟨bo, o1, o2, o3⟩ := wlist_i (w := ⟨#[111, 116, 104, 101, 114]⟩) (l := x.Other) (by decide) (by omega) h.o
 have hsm : ∀ y ∈ [x.Conditions.Step, x.Conditions.Margin], 0 ≤ y ∧ y ≤ 1000000 := fun y hy => by
  simp only [List.mem_cons, List.not_mem_nil, or_false] at hy
  rcases hy with rfl | rfl <;> omega
 obtain ⟨bg, g1, g2, g3⟩ := wlist_i (w := ⟨#[103, 111, 97, 108, 115]⟩) (l := [x.Conditions.Step, x.Conditions.Margin]) (by decide) (by simp) hsm
 simp only [sz_mk, List.size_toArray, List.length_cons, List.length_nil] at f3 o3 g3
 unfold Tx Di_scenarioText
 simp only [b1, t1, s1, g1, Option.bind_some]
 generalize hbt : tabB x.Table = bt at *
 repeat rw [if_pos (by first | omega | (simp only [ByteArray.size_append, sz_mk, List.size_toArray, List.length_cons, List.length_nil]; omega))]
 generalize hb : ((((((⟨#[115, 99, 101, 110, 97, 114, 105, 111, 32]⟩ : ByteArray) ++ x.Name) ++ ⟨#[10]⟩) ++ bb) ++ bt) ++ bs) ++ (bg ++ ⟨#[10]⟩) = b0
 have hs0 : b0.size ≤ 300000000 := by rw [← hb]; simp only [ByteArray.size_append, sz_mk, List.size_toArray, List.length_cons, List.length_nil]; omega
 have hl0 : byL b0 = [115, 99, 101, 110, 97, 114, 105, 111, 32] ++ byL x.Name ++ [10] ++ (rulesL x.Board.Rules ++ mapL x.Board.Map) ++ byL bt ++ stateL x.Board x.Start ++ [103, 111, 97, 108, 115, 32] ++ Lib.itoa x.Conditions.Step ++ [32] ++ Lib.itoa x.Conditions.Margin ++ [10] := by
  rw [← hb]
  simp only [byL_app, b2, s2, g2, numsL]
  simp [byL_arr]
 have key := cat_loop (B := Bi_scenarioText) (S := fun acc i => .h1 acc x.Conditions.Goals (x.Conditions.Goals.length : Int) (i : Int) x) (l := x.Conditions.Goals) (g := goalB) (K := 42) (a0 := b0) (fin := fun acc => some ((((acc ++ bf) ++ ⟨#[10]⟩) ++ bo) ++ ⟨#[10]⟩)) (fun acc i g hx hi ha => by
  have hg := h.g g (List.mem_of_getElem? hx)
  have k1 := hg.a; have k2 := hg.p
  have hap : ∀ y ∈ [g.At, g.Points], 0 ≤ y ∧ y ≤ 1000000 := fun y hy => by
   simp only [List.mem_cons, List.not_mem_nil, or_false] at hy
   rcases hy with rfl | rfl <;> omega
  obtain ⟨bw, w1, w2, w3⟩ := wlist_i (w := ⟨#[]⟩) (l := [g.At, g.Points]) (by decide) (by simp) hap
  simp only [sz_mk, List.size_toArray, List.length_cons, List.length_nil] at w3
  obtain ⟨bc, c1, c2, c3⟩ := trim_b (b := bw) (r := Lib.itoa g.At ++ 32 :: Lib.itoa g.Points) (by rw [w2]; simp [numsL, byL_arr])
  have hq : bc ++ ⟨#[10]⟩ = goalB g := by
   unfold goalB
   refine by_ext ?_
   simp only [byL_app, c2, byL_itoa]
   simp [byL_arr]
  refine ⟨?_, goalB_size hg⟩
  simp only [Bi_scenarioText, Int.toNat_natCast, hx, w1, c1, Option.bind_some]
  rw [if_pos (by omega), if_pos (by omega), if_pos (by simp only [sz_mk, List.size_toArray, List.length_cons, List.length_nil]; omega), if_pos (by simp only [ByteArray.size_append, sz_mk, List.size_toArray, List.length_cons, List.length_nil]; omega), wsucc (by omega), hq]) fun acc ha => by
  simp only [Bi_scenarioText, f1, o1, Option.bind_some]
  rw [if_neg (by omega)]
  repeat rw [if_pos (by first | omega | (simp only [ByteArray.size_append, sz_mk, List.size_toArray, List.length_cons, List.length_nil]; omega))]
  rfl
 have hcs := cat_size (g := goalB) (K := 42) x.Conditions.Goals b0 fun g hg => goalB_size (h.g g hg)
 have hcl := cat_byL (g := goalB) x.Conditions.Goals b0
 refine ⟨_, key, ?_, by simp only [ByteArray.size_append, sz_mk, List.size_toArray, List.length_cons, List.length_nil]; omega⟩
 simp only [byL_app, hcl, hl0, f2, o2]
 unfold scenL
 rw [hbt]
 simp [byL_arr]
theorem scen_s {x : Gi_Scenario} (h : ScT x) : Tx (Ds_snText x) (scenL x) 1000000000 := by
 have h1 := h.n; have h2 := h.gn; have h3 := h.c; have h4 := h.fn; have h5 := h.on
 obtain ⟨bb, b1, b2, b3⟩ := board_st h.b h.r
 obtain ⟨t1, t2⟩ := tab_st h.k
 obtain ⟨bs, s1, s2, s3⟩ := state_st h.s
 obtain ⟨bf, f1, f2, f3⟩ := mlist_s (w := ⟨#[102, 105, 114, 115, 116]⟩) (l := x.First) (by decide) (by omega) h.f
 obtain ⟨bo, o1, o2, o3⟩ := mlist_s (w := ⟨#[111, 116, 104, 101, 114]⟩) (l := x.Other) (by decide) (by omega) h.o
 have e1 := num_s (n := x.Conditions.Step) (by omega) (by omega)
 have e2 := num_s (n := x.Conditions.Margin) (by omega) (by omega)
 have q1 := num_size (n := x.Conditions.Step) (i64_of (by omega))
 have q2 := num_size (n := x.Conditions.Margin) (i64_of (by omega))
 simp only [sz_mk, List.size_toArray, List.length_cons, List.length_nil] at f3 o3
 unfold Tx Ds_snText
 simp only [b1, t1, s1, e1, e2, Option.bind_some]
 generalize hbt : tabB x.Table = bt at *
 repeat rw [if_pos (by first | omega | (simp only [ByteArray.size_append, sz_mk, List.size_toArray, List.length_cons, List.length_nil]; omega))]
 generalize hb : (((((((⟨#[115, 99, 101, 110, 97, 114, 105, 111, 32]⟩ : ByteArray) ++ x.Name) ++ ⟨#[10]⟩) ++ bb) ++ bt) ++ bs) ++ ((((⟨#[103, 111, 97, 108, 115, 32]⟩ ++ itoaB x.Conditions.Step) ++ ⟨#[32]⟩) ++ itoaB x.Conditions.Margin) ++ ⟨#[10]⟩)) = b0
 have hs0 : b0.size ≤ 300000000 := by rw [← hb]; simp only [ByteArray.size_append, sz_mk, List.size_toArray, List.length_cons, List.length_nil]; omega
 have hl0 : byL b0 = [115, 99, 101, 110, 97, 114, 105, 111, 32] ++ byL x.Name ++ [10] ++ (rulesL x.Board.Rules ++ mapL x.Board.Map) ++ byL bt ++ stateL x.Board x.Start ++ [103, 111, 97, 108, 115, 32] ++ Lib.itoa x.Conditions.Step ++ [32] ++ Lib.itoa x.Conditions.Margin ++ [10] := by
  rw [← hb]
  simp only [byL_app, b2, s2, byL_itoa]
  simp [byL_arr]
 have key := cat_loop (B := Bs_snText) (S := fun acc i => .h1 acc x.Conditions.Goals (x.Conditions.Goals.length : Int) (i : Int) x) (l := x.Conditions.Goals) (g := goalB) (K := 42) (a0 := b0) (fin := fun acc => some ((acc ++ bf) ++ bo)) (fun acc i g hx hi ha => by
  have hg := h.g g (List.mem_of_getElem? hx)
  have k1 := hg.a; have k2 := hg.p
  have i1 := num_s (n := g.At) (by omega) (by omega)
  have i2 := num_s (n := g.Points) (by omega) (by omega)
  have u1 := num_size (n := g.At) (i64_of (by omega))
  have u2 := num_size (n := g.Points) (i64_of (by omega))
  refine ⟨?_, goalB_size hg⟩
  simp only [Bs_snText, Int.toNat_natCast, hx, i1, i2, Option.bind_some]
  rw [if_pos (by omega), if_pos (by omega), if_pos (by simp only [sz_mk, List.size_toArray, List.length_cons, List.length_nil]; omega), if_pos (by simp only [ByteArray.size_append, sz_mk, List.size_toArray, List.length_cons, List.length_nil]; omega), if_pos (by simp only [ByteArray.size_append, sz_mk, List.size_toArray, List.length_cons, List.length_nil]; omega), if_pos (by simp only [ByteArray.size_append, sz_mk, List.size_toArray, List.length_cons, List.length_nil]; omega), wsucc (by omega)]
  rfl) fun acc ha => by
  simp only [Bs_snText, f1, o1, Option.bind_some]
  rw [if_neg (by omega)]
  repeat rw [if_pos (by first | omega | (simp only [ByteArray.size_append, sz_mk, List.size_toArray, List.length_cons, List.length_nil]; omega))]
  rfl
 have hcs := cat_size (g := goalB) (K := 42) x.Conditions.Goals b0 fun g hg => goalB_size (h.g g hg)
 have hcl := cat_byL (g := goalB) x.Conditions.Goals b0
 refine ⟨_, key, ?_, by simp only [ByteArray.size_append, sz_mk, List.size_toArray, List.length_cons, List.length_nil]; omega⟩
 simp only [byL_app, hcl, hl0, f2, o2]
 unfold scenL
 rw [hbt]
 simp [byL_arr]
theorem scF_nm {x : Gi_Scenario} (h : scF x = 0) : nmB x.Name = true := by
 unfold scF at h
 split at h
 ·assumption
 ·omega
theorem stx_both {x : Gi_Scenario} (h : ScLen x) : ∃ r, Di_ScenarioText x = some r ∧ Ds_ScenarioText x = some r := by
 unfold Di_ScenarioText Ds_ScenarioText
 rw [isSc_i h, snGood_s h, Option.bind_some, Option.bind_some]
 by_cases c : scF x = 0
 ·have hT := scT_of h (scF_ok c) (scF_nm c)
  obtain ⟨b, e1, e2, _⟩ := (scen_i hT).both (scen_s hT)
  rw [if_pos (decide_eq_true c), if_pos (decide_eq_true c), e1, e2]
  exact ⟨_, rfl, rfl⟩
 ·rw [if_neg (by simpa using c), if_neg (by simpa using c)]
  exact ⟨_, rfl, rfl⟩

theorem lawScenarioText (a0 : Gw_Scenario) (hwa0 : Wf_Scenario a0) : Dw_FnExactScenarioText a0 = some true := Ok.isTrue <| by
 unfold Dw_FnExactScenarioText
 refine Ok.bind (sz_Scenario hwa0 (left := 1048576) ⟨by omega, by omega⟩) fun r1 zr1 => Ok.ite (fun _ => Ok.ret rfl) fun cr1 => ?_
 replace zr1 := zr1.resolve_left cr1
 have hsa0 := zr1.2
 have hia0 := szi_Scenario hsa0
 obtain ⟨r, e1, e2⟩ := stx_both (si_ScLen hia0)
 refine Ok.eq (to_Scenario hsa0) ?_
 refine Ok.eq e2 ?_
 refine Ok.eq (to_Scenario hsa0) ?_
 refine Ok.eq e1 ?_
 refine Ok.chk rfl ?_
 refine Ok.els (by simp) ?_
 refine Ok.eq (to_Scenario hsa0) ?_
 refine Ok.eq (eq_Scenario hia0) ?_
 exact Ok.chk rfl (Ok.ret rfl)

end Go.Proofs.YtogomlkoocbhcaaGreatDoor.Ab
