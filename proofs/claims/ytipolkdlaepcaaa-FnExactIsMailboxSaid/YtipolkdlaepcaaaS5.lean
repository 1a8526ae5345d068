/-
  IsMailbox: what its functions give.
-/
import Derived.Test.YtipolkdlaepcaaaT5
import Derived.IntWalk
set_option linter.unusedVariables false
set_option linter.unusedSimpArgs false
open Go Go.Proofs
namespace Go.Proofs.Ytipolkdlaepcaaa.Ab

def inr (n a b : Int) : Bool := decide (a ≤ n) && decide (n ≤ b)

theorem wr (n : Int) (h : -9223372036854775808 ≤ n ∧ n ≤ 9223372036854775807) : IntKind.wrap .i64 n = n := Go.IntWalk.i64_in n h

theorem r38 (n a b : Int) : Ct X.P X.gl 38 [.int .i64 n, .int .i64 a, .int .i64 b] [] [.bool (inr n a b)] [] := by
  refine c38 _ _ _ ?_
  unfold inr
  by_cases h : a ≤ n
  · simpa [h] using p38e_1 n a b h
  · simpa [h] using p38e_2 n a b h
theorem r51 (n a b : Int) : Ct X.P X.gl 51 [.int .i64 n, .int .i64 a, .int .i64 b] [] [.bool (inr n a b)] [] := by
  refine c51 _ _ _ ?_
  unfold inr
  by_cases h : a ≤ n
  · simpa [h] using p51e_1 n a b h
  · simpa [h] using p51e_2 n a b h
theorem r31 (n : Int) : Ct X.P X.gl 31 [.int .i64 n] [] [.bool (inr n 0 30)] [] := c31 _ (p31e_1 _ _ (r38 _ _ _))
theorem r32 (n : Int) : Ct X.P X.gl 32 [.int .i64 n] [] [.bool (inr n 0 1)] [] := c32 _ (p32e_1 _ _ (r38 _ _ _))
theorem r33 (n : Int) : Ct X.P X.gl 33 [.int .i64 n] [] [.bool (inr n 0 4611686016279904236)] [] := c33 _ (p33e_1 _ _ (r38 _ _ _))
theorem r48 (n : Int) : Ct X.P X.gl 48 [.int .i64 n] [] [.bool (inr n 0 4611686016279904236)] [] := c48 _ (p48e_1 _ _ (r51 _ _ _))
theorem r52 (x : G46) : Ct X.P X.gl 52 [.agg [.int .i64 x.Turn, .int .i64 x.Side, .int .i64 x.Seal]] [] [.int .i64 (IntKind.wrap .i64 ((IntKind.wrap .i64 (2 * x.Turn)) + x.Side))] [] := c52 _ (p52e_1 _)
def cmpM (x y : G46) : Int := if x.Turn = y.Turn then IntKind.wrap .i64 (x.Side - y.Side) else IntKind.wrap .i64 (x.Turn - y.Turn)
theorem r34 (x y : G46) : Ct X.P X.gl 34 [.agg [.int .i64 x.Turn, .int .i64 x.Side, .int .i64 x.Seal], .agg [.int .i64 y.Turn, .int .i64 y.Side, .int .i64 y.Seal]] [] [.int .i64 (cmpM x y)] [] := by
  refine c34 _ _ ?_
  unfold cmpM
  by_cases h : x.Turn = y.Turn
  · rw [if_pos h]; exact p34e_2 x y h
  · rw [if_neg h]; exact p34e_1 x y h
theorem r30 (x : G48) : Ct X.P X.gl 30 [.agg [.int .i64 x.Turn, .int .i64 x.Side, .int .i64 x.Seal]] [] [.agg [.int .i64 x.Turn, .int .i64 x.Side, .int .i64 x.Seal]] [] := c30 _ (p30e_1 _)
theorem r35 (x : G46) : Ct X.P X.gl 35 [.agg [.int .i64 x.Turn, .int .i64 x.Side, .int .i64 x.Seal], .agg [.int .i64 x.Turn, .int .i64 x.Side, .int .i64 x.Seal]] [] [.bool true] [] := c35 _ _ (p35e_4 x x rfl rfl rfl)

def okM (x : G46) : Bool := inr x.Turn 0 30 && inr x.Side 0 1 && inr x.Seal 0 4611686016279904236
def key (x : G46) : Int := 2 * x.Turn + x.Side
/-- From here on, behind p. -/
def good : Option G46 → List G46 → Bool
  | _, [] => true
  | p, x :: r => okM x && (match p with | none => true | some p => decide (key p < key x)) && good (some x) r

theorem okM_lim {x : G46} (h : okM x = true) : 0 ≤ x.Turn ∧ x.Turn ≤ 30 ∧ 0 ≤ x.Side ∧ x.Side ≤ 1 := by
  simp [okM, inr] at h
  omega

theorem key_w {x : G46} (h : okM x = true) : IntKind.wrap .i64 ((IntKind.wrap .i64 (2 * x.Turn)) + x.Side) = key x := by
  have := okM_lim h
  rw [wr (2 * x.Turn) (by omega), wr _ (by omega)]
  rfl

theorem cmp_w {x y : G46} (h : okM x = true) (h' : okM y = true) : (0 ≤ cmpM x y) ↔ ¬ key x < key y := by
  have h1 := okM_lim h
  have h2 := okM_lim h'
  unfold cmpM key
  split
  · rw [wr _ (by omega)]; omega
  · rw [wr _ (by omega)]; omega

/-- The one ahead of place i. -/
def prev (l : List G46) (i : Nat) : Option G46 := if i = 0 then none else l[i - 1]?

theorem good_at {l : List G46} {i : Nat} {x : G46} (hx : l[i]? = some x) : good (prev l i) (l.drop i) = (okM x && (match prev l i with | none => true | some p => decide (key p < key x)) && good (prev l (i + 1)) (l.drop (i + 1))) := by
  have hlt : i < l.length := lt_of_at hx
  rw [List.drop_eq_getElem_cons hlt]
  have he : l[i] = x := (List.getElem?_eq_some_iff.1 hx).2
  rw [he]
  simp only [good, prev, Nat.add_sub_cancel, hx]
  simp

theorem w29 (l : List G46) (hl : l.length ≤ 1048576) : ∀ (k i : Nat), i + k = l.length → (∀ p, prev l i = some p → okM p = true) →
    Wc X 29 0 k29_1 (s29_1 l l (List.length l : Int) (i : Int)) [.bool (good (prev l i) (l.drop i) && decide ((List.length l : Int) ≤ 20))] []
  | 0, i, hik, _ => by
    have h := p29_1_7 l l (List.length l : Int) (i : Int) (by omega)
    rw [List.drop_of_length_le (by omega)]
    simpa [good] using h
  | k + 1, i, hik, hp => by
    have hlt : i < l.length := by omega
    have hx : l[(i : Int).toNat]? = some l[i] := by simp
    have hx' : l[i]? = some l[i] := by simp
    rw [good_at hx']
    have ht := r51 l[i].Turn 0 30
    have hs := r51 l[i].Side 0 1
    have hd := r48 l[i].Seal
    have hi : ((i : Int)) < (List.length l : Int) := by omega
    by_cases h1 : inr l[i].Turn 0 30 = true
    · rw [h1] at ht
      by_cases h2 : inr l[i].Side 0 1 = true
      · rw [h2] at hs
        by_cases h3 : inr l[i].Seal 0 4611686016279904236 = true
        · rw [h3] at hd
          have hok : okM l[i] = true := by simp [okM, h1, h2, h3]
          have hnext := w29 l hl k (i + 1) (by omega) (fun p h => by
            simp only [prev, Nat.add_sub_cancel, hx'] at h
            simp at h
            rw [← h]
            exact hok)
          have hw : IntKind.wrap .i64 ((i : Int) + 1) = ((i + 1 : Nat) : Int) := by rw [wr _ (by omega)]; omega
          by_cases h0 : i = 0
          · have := p29_1_3 (res := [.bool (good (prev l (i + 1)) (l.drop (i + 1)) && decide ((List.length l : Int) ≤ 20))]) (G' := []) l l (List.length l : Int) (i : Int) hi l[i] hx (by omega) ht hs hd (by omega) (by rw [hw]; exact hnext)
            have hpv : prev l i = none := by simp [prev, h0]
            rw [hpv, hok]
            simpa using this
          · have hm : IntKind.wrap .i64 ((i : Int) - 1) = ((i - 1 : Nat) : Int) := by rw [wr _ (by omega)]; omega
            have hpx : l[(IntKind.wrap .i64 ((i : Int) - 1)).toNat]? = some l[i - 1] := by rw [hm]; simp
            have hpv : prev l i = some l[i - 1] := by simp [prev, h0]
            have hokp := hp _ hpv
            have hka := r52 l[i - 1]
            have hkb := r52 l[i]
            rw [key_w hokp] at hka
            rw [key_w hok] at hkb
            rw [hpv, hok]
            by_cases hlt2 : key l[i - 1] < key l[i]
            · have := p29_1_2 (res := [.bool (good (prev l (i + 1)) (l.drop (i + 1)) && decide ((List.length l : Int) ≤ 20))]) (G' := []) l l (List.length l : Int) (i : Int) hi l[i] hx (by omega) ht hs hd (by omega) l[i - 1] hpx (by rw [hm]; omega) _ hka _ hkb (by omega) (by rw [hw]; exact hnext)
              simpa [hlt2] using this
            · have := p29_1_1 l l (List.length l : Int) (i : Int) hi l[i] hx (by omega) ht hs hd (by omega) l[i - 1] hpx (by rw [hm]; omega) _ hka _ hkb (by omega)
              simpa [hlt2] using this
        · rw [show inr l[i].Seal 0 4611686016279904236 = false by simpa using h3] at hd
          have := p29_1_4 l l (List.length l : Int) (i : Int) hi l[i] hx (by omega) ht hs hd
          simpa [okM, h3] using this
      · rw [show inr l[i].Side 0 1 = false by simpa using h2] at hs
        have := p29_1_5 l l (List.length l : Int) (i : Int) hi l[i] hx (by omega) ht hs
        simpa [okM, h2] using this
    · rw [show inr l[i].Turn 0 30 = false by simpa using h1] at ht
      have := p29_1_6 l l (List.length l : Int) (i : Int) hi l[i] hx (by omega) ht
      simpa [okM, h1] using this

def isMb (l : List G46) : Bool := good none l && decide ((List.length l : Int) ≤ 20)

theorem r10 (l : List G46) (hl : l.length ≤ 1048576) : Ct X.P X.gl 10 [sl 3 g46 l] [] [.bool (isMb l)] [] :=
  c10 _ (p10e_1 _ _ (c29 _ (p29e_1 _ (by simpa [prev, isMb] using w29 l hl l.length 0 (by omega) (fun p h => by simp [prev] at h)))))

end Go.Proofs.Ytipolkdlaepcaaa.Ab
