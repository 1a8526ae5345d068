/-
  IsMailbox: what its functions give (the second half).
-/
import Derived.Test.YtipolkdlaepcaaaS5
set_option linter.unusedVariables false
set_option linter.unusedSimpArgs false
open Go Go.Proofs
namespace Go.Proofs.Ytipolkdlaepcaaa.Ab

theorem w12 (l : List G46) (hl : l.length ≤ 1048576) : ∀ (k i : Nat), i + k = l.length → (∀ p, prev l i = some p → okM p = true) →
    Wc X 12 0 k12_1 (s12_1 l l (List.length l : Int) (i : Int)) [.bool (good (prev l i) (l.drop i))] []
  | 0, i, hik, _ => by
    have h := p12_1_7 l l (List.length l : Int) (i : Int) (by omega)
    rw [List.drop_of_length_le (by omega)]
    simpa [good] using h
  | k + 1, i, hik, hp => by
    have hlt : i < l.length := by omega
    have hx : l[(i : Int).toNat]? = some l[i] := by simp
    have hx' : l[i]? = some l[i] := by simp
    rw [good_at hx']
    have ht := r31 l[i].Turn
    have hs := r32 l[i].Side
    have hd := r33 l[i].Seal
    have hi : ((i : Int)) < (List.length l : Int) := by omega
    by_cases h1 : inr l[i].Turn 0 30 = true
    · rw [h1] at ht
      by_cases h2 : inr l[i].Side 0 1 = true
      · rw [h2] at hs
        by_cases h3 : inr l[i].Seal 0 4611686016279904236 = true
        · rw [h3] at hd
          have hok : okM l[i] = true := by simp [okM, h1, h2, h3]
          have hnext := w12 l hl k (i + 1) (by omega) (fun p h => by
            simp only [prev, Nat.add_sub_cancel, hx'] at h
            simp at h
            rw [← h]
            exact hok)
          have hw : IntKind.wrap .i64 ((i : Int) + 1) = ((i + 1 : Nat) : Int) := by rw [wr _ (by omega)]; omega
          by_cases h0 : i = 0
          · have := p12_1_3 (res := [.bool (good (prev l (i + 1)) (l.drop (i + 1)))]) (G' := []) l l (List.length l : Int) (i : Int) hi l[i] hx (by omega) ht hs hd (by omega) (by rw [hw]; exact hnext)
            have hpv : prev l i = none := by simp [prev, h0]
            rw [hpv, hok]
            simpa using this
          · have hm : IntKind.wrap .i64 ((i : Int) - 1) = ((i - 1 : Nat) : Int) := by rw [wr _ (by omega)]; omega
            have hpx : l[(IntKind.wrap .i64 ((i : Int) - 1)).toNat]? = some l[i - 1] := by rw [hm]; simp
            have hpv : prev l i = some l[i - 1] := by simp [prev, h0]
            have hokp := hp _ hpv
            have hc := r34 l[i - 1] l[i]
            have hcw := cmp_w hokp hok
            rw [hpv, hok]
            by_cases hlt2 : key l[i - 1] < key l[i]
            · have := p12_1_2 (res := [.bool (good (prev l (i + 1)) (l.drop (i + 1)))]) (G' := []) l l (List.length l : Int) (i : Int) hi l[i] hx (by omega) ht hs hd (by omega) l[i - 1] hpx (by rw [hm]; omega) _ hc (by omega) (by rw [hw]; exact hnext)
              simpa [hlt2] using this
            · have := p12_1_1 l l (List.length l : Int) (i : Int) hi l[i] hx (by omega) ht hs hd (by omega) l[i - 1] hpx (by rw [hm]; omega) _ hc (by omega)
              simpa [hlt2] using this
        · rw [show inr l[i].Seal 0 4611686016279904236 = false by simpa using h3] at hd
          have := p12_1_4 l l (List.length l : Int) (i : Int) hi l[i] hx (by omega) ht hs hd
          simpa [okM, h3] using this
      · rw [show inr l[i].Side 0 1 = false by simpa using h2] at hs
        have := p12_1_5 l l (List.length l : Int) (i : Int) hi l[i] hx (by omega) ht hs
        simpa [okM, h2] using this
    · rw [show inr l[i].Turn 0 30 = false by simpa using h1] at ht
      have := p12_1_6 l l (List.length l : Int) (i : Int) hi l[i] hx (by omega) ht
      simpa [okM, h1] using this

theorem r12 (l : List G46) (hl : l.length ≤ 1048576) : Ct X.P X.gl 12 [sl 3 g46 l] [] [.bool (isMb l)] [] := by
  refine c12 _ ?_
  unfold isMb
  by_cases h : (List.length l : Int) > 20
  · have := p12e_1 l h
    rw [show decide ((List.length l : Int) ≤ 20) = false from decide_eq_false (by omega), Bool.and_false]
    exact this
  · have := p12e_2 (res := [.bool (good none l)]) (G' := []) l h (by simpa [prev] using w12 l hl l.length 0 (by omega) (fun p h => by simp [prev] at h))
    rw [show decide ((List.length l : Int) ≤ 20) = true from decide_eq_true (by omega), Bool.and_true]
    exact this

def toM (x : G48) : G46 := ⟨x.Turn, x.Side, x.Seal⟩

theorem w11 (l : List G48) (hl : l.length ≤ 1048576) : ∀ (k i : Nat), i + k = l.length →
    Wc X 11 0 k11_1 (s11_1 l (i : Int) ((l.take i).map toM ++ List.replicate k ⟨0, 0, 0⟩)) [ow 3 g46 (l.map toM)] []
  | 0, i, hik => by
    have h := p11_1_2 l (i : Int) (l.map toM) (by omega)
    simpa [show List.take i l = l from List.take_of_length_le (by omega)] using h
  | k + 1, i, hik => by
    have hlt : i < l.length := by omega
    have hw : IntKind.wrap .i64 ((i : Int) + 1) = ((i + 1 : Nat) : Int) := by rw [wr _ (by omega)]; omega
    have hlen : ((l.take i).map toM).length = i := by simp; omega
    refine p11_1_1 l (i : Int) _ (by omega) l[i] (by simp) (by omega) (toM l[i]) (r30 _) ⟨0, 0, 0⟩ ?_ (by omega) ?_
    · rw [Int.toNat_natCast, List.getElem?_append_right (by omega), hlen]
      simp
    · rw [hw]
      have := w11 l hl k (i + 1) (by omega)
      have e : List.set ((l.take i).map toM ++ List.replicate (k + 1) ⟨0, 0, 0⟩) (Int.toNat (i : Int)) (toM l[i]) = (l.take (i + 1)).map toM ++ List.replicate k ⟨0, 0, 0⟩ := by
        rw [Int.toNat_natCast, List.set_append_right _ _ (by omega), hlen, Nat.sub_self, List.replicate_succ, List.set_cons_zero, List.take_add_one, List.getElem?_eq_getElem hlt, List.map_append]
        simp only [Option.toList_some, List.map_cons, List.map_nil, List.append_assoc, List.cons_append, List.nil_append]
      rw [e]
      exact this

theorem r11 (l : List G48) (hl : l.length ≤ 1048576) : Ct X.P X.gl 11 [sl 3 g48 l] [] [ow 3 g46 (l.map toM)] [] :=
  c11 _ (p11e_1 _ (by simp; omega) (by simpa using w11 l hl l.length 0 (by omega)))

theorem w13 (l : List G46) (hl : l.length ≤ 1048576) : ∀ (k i : Nat), i + k = l.length → Wc X 13 0 k13_1 (s13_1 l l (i : Int)) [.bool true] []
  | 0, i, hik => p13_1_3 l l (i : Int) (by omega)
  | k + 1, i, hik => by
    have hw : IntKind.wrap .i64 ((i : Int) + 1) = ((i + 1 : Nat) : Int) := by rw [wr _ (by omega)]; omega
    refine p13_1_1 l l (i : Int) (by omega) (l[i]'(by omega)) (by simp) (by omega) (l[i]'(by omega)) (by simp) (by omega) (r35 _) ?_
    rw [hw]
    exact w13 l hl k (i + 1) (by omega)

theorem r13 (l : List G46) (hl : l.length ≤ 1048576) : Ct X.P X.gl 13 [sl 3 g46 l, sl 3 g46 l] [] [.bool true] [] :=
  c13 _ _ (p13e_2 _ _ rfl (w13 l hl l.length 0 (by omega)))

/-- The law. -/
theorem r3 (l : List G48) (hl : l.length < 9223372036854775808) : Ct X.P X.gl 3 [sl 3 g48 l] [] [.bool true] [] := by
  refine c3 _ ?_
  by_cases h : l.length ≤ 1048576
  · have h1 : ¬ ((1048576 : Int) - (List.length l : Int)) < 0 := by omega
    have hw : IntKind.wrap .i64 ((1048576 : Int) - (List.length l : Int)) = (1048576 : Int) - (List.length l : Int) := wr _ (by omega)
    have h9 := c9 _ _ (p9e_2 l 1048576 (by rw [hw]; omega))
    have hm : (l.map toM).length ≤ 1048576 := by simpa using h
    refine p3e_3 l _ h9 (by rw [hw]; omega) (l.map toM) (r11 l h) (isMb (l.map toM)) (r10 _ hm) (l.map toM) (r11 l h) (isMb (l.map toM)) (r12 _ hm) (by simp) (l.map toM) (r11 l h) (r13 _ hm)
  · have hw : IntKind.wrap .i64 ((1048576 : Int) - (List.length l : Int)) = (1048576 : Int) - (List.length l : Int) := wr _ (by omega)
    have h9 := c9 _ _ (p9e_1 l 1048576 (by rw [hw]; omega))
    exact p3e_1 l _ h9 (by omega)

end Go.Proofs.Ytipolkdlaepcaaa.Ab
