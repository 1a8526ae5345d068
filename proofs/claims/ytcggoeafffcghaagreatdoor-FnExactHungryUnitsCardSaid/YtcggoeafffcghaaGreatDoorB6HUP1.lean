/- Part of the proof of FnExactHungryUnitsCard: no condition of its own. -/
import Derived.Test.YtcggoeafffcghaaGreatDoorB6HUP
set_option linter.unusedVariables false
set_option linter.unusedSimpArgs false
open Go
namespace Go.Proofs.YtcggoeafffcghaaGreatDoor.Ab
theorem of_s {s : Gi_State} (h : s.Units.length ≤ 2000000) (side : Int) : Ds_sOf s side = some (ofL s.Units side) := by
  unfold Ds_sOf ofL
  refine fm_goL (L := loop Bs_sOf) (S := fun i acc => .h1 side s.Units (s.Units.length : Int) (i : Int) acc) (r := some) (fun i acc hi ha => ?_) fun acc ha => ?_
  · have hx : s.Units[i]? = some s.Units[i] := List.getElem?_eq_getElem hi
    rw [loop_eq]
    simp only [Bs_sOf, ltc hi, nnc, if_true, Int.toNat_natCast, hx, Option.bind_some, if8 (show acc.length ≤ 3000000 by omega), wsucc (show i < 9223372036854775807 by omega), ge_iff_le]
    by_cases c1 : s.Units[i].Side = side
    · by_cases c2 : 0 ≤ s.Units[i].At
      · simp [c1, c2, goOn]
      · simp [c1, c2, goOn]
    · simp [c1, goOn]
  · rw [loop_eq]
    simp only [Bs_sOf, nltc, if_false, goOn]
theorem fil_goL {σ α ρ : Type} {L : σ → Option ρ} {S : Nat → List α → σ} {l : List α} {p : α → Bool} {r : List α → Option ρ}
    (hs : ∀ i x acc, l[i]? = some x → i < l.length → acc.length ≤ i → L (S i acc) = L (S (i + 1) (if p x = true then acc ++ [x] else acc))) (he : ∀ acc, acc.length ≤ l.length → L (S l.length acc) = r acc) : L (S 0 []) = r (l.filter p) := by
  have key : ∀ (k i : Nat) acc, i + k = l.length → acc.length ≤ i → L (S i acc) = r (acc ++ (l.drop i).filter p) := by
    intro k
    induction k with
    | zero =>
      intro i acc h hl
      have : i = l.length := by omega
      subst this
      rw [he acc hl, List.drop_length]
      simp
    | succ k ih =>
      intro i acc h hl
      have hx : l[i]? = some l[i] := List.getElem?_eq_getElem (by omega)
      rw [hs i _ acc hx (by omega) hl, List.drop_eq_getElem_cons (by omega), List.filter_cons]
      cases p l[i] with
      | false => exact ih (i + 1) acc (by omega) (by omega)
      | true =>
        simp only [if_true]
        rw [ih (i + 1) _ (by omega) (by simp; omega)]
        simp
  simpa using key l.length 0 [] (by omega) (by simp)
def hgB (x : Gi_Scenario) (side k : Int) : Bool := match x.Start.Units[k.toNat]? with
  | some u => decide (wayU x.Board x.Start.Units u (srcOf' x side) < 0)
  | none => false
def hgR (x : Gi_Scenario) (side : Int) : List Int × Bool := if (decide (scF x = 0) && kIn side 0 1) = true then ((ofL x.Start.Units side).filter (hgB x side), true) else ([], false)
theorem hungry_i {x : Gi_Scenario} (h : ScLen x) (side : Int) : Di_HungryUnits x side = some (hgR x side) := by
  unfold Di_HungryUnits hgR Di_isSide
  rw [isSc_i h, Option.bind_some, kin_i]
  by_cases c : scF x = 0
  · have ho := scF_ok c
    have hs := ho.st
    have hn := hs.n
    have hv : BdV x.Board := ⟨h.b, ho.b⟩
    rw [if_pos (decide_eq_true c), Option.bind_some]
    simp only [c, decide_true, Bool.true_and, Option.bind_some]
    by_cases c2 : kIn side 0 1 = true
    · rw [if_pos c2, if_pos c2, of_i (by omega), Option.bind_some]
      have hol := ofL_len x.Start.Units side
      refine fil_goL (L := loop Bi_HungryUnits) (S := fun i acc => .h1 side ((ofL x.Start.Units side).length : Int) (i : Int) x acc (ofL x.Start.Units side)) (r := fun l => some (l, true)) (fun i y acc hy hi ha => ?_) fun acc ha => ?_
      · obtain ⟨k, u, rfl, hu, _, _⟩ := ofL_mem (List.mem_of_getElem? hy)
        rw [loop_eq]
        simp only [Bi_HungryUnits, ltc hi, nnc, if_true, Int.toNat_natCast, hy, hu, Option.bind_some, src_i, way_i hv hs (hs.u u (List.mem_of_getElem? hu)) (ho.src side), if8 (show acc.length ≤ 3000000 by omega), wsucc (show i < 9223372036854775807 by omega), hgB]
        by_cases c3 : wayU x.Board x.Start.Units u (srcOf' x side) < 0
        · simp [c3, goOn]
        · simp [c3, goOn]
      · rw [loop_eq]
        simp only [Bi_HungryUnits, nltc, if_false, goOn]
    · rw [if_neg c2, if_neg c2]
  · simp [c]
theorem hungry_s {x : Gi_Scenario} (h : ScLen x) (side : Int) : Ds_HungryUnits x side = some (hgR x side) := by
  unfold Ds_HungryUnits hgR
  rw [snGood_s h, Option.bind_some, kin_s]
  by_cases c : scF x = 0
  · have ho := scF_ok c
    have hs := ho.st
    have hn := hs.n
    have hv : BdV x.Board := ⟨h.b, ho.b⟩
    rw [if_pos (decide_eq_true c), Option.bind_some]
    simp only [c, decide_true, Bool.true_and, Option.bind_some]
    by_cases c2 : kIn side 0 1 = true
    · rw [if_pos c2, if_pos c2, of_s (by omega), Option.bind_some]
      have hol := ofL_len x.Start.Units side
      refine fil_goL (L := loop Bs_HungryUnits) (S := fun i acc => .h1 side ((ofL x.Start.Units side).length : Int) (i : Int) x acc (ofL x.Start.Units side)) (r := fun l => some (l, true)) (fun i y acc hy hi ha => ?_) fun acc ha => ?_
      · obtain ⟨k, u, rfl, hu, _, _⟩ := ofL_mem (List.mem_of_getElem? hy)
        rw [loop_eq]
        simp only [Bs_HungryUnits, ltc hi, nnc, if_true, Int.toNat_natCast, hy, Option.bind_some, src_s, jIn_s hv hs hu (ho.src side), if8 (show acc.length ≤ 3000000 by omega), wsucc (show i < 9223372036854775807 by omega), hgB, hu]
        by_cases c3 : wayU x.Board x.Start.Units u (srcOf' x side) < 0
        · have c4 : ¬ 0 ≤ wayU x.Board x.Start.Units u (srcOf' x side) := by omega
          simp [c3, c4, goOn]
        · have c4 : 0 ≤ wayU x.Board x.Start.Units u (srcOf' x side) := by omega
          simp [c3, c4, goOn]
      · rw [loop_eq]
        simp only [Bs_HungryUnits, nltc, if_false, goOn]
    · rw [if_neg c2, if_neg c2]
  · simp [c]
theorem hgR_len (x : Gi_Scenario) (side : Int) : (hgR x side).1.length ≤ 1048576 := by
  unfold hgR
  split
  · rename_i c
    simp only [Bool.and_eq_true, decide_eq_true_eq] at c
    have h1 := (scF_ok c.1).st.n
    have h2 := ofL_len x.Start.Units side
    have h3 := List.length_filter_le (hgB x side) (ofL x.Start.Units side)
    dsimp only
    omega
  · simp

theorem lawHungryUnits (a0 : Gw_Scenario) (a1 : Int) (hwa0 : Wf_Scenario a0) : Dw_FnExactHungryUnits a0 a1 = some true := Ok.isTrue <| by
  unfold Dw_FnExactHungryUnits
  refine Ok.bind (sz_Scenario hwa0 (left := 1048576) ⟨by omega, by omega⟩) fun r1 zr1 => Ok.ite (fun _ => Ok.ret rfl) fun cr1 => ?_
  replace zr1 := zr1.resolve_left cr1
  have hsa0 := zr1.2
  have hia0 := szi_Scenario hsa0
  refine Ok.eq (to_Scenario hsa0) ?_
  refine Ok.eq (hungry_s (si_ScLen hia0) a1) ?_
  refine Ok.eq (to_Scenario hsa0) ?_
  refine Ok.eq (hungry_i (si_ScLen hia0) a1) ?_
  refine Ok.eq (eq_IntS (hgR_len _ a1)) ?_
  refine Ok.chk rfl ?_
  refine Ok.els (by simp) ?_
  refine Ok.eq (to_Scenario hsa0) ?_
  refine Ok.eq (eq_Scenario hia0) ?_
  refine Ok.chk rfl ?_
  refine Ok.bind (mark_Scenario hia0 (k := 1) ⟨by omega, by omega⟩) fun r13 hr13 => ?_
  have br13 := hr13.1
  refine Ok.chk hr13.2.1 ?_
  refine Ok.chk hr13.2.2.1 ?_
  refine Ok.chk hr13.2.2.2.1 ?_
  refine Ok.chk hr13.2.2.2.2.1 ?_
  refine Ok.chk hr13.2.2.2.2.2.1 ?_
  refine Ok.chk hr13.2.2.2.2.2.2.1 ?_
  refine Ok.chk hr13.2.2.2.2.2.2.2.1 ?_
  refine Ok.chk hr13.2.2.2.2.2.2.2.2.1 ?_
  refine Ok.chk hr13.2.2.2.2.2.2.2.2.2.1 ?_
  refine Ok.chk hr13.2.2.2.2.2.2.2.2.2.2.1 ?_
  refine Ok.chk hr13.2.2.2.2.2.2.2.2.2.2.2 ?_
  refine Ok.els (by have := br13; omega) ?_
  refine Ok.eq (eq_IntS (hgR_len _ a1)) ?_
  refine Ok.chk rfl ?_
  refine Ok.els (by simp) ?_
  refine Ok.bind (markh_IntS (hgR_len _ a1) (k := 1) ⟨by omega, by omega⟩) fun r29 hr29 => ?_
  have br29 := hr29.1
  refine Ok.chk hr29.2.1 ?_
  refine Ok.eq hr29.2.2 ?_
  refine Ok.els (by have := br29; omega) ?_
  refine Ok.chk rfl ?_
  refine Ok.eq (to_Scenario hsa0) ?_
  refine Ok.eq (hungry_i (si_ScLen hia0) a1) ?_
  refine Ok.eq (eq_IntS (hgR_len _ a1)) ?_
  refine Ok.chk rfl ?_
  refine Ok.els (by simp) ?_
  refine Ok.eq hr29.2.2 ?_
  refine Ok.els (by have := br29; omega) ?_
  exact Ok.chk rfl (Ok.ret rfl)

end Go.Proofs.YtcggoeafffcghaaGreatDoor.Ab
