/- Part of the proof of FnExactNewSaveCard: no condition of its own. -/
import Derived.Test.YtcblbhjbocipbaaGreatDoorD1NP
set_option linter.unusedVariables false
set_option linter.unusedSimpArgs false
open Go
namespace Go.Proofs.YtcblbhjbocipbaaGreatDoor.Ab
theorem markh_OrderS {l : (List Gi_Order)} (h : (l.length ≤ 1048576 ∧ ∀ y ∈ l, Si_Order y)) {k : Int} (hk : 0 ≤ k ∧ k + 1099513724928 ≤ 4611686018427387904) : Ok (Dw_markOrderS l k) fun r => (k ≤ r.1 ∧ r.1 ≤ k + 1099513724928) ∧ r.2.length = l.length ∧ Dw_heldOrderS r.2 k = some r.1 := by
  have hl := h.1
  unfold Dw_markOrderS
  refine Ok.loop (B := Bw_markOrderS) (fun | .h1 kk i l2 => ∃ n : Nat, i = n ∧ n ≤ l.length ∧ l2.length = l.length ∧ (∀ j, n ≤ j → l2[j]? = l[j]?) ∧ (k ≤ kk ∧ kk ≤ k + 1048578 * n) ∧ ∀ l' : (List Gi_Order), l'.length = l.length → (∀ j, j < n → l'[j]? = l2[j]?) → loop Bw_heldOrderS (.h1 l' k 0) = loop Bw_heldOrderS (.h1 l' kk (n : Int))) (fun | .h1 kk i l2 => (l.length - i).toNat) (fun s hI => ?_) ⟨0, rfl, Nat.zero_le _, rfl, fun j _ => rfl, ⟨by omega, by omega⟩, fun _ _ _ => rfl⟩
  match s, hI with
  | .h1 kk i l2, ⟨n, e, hn, hlen, hrest, hkk, hheld⟩ =>
  subst e
  by_cases hlt : n < l.length
  · have hx : l2[n]? = some l[n] := by rw [hrest n (Nat.le_refl _)]; exact List.getElem?_eq_getElem hlt
    have hs := h.2 l[n] (List.getElem_mem _)
    generalize l[n] = x at hx hs
    have hi : n < l2.length := by omega
    obtain ⟨⟨k0, c0⟩, e0, b0, n0, g0⟩ := markh_IntS hs (k := kk + 1) ⟨by omega, by omega⟩
    dsimp only at b0 n0 g0
    refine ⟨.inl (.h1 (k0 + 1) ((n + 1 : Nat) : Int) (l2.set n (⟨kk, c0, k0⟩ : Gi_Order))), ?_, ⟨n + 1, rfl, by omega, by rw [List.length_set]; exact hlen, fun j hj => by rw [List.getElem?_set_ne (by omega)]; exact hrest j (by omega), ⟨by omega, by omega⟩, fun l' hl' hp => ?_⟩, by dsimp only; omega⟩
    · simp (disch := first | omega | (simp only [List.length_set]; omega)) only [Bw_markOrderS, if_pos, Int.toNat_natCast, hx, Option.bind_some, List.getElem?_set_self, List.set_set, w64, List.length_set, e0, n0]
      try rfl
    · have hx' : l'[n]? = some (⟨kk, c0, k0⟩ : Gi_Order) := by rw [hp n (by omega), List.getElem?_set_self hi]
      rw [hheld l' hl' fun j hj => by rw [hp j (by omega), List.getElem?_set_ne (by omega)], loop_eq]
      have hi' : (n : Int) < (l'.length : Int) := by omega
      simp (disch := omega) only [Bw_heldOrderS, if_pos, if_neg, Int.toNat_natCast, hx', Option.bind_some, w64, g0, BEq.rfl, Bool.not_true, Bool.false_eq_true, if_false, if_true, goOn]
      try rfl
  · refine ⟨.inr (kk, l2), ?_, ⟨by dsimp only; omega, by dsimp only; omega⟩, hlen, ?_⟩
    · simp (disch := omega) only [Bw_markOrderS, if_neg]
    · have := hheld l2 hlen fun j _ => rfl
      unfold Dw_heldOrderS
      rw [this, loop_eq]
      have hi' : ¬ (n : Int) < (l2.length : Int) := by omega
      simp (disch := omega) only [Bw_heldOrderS, if_neg, goOn]
theorem markh_SavedTurnS {l : (List Gi_SavedTurn)} (h : (l.length ≤ 30 ∧ ∀ y ∈ l, Si_SavedTurn y)) {k : Int} (hk : 0 ≤ k ∧ k + 65970823495770 ≤ 4611686018427387904) : Ok (Dw_markSavedTurnS l k) fun r => (k ≤ r.1 ∧ r.1 ≤ k + 65970823495770) ∧ r.2.length = l.length ∧ Dw_heldSavedTurnS r.2 k = some r.1 := by
  have hl := h.1
  unfold Dw_markSavedTurnS
  refine Ok.loop (B := Bw_markSavedTurnS) (fun | .h1 kk i l2 => ∃ n : Nat, i = n ∧ n ≤ l.length ∧ l2.length = l.length ∧ (∀ j, n ≤ j → l2[j]? = l[j]?) ∧ (k ≤ kk ∧ kk ≤ k + 2199027449859 * n) ∧ ∀ l' : (List Gi_SavedTurn), l'.length = l.length → (∀ j, j < n → l'[j]? = l2[j]?) → loop Bw_heldSavedTurnS (.h1 l' k 0) = loop Bw_heldSavedTurnS (.h1 l' kk (n : Int))) (fun | .h1 kk i l2 => (l.length - i).toNat) (fun s hI => ?_) ⟨0, rfl, Nat.zero_le _, rfl, fun j _ => rfl, ⟨by omega, by omega⟩, fun _ _ _ => rfl⟩
  match s, hI with
  | .h1 kk i l2, ⟨n, e, hn, hlen, hrest, hkk, hheld⟩ =>
  subst e
  by_cases hlt : n < l.length
  · have hx : l2[n]? = some l[n] := by rw [hrest n (Nat.le_refl _)]; exact List.getElem?_eq_getElem hlt
    have hs := h.2 l[n] (List.getElem_mem _)
    generalize l[n] = x at hx hs
    have hi : n < l2.length := by omega
    obtain ⟨⟨k0, c0⟩, e0, b0, n0, g0⟩ := markh_OrderS hs.1 (k := kk + 1 + 1) ⟨by omega, by omega⟩
    dsimp only at b0 n0 g0
    obtain ⟨⟨k1, c1⟩, e1, b1, n1, g1⟩ := markh_OrderS hs.2 (k := k0 + 1) ⟨by omega, by omega⟩
    dsimp only at b1 n1 g1
    refine ⟨.inl (.h1 (k1) ((n + 1 : Nat) : Int) (l2.set n (⟨kk, ⟨(kk + 1), c0⟩, ⟨k0, c1⟩⟩ : Gi_SavedTurn))), ?_, ⟨n + 1, rfl, by omega, by rw [List.length_set]; exact hlen, fun j hj => by rw [List.getElem?_set_ne (by omega)]; exact hrest j (by omega), ⟨by omega, by omega⟩, fun l' hl' hp => ?_⟩, by dsimp only; omega⟩
    · simp (disch := first | omega | (simp only [List.length_set]; omega)) only [Bw_markSavedTurnS, if_pos, Int.toNat_natCast, hx, Option.bind_some, List.getElem?_set_self, List.set_set, w64, List.length_set, e0, n0, e1, n1]
      try rfl
    · have hx' : l'[n]? = some (⟨kk, ⟨(kk + 1), c0⟩, ⟨k0, c1⟩⟩ : Gi_SavedTurn) := by rw [hp n (by omega), List.getElem?_set_self hi]
      rw [hheld l' hl' fun j hj => by rw [hp j (by omega), List.getElem?_set_ne (by omega)], loop_eq]
      have hi' : (n : Int) < (l'.length : Int) := by omega
      simp (disch := omega) only [Bw_heldSavedTurnS, if_pos, if_neg, Int.toNat_natCast, hx', Option.bind_some, w64, g0, g1, BEq.rfl, Bool.not_true, Bool.false_eq_true, if_false, if_true, goOn]
      try rfl
  · refine ⟨.inr (kk, l2), ?_, ⟨by dsimp only; omega, by dsimp only; omega⟩, hlen, ?_⟩
    · simp (disch := omega) only [Bw_markSavedTurnS, if_neg]
    · have := hheld l2 hlen fun j _ => rfl
      unfold Dw_heldSavedTurnS
      rw [this, loop_eq]
      have hi' : ¬ (n : Int) < (l2.length : Int) := by omega
      simp (disch := omega) only [Bw_heldSavedTurnS, if_neg, goOn]
theorem markh_Save {x : Gi_Save} (h : Si_Save x) {k : Int} (hk : 0 ≤ k ∧ k + 69269382496346 ≤ 4611686018427387904) : Ok (Dw_markSave x k) fun r => (k ≤ r.1 ∧ r.1 ≤ k + 69269382496346) ∧ (r.2.1.length = x.Scenario.Board.Rules.Terrains.length ∧ r.2.2.1.length = x.Scenario.Board.Rules.Kinds.length ∧ r.2.2.2.1.length = x.Scenario.Board.Map.Terrain.length ∧ r.2.2.2.2.1.length = x.Scenario.Board.Map.Rivers.length ∧ r.2.2.2.2.2.1.length = x.Scenario.Board.Map.Roads.length ∧ r.2.2.2.2.2.2.1.length = x.Scenario.Table.Columns.length ∧ r.2.2.2.2.2.2.2.1.length = x.Scenario.Table.Results.length ∧ r.2.2.2.2.2.2.2.2.1.length = x.Scenario.Start.Units.length ∧ r.2.2.2.2.2.2.2.2.2.1.length = x.Scenario.Conditions.Goals.length ∧ r.2.2.2.2.2.2.2.2.2.2.1.length = x.Scenario.First.length ∧ r.2.2.2.2.2.2.2.2.2.2.2.1.length = x.Scenario.Other.length ∧ r.2.2.2.2.2.2.2.2.2.2.2.2.1.length = x.Climate.Weights.length ∧ r.2.2.2.2.2.2.2.2.2.2.2.2.2.length = x.Turns.length) ∧ Dw_heldSave ⟨⟨x.Scenario.Name, ⟨⟨r.2.1, r.2.2.1, x.Scenario.Board.Rules.Stack, x.Scenario.Board.Rules.River, x.Scenario.Board.Rules.Road, x.Scenario.Board.Rules.Supply, x.Scenario.Board.Rules.Turns⟩, ⟨x.Scenario.Board.Map.Width, x.Scenario.Board.Map.Height, r.2.2.2.1, r.2.2.2.2.1, r.2.2.2.2.2.1⟩⟩, ⟨r.2.2.2.2.2.2.1, x.Scenario.Table.Dice, r.2.2.2.2.2.2.2.1⟩, ⟨x.Scenario.Start.Turn, x.Scenario.Start.Weather, r.2.2.2.2.2.2.2.2.1⟩, ⟨r.2.2.2.2.2.2.2.2.2.1, x.Scenario.Conditions.Step, x.Scenario.Conditions.Margin⟩, r.2.2.2.2.2.2.2.2.2.2.1, r.2.2.2.2.2.2.2.2.2.2.2.1⟩, ⟨r.2.2.2.2.2.2.2.2.2.2.2.2.1⟩, r.2.2.2.2.2.2.2.2.2.2.2.2.2⟩ k = some r.1 := by
  unfold Dw_markSave
  refine Ok.bind (markh_Scenario h.1 (k := k) ⟨by omega, by omega⟩) fun r0 q0 => ?_
  have b0 := q0.1
  refine Ok.chk q0.2.1.1 ?_
  refine Ok.chk q0.2.1.2.1 ?_
  refine Ok.chk q0.2.1.2.2.1 ?_
  refine Ok.chk q0.2.1.2.2.2.1 ?_
  refine Ok.chk q0.2.1.2.2.2.2.1 ?_
  refine Ok.chk q0.2.1.2.2.2.2.2.1 ?_
  refine Ok.chk q0.2.1.2.2.2.2.2.2.1 ?_
  refine Ok.chk q0.2.1.2.2.2.2.2.2.2.1 ?_
  refine Ok.chk q0.2.1.2.2.2.2.2.2.2.2.1 ?_
  refine Ok.chk q0.2.1.2.2.2.2.2.2.2.2.2.1 ?_
  refine Ok.chk q0.2.1.2.2.2.2.2.2.2.2.2.2 ?_
  refine Ok.bind (markh_Climate h.2.1 (k := r0.1) ⟨by omega, by omega⟩) fun r1 q1 => ?_
  have b1 := q1.1
  refine Ok.chk q1.2.1 ?_
  refine Ok.bind (markh_SavedTurnS h.2.2 (k := r1.1) ⟨by omega, by omega⟩) fun r2 q2 => ?_
  have b2 := q2.1
  refine Ok.chk q2.2.1 ?_
  refine Ok.ret ⟨⟨by dsimp only; omega, by dsimp only; omega⟩, ⟨q0.2.1.1, q0.2.1.2.1, q0.2.1.2.2.1, q0.2.1.2.2.2.1, q0.2.1.2.2.2.2.1, q0.2.1.2.2.2.2.2.1, q0.2.1.2.2.2.2.2.2.1, q0.2.1.2.2.2.2.2.2.2.1, q0.2.1.2.2.2.2.2.2.2.2.1, q0.2.1.2.2.2.2.2.2.2.2.2.1, q0.2.1.2.2.2.2.2.2.2.2.2.2, q1.2.1, q2.2.1⟩, ?_⟩
  unfold Dw_heldSave
  simp (disch := omega) only [q0.2.2, q1.2.2, q2.2.2, Option.bind_some, if_neg]

def nsV0 : Gi_Save := (Gi_Save.mk (Gi_Scenario.mk ⟨#[]⟩ (Gi_Board.mk (Gi_Rules.mk [] [] 0 0 0 0 0) (Gi_Map.mk 0 0 [] [] [])) (Gi_CombatTable.mk [] 0 []) (Gi_State.mk 0 0 []) (Gi_Conditions.mk [] 0 0) [] []) (Gi_Climate.mk []) [])
def nsR (x : Gi_Scenario) (c : Gi_Climate) : Gi_Save × Bool := if suG x c = true then (⟨x, c, []⟩, true) else (nsV0, false)
theorem newSave_i {x : Gi_Scenario} (hl : ScLen x) (c : Gi_Climate) : Di_NewSave x c = some (nsR x c) := by
  unfold Di_NewSave nsR
  rw [isSc_i hl, Option.bind_some, isClimate_i, Option.bind_some]
  by_cases h : suG x c = true
  · have h' := h
    unfold suG at h'
    simp only [Bool.and_eq_true] at h'
    have ho : ScOk x := scF_ok (by simpa using h'.1)
    have e : Di_cloneTurns [] = some [] := by
      unfold Di_cloneTurns
      rw [loop_eq]
      rfl
    rw [if_pos h'.1, if_pos h'.2, if_pos h]
    unfold Di_withTurns
    rw [cloneSc_i hl ho, Option.bind_some, cloneClimate_i h'.2, Option.bind_some, e]
    rfl
  · rw [if_neg h]
    unfold suG at h
    cases c1 : decide (scF x = 0) with
    | false => rfl
    | true =>
      rw [c1, Bool.true_and] at h
      rw [if_pos rfl, if_neg h]; rfl
theorem newSave_s {x : Gi_Scenario} (hl : ScLen x) (c : Gi_Climate) : Ds_NewSave x c = some (nsR x c) := by
  unfold Ds_NewSave nsR
  rw [svBase_s hl, Option.bind_some]
  by_cases h : suG x c = true
  · have h' := h
    unfold suG at h'
    simp only [Bool.and_eq_true, decide_eq_true_eq] at h'
    rw [if_pos h, if_pos h]
    unfold Ds_svOwn
    rw [snOwn_s hl (scF_ok h'.1), Option.bind_some, svClimate_s h'.2, Option.bind_some, if_pos (by decide), if_pos (by simp), loop_eq]
    rfl
  · rw [if_neg h, if_neg h]; rfl
theorem nsR_si {x : Gi_Scenario} (h : Si_Scenario x) {c : Gi_Climate} (hc : Si_Climate c) : Si_Save (nsR x c).1 := by
  unfold nsR
  split
  · exact ⟨h, hc, by simp, fun y hy => by cases hy⟩
  · exact ⟨si_sc0, by simp [Si_Climate, nsV0], by simp [nsV0], fun y hy => by cases hy⟩

theorem lawNewSave (a0 : Gw_Scenario) (a1 : Gw_Climate) (hwa0 : Wf_Scenario a0) (hwa1 : Wf_Climate a1) : Dw_FnExactNewSave a0 a1 = some true := Ok.isTrue <| by
  unfold Dw_FnExactNewSave
  refine Ok.bind (sz_Scenario hwa0 (left := 1048576) ⟨by omega, by omega⟩) fun r1 zr1 => Ok.ite (fun _ => Ok.ret rfl) fun cr1 => ?_
  replace zr1 := zr1.resolve_left cr1
  have hsa0 := zr1.2
  have hia0 := szi_Scenario hsa0
  refine Ok.bind (sz_Climate hwa1 (left := r1) ⟨zr1.1.1, by have := zr1.1; omega⟩) fun r3 zr3 => Ok.ite (fun _ => Ok.ret rfl) fun cr3 => ?_
  replace zr3 := zr3.resolve_left cr3
  have hsa1 := zr3.2
  have hia1 := szi_Climate hsa1
  refine Ok.eq (to_Scenario hsa0) ?_
  refine Ok.eq (to_Climate hsa1) ?_
  refine Ok.eq (newSave_s (si_ScLen hia0) _) ?_
  refine Ok.eq (to_Scenario hsa0) ?_
  refine Ok.eq (to_Climate hsa1) ?_
  refine Ok.eq (newSave_i (si_ScLen hia0) _) ?_
  refine Ok.eq (eq_Save (nsR_si hia0 hia1)) ?_
  refine Ok.chk rfl ?_
  refine Ok.els (by simp) ?_
  refine Ok.eq (to_Scenario hsa0) ?_
  refine Ok.eq (eq_Scenario hia0) ?_
  refine Ok.chk rfl ?_
  refine Ok.eq (to_Climate hsa1) ?_
  refine Ok.eq (eq_Climate hia1) ?_
  refine Ok.chk rfl ?_
  refine Ok.bind (mark_Scenario hia0 (k := 1) ⟨by omega, by omega⟩) fun r20 hr20 => ?_
  have br20 := hr20.1
  refine Ok.chk hr20.2.1 ?_
  refine Ok.chk hr20.2.2.1 ?_
  refine Ok.chk hr20.2.2.2.1 ?_
  refine Ok.chk hr20.2.2.2.2.1 ?_
  refine Ok.chk hr20.2.2.2.2.2.1 ?_
  refine Ok.chk hr20.2.2.2.2.2.2.1 ?_
  refine Ok.chk hr20.2.2.2.2.2.2.2.1 ?_
  refine Ok.chk hr20.2.2.2.2.2.2.2.2.1 ?_
  refine Ok.chk hr20.2.2.2.2.2.2.2.2.2.1 ?_
  refine Ok.chk hr20.2.2.2.2.2.2.2.2.2.2.1 ?_
  refine Ok.chk hr20.2.2.2.2.2.2.2.2.2.2.2 ?_
  refine Ok.bind (mark_Climate hia1 (k := r20.1) ⟨by have := br20; omega, by have := br20; omega⟩) fun r32 hr32 => ?_
  have br32 := hr32.1
  refine Ok.chk hr32.2 ?_
  refine Ok.els (by have := br32; omega) ?_
  refine Ok.eq (eq_Save (nsR_si hia0 hia1)) ?_
  refine Ok.chk rfl ?_
  refine Ok.els (by simp) ?_
  refine Ok.bind (markh_Save (nsR_si hia0 hia1) (k := 1) ⟨by omega, by omega⟩) fun r38 hr38 => ?_
  have br38 := hr38.1
  refine Ok.chk hr38.2.1.1 ?_
  refine Ok.chk hr38.2.1.2.1 ?_
  refine Ok.chk hr38.2.1.2.2.1 ?_
  refine Ok.chk hr38.2.1.2.2.2.1 ?_
  refine Ok.chk hr38.2.1.2.2.2.2.1 ?_
  refine Ok.chk hr38.2.1.2.2.2.2.2.1 ?_
  refine Ok.chk hr38.2.1.2.2.2.2.2.2.1 ?_
  refine Ok.chk hr38.2.1.2.2.2.2.2.2.2.1 ?_
  refine Ok.chk hr38.2.1.2.2.2.2.2.2.2.2.1 ?_
  refine Ok.chk hr38.2.1.2.2.2.2.2.2.2.2.2.1 ?_
  refine Ok.chk hr38.2.1.2.2.2.2.2.2.2.2.2.2.1 ?_
  refine Ok.chk hr38.2.1.2.2.2.2.2.2.2.2.2.2.2.1 ?_
  refine Ok.chk hr38.2.1.2.2.2.2.2.2.2.2.2.2.2.2 ?_
  refine Ok.eq hr38.2.2 ?_
  refine Ok.els (by have := br38; omega) ?_
  refine Ok.chk rfl ?_
  refine Ok.eq (to_Scenario hsa0) ?_
  refine Ok.eq (to_Climate hsa1) ?_
  refine Ok.eq (newSave_i (si_ScLen hia0) _) ?_
  refine Ok.eq (eq_Save (nsR_si hia0 hia1)) ?_
  refine Ok.chk rfl ?_
  refine Ok.els (by simp) ?_
  refine Ok.eq hr38.2.2 ?_
  refine Ok.els (by have := br38; omega) ?_
  exact Ok.chk rfl (Ok.ret rfl)

end Go.Proofs.YtcblbhjbocipbaaGreatDoor.Ab
