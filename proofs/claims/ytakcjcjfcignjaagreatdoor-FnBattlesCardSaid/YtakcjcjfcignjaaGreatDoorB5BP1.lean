/- Part of the proof of FnBattlesCard: no condition of its own. -/
import Derived.Test.YtakcjcjfcignjaaGreatDoorB5BP
set_option linter.unusedVariables false
set_option linter.unusedSimpArgs false
open Go
namespace Go.Proofs.YtakcjcjfcignjaaGreatDoor.Ab
theorem bat_5f {u t2 t3 t5 t6 : Int} {L : List Int} {b : Gi_Board} {y1 y2 : Int} {l : List Gi_Attack} {X Y : List Gi_Battle} {z : Gi_Battle} {us : List Gi_Unit} (hl : l.length ≤ 1000) : ∀ (n j : Nat), j + n = l.length → akA (l.drop j) u z.At = true → loop Bw_FnBattles (.h5 u false t2 t3 L t5 t6 (l.length : Int) (j : Int) b y1 y2 l X Y z us) = loop Bw_FnBattles (.h4 t2 t3 L t5 (IntKind.wrap .i64 (t6 + 1)) b y1 y2 l X Y z us)
  | 0, j, h, hm => by
    have : j = l.length := by omega
    subst this
    rw [List.drop_length] at hm
    cases hm
  | n + 1, j, h, hm => by
    have hk : j < l.length := by omega
    have hx : l[j]? = some l[j] := List.getElem?_eq_getElem hk
    rw [List.drop_eq_getElem_cons hk] at hm
    have ea : akA (l[j] :: l.drop (j + 1)) u z.At = ((decide (l[j].Unit = u) && decide (l[j].At = z.At)) || akA (l.drop (j + 1)) u z.At) := rfl
    rw [ea] at hm
    conv => lhs; rw [loop_eq]
    simp only [Bw_FnBattles, ltc hk, nnc, if_true, Int.toNat_natCast, hx, Option.bind_some, wsucc (show j < 9223372036854775807 by omega)]
    by_cases c : l[j].Unit = u
    · rw [if_pos c]
      simp only [goOn]
      by_cases c2 : l[j].At = z.At
      · rw [show ((l[j].At : Int) == z.At) = true from by rw [c2]; simp]
        exact bat_5t hl n (j + 1) (by omega)
      · rw [show ((l[j].At : Int) == z.At) = false from by simpa using c2]
        refine bat_5f hl n (j + 1) (by omega) ?_
        simpa [c2] using hm
    · rw [if_neg c]
      simp only [goOn]
      refine bat_5f hl n (j + 1) (by omega) ?_
      simpa [c] using hm
theorem bat_4 {t0 t1 : Int} {L : List Int} {b : Gi_Board} {y1 y2 : Int} {l : List Gi_Attack} {X Y : List Gi_Battle} {z : Gi_Battle} {us : List Gi_Unit} (hl : l.length ≤ 1000) (hL : L.length ≤ 1000) (hm : ∀ u ∈ L, akA l u z.At = true) : ∀ (n j : Nat), j + n = L.length → loop Bw_FnBattles (.h4 t0 t1 L (L.length : Int) (j : Int) b y1 y2 l X Y z us) = loop Bw_FnBattles (.h6 t0 (IntKind.wrap .i64 (t1 + 1)) b y1 y2 l X Y us)
  | 0, j, h => by
    conv => lhs; rw [loop_eq]
    have : j = L.length := by omega
    subst this
    simp only [Bw_FnBattles, nltc, if_false, goOn]
  | n + 1, j, h => by
    have hk : j < L.length := by omega
    have hx : L[j]? = some L[j] := List.getElem?_eq_getElem hk
    conv => lhs; rw [loop_eq]
    simp only [Bw_FnBattles, ltc hk, nnc, if_true, Int.toNat_natCast, hx, Option.bind_some, goOn]
    refine (bat_5f hl l.length 0 (by omega) (by rw [List.drop_zero]; exact hm _ (List.mem_of_getElem? hx))).trans ?_
    rw [wsucc (show j < 9223372036854775807 by omega)]
    exact bat_4 hl hL hm n (j + 1) (by omega)
theorem isBattle_t {b : Gi_Board} (h : BdV b) {s : Gi_State} (hs : StOk b s) (hf : fiG b s = true) {l : List Gi_Attack} {z : Gi_Battle} (hz : z ∈ btL b s.Units l) : Di_IsBattle b s z = some (true, true) := by
  have hsn := hs.n
  have hg := btL_good h hs hz
  obtain ⟨i, _, rfl, _⟩ := btL_mem hz
  have ha := atL_len b s.Units l (i : Int)
  have hu := uatL_len s.Units (i : Int)
  unfold Di_IsBattle
  rw [fits_i h.l, Option.bind_some, if_pos hf, goodBattle_i h hs (by simp only; omega) (by simp only; omega), hg]; rfl
theorem bat_6 {b : Gi_Board} (h : BdV b) {s : Gi_State} (hs : StOk b s) (hf : fiG b s = true) {l : List Gi_Attack} (hl : l.length ≤ 1000) : ∀ (n j : Nat), j + n = (btL b s.Units l).length → loop Bw_FnBattles (.h6 ((btL b s.Units l).length : Int) (j : Int) b s.Turn s.Weather l (btL b s.Units l) (btL b s.Units l) s.Units) = some true
  | 0, j, hj => by
    rw [loop_eq]
    have : j = (btL b s.Units l).length := by omega
    subst this
    simp only [Bw_FnBattles, nltc, if_false, goOn]
  | n + 1, j, hj => by
    have hn := h.ok.n2
    have hsn := hs.n
    have hbl := btL_len b s.Units l
    have ih := bat_6 h hs hf hl n (j + 1) (by omega)
    have hk : j < (btL b s.Units l).length := by omega
    obtain ⟨z, hx⟩ : ∃ z, (btL b s.Units l)[j]? = some z := ⟨_, List.getElem?_eq_getElem hk⟩
    have hz := List.mem_of_getElem? hx
    have hib := isBattle_t h hs hf hz
    obtain ⟨i, hi, ez, _⟩ := btL_mem hz
    have ha := atL_len b s.Units l (i : Int)
    have hu := uatL_len s.Units (i : Int)
    have q1 : Dw_qInts z.Attackers z.Attackers = some true := eQInts (by rw [ez]; simp only; omega)
    have q2 : Dw_qInts z.Defenders z.Defenders = some true := eQInts (by rw [ez]; simp only; omega)
    have h4 := bat_4 (t0 := ((btL b s.Units l).length : Int)) (t1 := (j : Int)) (L := z.Attackers) (b := b) (y1 := s.Turn) (y2 := s.Weather) (l := l) (X := btL b s.Units l) (Y := btL b s.Units l) (z := z) (us := s.Units) hl (by rw [ez]; simp only; omega) (fun u hu' => by
      rw [ez] at hu' ⊢
      obtain ⟨k, u', rfl, _, hk'⟩ := atL_mem hu'
      unfold akU at hk'
      simp only [Bool.and_eq_true] at hk'
      exact hk'.2.2) z.Attackers.length 0 (by omega)
    rw [wsucc (show j < 9223372036854775807 by omega)] at h4
    have h4' := h4.trans ih
    rw [loop_eq]
    simp only [Bw_FnBattles, ltc hk, nnc, if_true, Int.toNat_natCast, hx, Option.bind_some, hib, q1, q2]
    by_cases c0 : (j : Int) > 0
    · obtain ⟨j', rfl⟩ : ∃ j', j = j' + 1 := ⟨j - 1, by omega⟩
      have hw : IntKind.wrap .i64 (((j' + 1 : Nat) : Int) - 1) = (j' : Int) := by rw [w64 (by omega)]; omega
      obtain ⟨y, hy⟩ : ∃ y, (btL b s.Units l)[j']? = some y := ⟨_, List.getElem?_eq_getElem (by omega)⟩
      have hlt := btL_lt hy hx
      rw [if_pos c0, hw, if_pos (by omega), Int.toNat_natCast, hy, Option.bind_some, if_neg (by omega)]
      exact h4'
    · rw [if_neg c0]
      exact h4'
theorem bat_2 {b : Gi_Board} (hb : BdLen b) (s : Gi_State) {l : List Gi_Attack} (hl : l.length ≤ 1000) : loop Bw_FnBattles (.h2 b s.Turn s.Weather l (btR b s l).1 (btR b s l).1 s.Units) = some true := by
  have e26 : ∀ X : List Gi_Battle, loop Bw_FnBattles (.h2 b s.Turn s.Weather l X X s.Units) = loop Bw_FnBattles (.h6 (X.length : Int) ((0 : Nat) : Int) b s.Turn s.Weather l X X s.Units) := fun X => by
    rw [loop_eq]
    simp only [Bw_FnBattles, goOn]
    rw [loop_eq]
    conv => rhs; rw [loop_eq]
    rfl
  rw [e26]
  unfold btR
  by_cases c : (fiG b s && decide (l.length ≤ 24)) = true
  · rw [if_pos c]
    simp only [Bool.and_eq_true] at c
    obtain ⟨h, hs⟩ := fiG_ok hb c.1
    exact bat_6 h hs c.1 hl (btL b s.Units l).length 0 (by omega)
  · rw [if_neg c]
    rw [loop_eq]
    rfl
theorem asF_le {b : Gi_Board} {us : List Gi_Unit} {i : Int} (hu : ∀ u ∈ us, 0 ≤ fo b u ∧ fo b u ≤ 36) : ∀ (L : List Int) (a c : Int), a ≤ c → L.foldl (asF b us i) a ≤ L.foldl (fun c k => match us[k.toNat]? with | some u => c + fo b u | none => c) c
  | [], a, c, h => h
  | k :: L, a, c, h => by
    rw [List.foldl_cons, List.foldl_cons]
    refine asF_le hu L _ _ ?_
    unfold asF
    cases e : us[k.toNat]? with
    | none => exact h
    | some u =>
      have := hu u (List.mem_of_getElem? e)
      simp only
      unfold asU
      split <;> omega
theorem lawBattles (code more : List Int) (hc : code.length < 9223372036854775808) (hm : more.length < 9223372036854775808) (h1 : ∀ x ∈ code, 0 ≤ x ∧ x < 256) (h2 : ∀ x ∈ more, 0 ≤ x ∧ x < 256) : Dw_FnBattles code more = some true := Ok.isTrue <| by
  unfold Dw_FnBattles
  have d1 : Ok (Ds_DrawBattlesOf code) fun r => FtD r.1 r.2.1 r.2.2 := by
    unfold Ds_DrawBattlesOf
    exact Ok.bind (okFought (cu1 h1 hc) (by omega) (by omega)) fun r hr => Ok.ret hr.1
  have d2 : Ok (Ds_DrawAttackStrength more) fun r => BtD r.1 r.2.1 r.2.2 := by
    unfold Ds_DrawAttackStrength Ds_DrawIsBattle
    exact Ok.bind (Ok.bind (okBattle (cu1 h2 hm) (by omega) (by omega)) fun r hr => Ok.ret hr.1) fun r hr => Ok.ret hr
  refine Ok.ite (fun _ => Ok.ret rfl) fun _ => Ok.bind d1 fun r2 hr2 => ?_
  have hb := hr2.g.b.len
  have b2 := bat_2 hb r2.2.1 hr2.l
  refine Ok.eq (battlesOf_i hb _ _) (Ok.eq (battlesOf_s hb _ _) (Ok.bind d2 fun r5 hr5 => ?_))
  have hg := hr5.g.b.len
  have s5 := attackS_s hg (s := r5.2.1) hr5.a hr5.d
  refine Ok.eq (attackS_i hg hr5.a hr5.d) ?_
  by_cases c : (fiG r5.1 r5.2.1 && gbB r5.1 r5.2.1.Units r5.2.2) = true
  · have e : asR r5.1 r5.2.1 r5.2.2 = (r5.2.2.Attackers.foldl (asF r5.1 r5.2.1.Units r5.2.2.At) 0, true) := by unfold asR; rw [if_pos c]
    simp only [Bool.and_eq_true] at c
    obtain ⟨hv, hs⟩ := fiG_ok hg c.1
    have hgb := c.2
    unfold gbB at hgb
    simp only [Bool.and_eq_true] at hgb
    have hal := alli_iff.1 hgb.2.2.2.2.2
    have ha := hr5.a
    have fob : ∀ u ∈ r5.2.1.Units, 0 ≤ fo r5.1 u ∧ fo r5.1 u ≤ 36 := fun u hu => by
      obtain ⟨_, _, _, f1, f2⟩ := fo_b hv.ok (hs.u u hu)
      exact ⟨f1, f2⟩
    rw [e] at s5 ⊢
    refine Ok.chk rfl (Ok.eq s5 (Ok.els (by simp) (Ok.chk rfl (Ok.els (by simp) (Ok.chk rfl ?_)))))
    refine ⟨true, ?_, rfl⟩
    refine Eq.trans ((fold_goI (L := loop Bw_FnBattles) (S := fun a j => .h1 (r5.2.2.Attackers.foldl (asF r5.1 r5.2.1.Units r5.2.2.At) 0) a (r5.2.2.Attackers.length : Int) (j : Int) r2.1 r2.2.1.Turn r2.2.1.Weather r2.2.2 (btR r2.1 r2.2.1 r2.2.2).1 (btR r2.1 r2.2.1 r2.2.2).1 r5.1 r5.2.1.Turn r5.2.1.Weather r5.2.2.Attackers r2.2.1.Units r5.2.1.Units) (l := r5.2.2.Attackers) (g := fun c k => match r5.2.1.Units[k.toNat]? with | some u => c + fo r5.1 u | none => c) (I := fun j a => 0 ≤ a ∧ a ≤ 36 * (j : Int)) (r := fun a => if r5.2.2.Attackers.foldl (asF r5.1 r5.2.1.Units r5.2.2.At) 0 > a then some false else loop Bw_FnBattles (.h2 r2.1 r2.2.1.Turn r2.2.1.Weather r2.2.2 (btR r2.1 r2.2.1 r2.2.2).1 (btR r2.1 r2.2.1 r2.2.2).1 r2.2.1.Units)) (a := 0) (fun a j k hk hj hab => ?_) (fun a _ => ?_) ⟨by omega, by omega⟩).1) ?_
    · obtain ⟨u, u1, u2, u3, _, _⟩ := gbA_u (hal j k hk)
      have hu := hs.u u (List.mem_of_getElem? u1)
      obtain ⟨kd, f1, f2, f3, f4⟩ := fo_b hv.ok hu
      simp only [u1]
      refine ⟨?_, by omega, by omega⟩
      rw [loop_eq]
      simp only [Bw_FnBattles, ltc hj, nnc, if_true, Int.toNat_natCast, hk, Option.bind_some, if_pos u2, u1, if_pos hu.k.1, f1, f2, wsucc (show j < 9223372036854775807 by omega)]
      rw [w64 (n := fo r5.1 u) (by omega), w64 (n := a + fo r5.1 u) (by omega)]; rfl
    · rw [loop_eq]
      simp only [Bw_FnBattles, nltc, if_false]
      split <;> rfl
    · rw [if_neg (by have := asF_le (i := r5.2.2.At) fob r5.2.2.Attackers 0 0 (Int.le_refl _); omega)]
      exact b2
  · have e : asR r5.1 r5.2.1 r5.2.2 = (0, false) := by unfold asR; rw [if_neg c]
    rw [e] at s5 ⊢
    exact Ok.els (by decide) (Ok.eq s5 (Ok.els (by simp) (Ok.chk rfl (Ok.els (by simp) (Ok.chk rfl ⟨true, b2, rfl⟩)))))

end Go.Proofs.YtakcjcjfcignjaaGreatDoor.Ab
