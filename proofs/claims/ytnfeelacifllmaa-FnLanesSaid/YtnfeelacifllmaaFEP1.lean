/- Part of the proof of FnLanes: no condition of its own. -/
import Derived.Test.YtnfeelacifllmaaFEP
set_option linter.unusedVariables false
set_option linter.unusedSimpArgs false
open Go
namespace Go.Proofs.Ytnfeelacifllmaa.Ab
section
variable {x : Gi_Lanes} {n f t days : Nat}
theorem plan_loop (h : Ask x n f t days) {F : Int} : ∀ (m i : Nat) (g : Nat → Int) (out : List Gi_Convoy), i + m = days * x.Lanes.length → out.length ≤ i → Planned (netI x f t n days) ((days + 1) * n) f (days * n + t) F i g →
    ∃ g', loop Bi_DeliveryPlan (.h1 ((days * x.Lanes.length : Nat) : Int) (i : Int) x (((days + 1) * n : Nat) : Int) out (setF (frzL (netI x f t n days) i) g)) = some (out ++ planL x.Lanes.length g' i m, true) ∧
      Planned (netI x f t n days) ((days + 1) * n) f (days * n + t) F (days * x.Lanes.length) g' ∧ ∀ j, j < i → g' j = g j
  | 0, i, g, out, hm, ho, hp => by
    refine ⟨g, ?_, by rw [← hm]; exact hp, fun _ _ => rfl⟩
    rw [loop_eq, Bi_DeliveryPlan.eq_1, if_neg (by omega)]
    simp [goOn, planL]
  | m + 1, i, g, out, hm, ho, hp => by
    have wf := netI_wf (days := days) h.ln (f : Int) (t : Int) h.dle
    have hlen := netI_len (days := days) h.ln (f : Int) (t : Int)
    have hi : i < (netI x f t n days).length := by omega
    have hnd := h.ln.ndL h.dle
    have hll : 0 < x.Lanes.length := Nat.pos_of_ne_zero fun e => by rw [e] at hm; omega
    obtain ⟨g1, q, e1, e2, e3, e4, e5, e6⟩ := plan_step wf h.s h.e hi hp
    have ha := List.getElem?_eq_getElem hi
    generalize (netI x f t n days)[i]'hi = a at ha e1
    have hb := hp.fb.b i a ha
    have hmo := hp.fb.m i a ha
    have b1 : (setF (frzL (netI x f t n days) i) g)[Int.toNat (i : Int)]? = some (Gi_arc.mk a.from_ a.to_ a.most (g i) (decide (i < i))) := frz_at ha
    have s1 : List.set (setF (frzL (netI x f t n days) i) g) (Int.toNat (i : Int)) (Gi_arc.mk a.from_ a.to_ a.most (g i) true) = setF (frzL (netI x f t n days) (i + 1)) g := frz_set ha
    have b2 : ∀ g', (setF (frzL (netI x f t n days) (i + 1)) g')[Int.toNat (i : Int)]? = some (Gi_arc.mk a.from_ a.to_ a.most (g' i) (decide (i < i + 1))) := fun g' => frz_at ha
    have hw : IntKind.wrap .i64 (g i - q) = g i - q := w64 (by omega)
    have s2 : List.set (setF (frzL (netI x f t n days) (i + 1)) g1) (Int.toNat (i : Int)) (Gi_arc.mk a.from_ a.to_ a.most (IntKind.wrap .i64 (g i - q)) (decide (i < i + 1))) = setF (frzL (netI x f t n days) (i + 1)) (updF g1 i (g i - q)) := by rw [hw]; exact frz_fset ha _
    have b3 : (setF (frzL (netI x f t n days) (i + 1)) (updF g1 i (g i - q)))[Int.toNat (i : Int)]? = some (Gi_arc.mk a.from_ a.to_ a.most (g i - q) (decide (i < i + 1))) := by rw [b2]; simp [updF]
    have hne : ¬ ((x.Lanes.length : Nat) : Int) = 0 := by omega
    have hdiv : Int.tdiv (i : Int) ((x.Lanes.length : Nat) : Int) = ((i / x.Lanes.length : Nat) : Int) := by rw [← Int.ofNat_tdiv]
    have hmod : Int.tmod (i : Int) ((x.Lanes.length : Nat) : Int) = ((i % x.Lanes.length : Nat) : Int) := by rw [← Int.ofNat_tmod]
    have hdw : IntKind.wrap .i64 ((i / x.Lanes.length : Nat) : Int) = ((i / x.Lanes.length : Nat) : Int) := w64 (by have hdv := Nat.div_le_self i x.Lanes.length; generalize i / x.Lanes.length = dv at hdv ⊢; omega)
    have fin : ∀ out', out'.length ≤ i + 1 → out' = out ++ (if 0 < g i - q then [cvy x.Lanes.length (fun _ => g i - q) i] else []) →
        ∃ g', loop Bi_DeliveryPlan (.h1 ((days * x.Lanes.length : Nat) : Int) ((i + 1 : Nat) : Int) x (((days + 1) * n : Nat) : Int) out' (setF (frzL (netI x f t n days) (i + 1)) (updF g1 i (g i - q)))) = some (out ++ planL x.Lanes.length g' i (m + 1), true) ∧
          Planned (netI x f t n days) ((days + 1) * n) f (days * n + t) F (days * x.Lanes.length) g' ∧ ∀ j, j < i → g' j = g j := fun out' ho' he => by
      obtain ⟨g', k1, k2, k3⟩ := plan_loop h m (i + 1) _ out' (by omega) ho' e5
      refine ⟨g', ?_, k2, fun j hj => by rw [k3 j (by omega), e6 j hj]⟩
      have hgi : g' i = g i - q := by rw [k3 i (by omega)]; simp [updF]
      rw [k1, he, planL_succ, hgi, List.append_assoc]
      congr 4
      unfold cvy
      rw [hgi]
    rw [loop_eq, Bi_DeliveryPlan.eq_1, if_pos (by omega), if_pos (by omega), obind b1]
    simp only [s1]
    rw [obind (b2 g), obind (b2 g), obind (b2 g), obind (b2 g)]
    simp only
    rw [obind e1, if_pos (by simp only [setF_len]), obind (b2 g1), if_pos (by exact e2), obind (b2 g1)]
    simp only [s2]
    rw [obind b3]
    by_cases c : 0 < g i - q
    · rw [if_pos (by exact c), if_pos hne, if_pos hne, obind b3, hdiv, hmod, hdw, if_pos (by simp; omega), wsucc (by omega)]
      exact fin _ (by simp; omega) (by rw [if_pos c]; rfl)
    · rw [if_neg (by exact c), wsucc (by omega)]
      exact fin _ (by omega) (by rw [if_neg c, List.append_nil])
theorem plan_i (h : Ask x n f t days) : ∃ g, Di_DeliveryPlan x (f : Int) (t : Int) (days : Int) = some (planL x.Lanes.length g 0 (days * x.Lanes.length), true) ∧
    Planned (netI x f t n days) ((days + 1) * n) f (days * n + t) (grd x f t days) (days * x.Lanes.length) g := by
  have hst : x.Stores.length ≤ 2000000 := by have := h.ln.st; have := h.ln.n0; omega
  have hask : askG x f t days = true := askG_iff.2 ⟨n, f, t, days, rfl, rfl, rfl, h⟩
  have hnd := h.ln.ndL h.dle
  obtain ⟨fi, d1, d2, d3⟩ := grd_i h
  have hz : frzL (netI x f t n days) 0 = netI x f t n days := by
    refine List.ext_getElem? fun i => ?_
    rw [frzL_at]
    cases hy : (netI x f t n days)[i]? with
    | none => rfl
    | some y => rcases netI_cases h.ln _ _ hy with ⟨d, r, l, hdd, hl, rfl⟩ | ⟨d, k, m, hdd, hm, rfl⟩ <;> simp [laI, saI]
  obtain ⟨g, e1, e2, _⟩ := plan_loop h (days * x.Lanes.length) 0 fi [] (by omega) (by simp) ⟨d2, d3.fw, fun i hi => by omega⟩
  refine ⟨g, ?_, e2⟩
  unfold Di_DeliveryPlan
  rw [ask_i hst, obind rfl, if_pos hask, obind d1]
  rw [hz, List.nil_append] at e1
  have hw : IntKind.wrap .i64 ((days : Int) * ((x.Lanes.length : Nat) : Int)) = ((days * x.Lanes.length : Nat) : Int) := wdn (by have := h.dle; omega) (by have := h.ln.len; omega)
  rw [hw]
  exact e1
end

def capM (m : Int) (y : Option Int) : Int := match y with
  | some y => if y ≥ 0 then (if m < y then m else y) else m
  | none => m
theorem capM_le (m : Int) (y : Option Int) : capM m y ≤ m := by
  unfold capM
  split
  · split
    · split <;> omega
    · omega
  · omega
theorem capM_nn {m : Int} (hm : 0 ≤ m) (y : Option Int) : 0 ≤ capM m y := by
  unfold capM
  split
  · split
    · split <;> omega
    · omega
  · omega
theorem capM_iff {m g : Int} {y : Option Int} : g ≤ capM m y ↔ g ≤ m ∧ ∀ z, y = some z → 0 ≤ z → g ≤ z := by
  unfold capM
  cases y with
  | none => simp
  | some z =>
    simp only [Option.some.injEq]
    constructor
    · intro h
      refine ⟨?_, fun w hw h0 => ?_⟩
      · split at h
        · split at h <;> omega
        · exact h
      · subst hw
        rw [if_pos (by omega)] at h
        split at h <;> omega
    · rintro ⟨h1, h2⟩
      have := h2 z rfl
      split
      · split <;> omega
      · exact h1
def capL (L : List Gs_qArc) (u : Nat → Option Int) : List Gs_qArc := L.mapIdx fun i a => Gs_qArc.mk a.from_ a.to_ (capM a.most (u i)) a.flow
theorem capL_at (L : List Gs_qArc) (u : Nat → Option Int) (i : Nat) : (capL L u)[i]? = (L[i]?).map fun a => Gs_qArc.mk a.from_ a.to_ (capM a.most (u i)) a.flow := by
  unfold capL
  rw [List.getElem?_mapIdx]
theorem capL_len (L : List Gs_qArc) (u : Nat → Option Int) : (capL L u).length = L.length := by simp [capL]
theorem capL_wf {L : List Gs_qArc} {n : Nat} (h : WfS L n) (u : Nat → Option Int) : WfS (capL L u) n where
  len := by rw [capL_len]; exact h.len
  pl := h.pl
  a x hx := by
    obtain ⟨i, hi⟩ := List.getElem?_of_mem hx
    rw [capL_at, Option.map_eq_some_iff] at hi
    obtain ⟨a, ha, rfl⟩ := hi
    exact h.a a (List.mem_of_getElem? ha)
theorem capL_exf (L : List Gs_qArc) (u : Nat → Option Int) (n : Nat) (g : Nat → Int) (v : Nat) : exf (ntS (capL L u) n) g v = exf (ntS L n) g v := by
  unfold exf
  have e1 : (ntS (capL L u) n).I = (ntS L n).I := by show List.range _ = List.range _; rw [capL_len]
  rw [e1]
  refine lsm_congr fun i hi => ?_
  have hi := List.getElem?_eq_getElem (show i < L.length from List.mem_range.1 hi)
  simp only [ntS, capL_at, hi, Option.map_some]
theorem capL_fl {L : List Gs_qArc} {u : Nat → Option Int} {n s t : Nat} {F : Int} {g : Nat → Int} : IsFl (ntS (capL L u) n) s t F g ↔ IsFl (ntS L n) s t F g ∧ ∀ (j : Nat) y, j < L.length → u j = some y → 0 ≤ y → g j ≤ y := by
  have e1 : (ntS (capL L u) n).I = (ntS L n).I := by show List.range _ = List.range _; rw [capL_len]
  have mo : ∀ j, j < L.length → (ntS (capL L u) n).mo j = capM ((ntS L n).mo j) (u j) := fun j hj => by
    have hi := List.getElem?_eq_getElem hj
    simp only [ntS, capL_at, hi, Option.map_some]
  constructor
  · intro h
    refine ⟨⟨fun j hj => ?_, fun v hv => ?_⟩, fun j y hj hu h0 => ?_⟩
    · have hl : j < L.length := List.mem_range.1 hj
      have := h.b j (by rw [e1]; exact hj)
      rw [mo j hl] at this
      exact ⟨this.1, Int.le_trans this.2 (capM_le _ _)⟩
    · rw [← capL_exf L u]; exact h.ex v hv
    · have := h.b j (by rw [e1]; exact List.mem_range.2 hj)
      rw [mo j hj] at this
      exact (capM_iff.1 this.2).2 y hu h0
  · rintro ⟨h, hu⟩
    refine ⟨fun j hj => ?_, fun v hv => ?_⟩
    · rw [e1] at hj
      have hl : j < L.length := List.mem_range.1 hj
      have := h.b j hj
      rw [mo j hl]
      exact ⟨this.1, capM_iff.2 ⟨this.2, fun z hz h0 => hu j z hl hz h0⟩⟩
    · rw [capL_exf]; exact h.ex v hv
section
variable {x : Gi_Lanes} {n f t days : Nat}
theorem poss_loop (h : Ask x n f t days) {u : List Int} (hu : u.length = (netS x f t n days).length) : ∀ (m i : Nat), i + m = u.length →
    loop Bs_qPossible (.h1 (f : Int) (t : Int) (days : Int) u ((u.length : Nat) : Int) (i : Int) x (((days + 1) * n : Nat) : Int) (capL (netS x f t n days) fun j => if j < i then u[j]? else none)) =
      loop Bs_qPossible (.h1 (f : Int) (t : Int) (days : Int) u ((u.length : Nat) : Int) ((u.length : Nat) : Int) x (((days + 1) * n : Nat) : Int) (capL (netS x f t n days) fun j => if j < u.length then u[j]? else none))
  | 0, i, hm => by
    have : i = u.length := by omega
    subst this
    rfl
  | m + 1, i, hm => by
    have hlen := (netS_wf (days := days) h.ln (f : Int) (t : Int) h.dle).len
    have hi : i < u.length := by omega
    have hy := List.getElem?_eq_getElem hi
    generalize u[i] = y at hy
    have hy' : u[Int.toNat (i : Int)]? = some y := hy
    have ha := List.getElem?_eq_getElem (show i < (netS x f t n days).length by omega)
    generalize (netS x f t n days)[i]'(by omega) = a at ha
    have hc : (capL (netS x f t n days) fun j => if j < i then u[j]? else none)[Int.toNat (i : Int)]? = some (Gs_qArc.mk a.from_ a.to_ a.most a.flow) := by
      rw [Int.toNat_natCast, capL_at, ha]
      simp [capM]
    have step : ∀ L', L' = (capL (netS x f t n days) fun j => if j < i + 1 then u[j]? else none) → loop Bs_qPossible (.h1 (f : Int) (t : Int) (days : Int) u ((u.length : Nat) : Int) ((i + 1 : Nat) : Int) x (((days + 1) * n : Nat) : Int) L') = loop Bs_qPossible (.h1 (f : Int) (t : Int) (days : Int) u ((u.length : Nat) : Int) ((u.length : Nat) : Int) x (((days + 1) * n : Nat) : Int) (capL (netS x f t n days) fun j => if j < u.length then u[j]? else none)) := fun L' e => by
      rw [e]
      exact poss_loop h hu m (i + 1) (by omega)
    rw [loop_eq, Bs_qPossible.eq_1, if_pos (by omega), if_pos (by omega), obind hy']
    by_cases c : y ≥ 0
    · have hl : Ds_l1Least a.most y = some (if a.most < y then a.most else y) := by unfold Ds_l1Least; split <;> rfl
      rw [if_pos c, if_pos (by omega), obind hc, obind hl, if_pos (by omega), obind hc, wsucc (by omega)]
      refine step _ (List.ext_getElem? fun j => ?_)
      rw [Int.toNat_natCast, List.getElem?_set, capL_len, capL_at, capL_at]
      by_cases e : i = j
      · subst e
        rw [if_pos rfl, if_pos (by omega), ha]
        simp [capM, hy, c]
      · rw [if_neg e]
        cases (netS x f t n days)[j]? with
        | none => rfl
        | some b =>
          simp only [Option.map_some]
          rw [show (if j < i + 1 then u[j]? else none) = (if j < i then u[j]? else none) by by_cases q : j < i <;> simp [q, show (j < i + 1) ↔ (j < i) by omega]]
    · rw [if_neg c, wsucc (by omega)]
      refine step _ (List.ext_getElem? fun j => ?_)
      rw [capL_at, capL_at]
      by_cases e : i = j
      · subst e
        rw [ha]
        simp [capM, hy, c]
      · cases (netS x f t n days)[j]? with
        | none => rfl
        | some b =>
          simp only [Option.map_some]
          rw [show (if j < i + 1 then u[j]? else none) = (if j < i then u[j]? else none) by by_cases q : j < i <;> simp [q, show (j < i + 1) ↔ (j < i) by omega]]
theorem possible_s (h : Ask x n f t days) {u : List Int} (hu : u.length = (netS x f t n days).length) : ∃ F', Ds_qPossible x (f : Int) (t : Int) (days : Int) u = some F' ∧
    (grd x f t days ≤ F' ↔ ∃ g, IsFl (ntS (netS x f t n days) ((days + 1) * n)) f (days * n + t) (grd x f t days) g ∧ ∀ (j : Nat) y, u[j]? = some y → 0 ≤ y → g j ≤ y) := by
  have hmo := netS_mo (days := days) h.ln (f : Int) (t : Int)
  have hnet := net_s h.ln (f : Int) (t : Int) (show days ≤ 10 by have := h.dle; omega)
  have wf0 := netS_wf (days := days) h.ln (f : Int) (t : Int) h.dle
  generalize hue : (fun j => if j < u.length then u[j]? else none : Nat → Option Int) = u' at *
  have wf := capL_wf wf0 u'
  have hb0 : FbS (capL (netS x f t n days) u') (fun _ => 0) := by
    refine ⟨fun i y hy => ?_, fun i y hy => ?_, fun _ _ => rfl⟩
    · rw [capL_at, Option.map_eq_some_iff] at hy
      obtain ⟨a, ha, rfl⟩ := hy
      exact ⟨by omega, capM_nn (hmo i a ha).1 _⟩
    · rw [capL_at, Option.map_eq_some_iff] at hy
      obtain ⟨a, ha, rfl⟩ := hy
      have := (hmo i a ha).2
      have := capM_le a.most (u' i)
      simp only
      omega
  obtain ⟨fl, F', e1, e2, e3⟩ := fillQ wf h.s h.e h.se (lim := 10000000) (by omega) (by omega) hb0
  have hz : setG (capL (netS x f t n days) u') (fun _ => 0) = capL (netS x f t n days) u' := by
    refine List.ext_getElem? fun i => ?_
    rw [setG_at]
    cases hy : (capL (netS x f t n days) u')[i]? with
    | none => rfl
    | some y =>
      rw [capL_at, Option.map_eq_some_iff] at hy
      obtain ⟨a, ha, rfl⟩ := hy
      rcases netS_cases h.ln _ _ ha with ⟨d, r, l, hdd, hl, rfl⟩ | ⟨d, k, m, hdd, hm, rfl⟩ <;> rfl
  rw [hz] at e1
  have hfl : IsFl (ntS (capL (netS x f t n days) u') ((days + 1) * n)) f (days * n + t) F' fl := ⟨e2.nt, fun v _ => by rw [e3.ex v, exf_zero]; omega⟩
  have hfl' := capL_fl.1 hfl
  obtain ⟨gs, _, _, _, grw⟩ := grd_s h
  obtain ⟨S0, k1, k2, k3⟩ := grw.sh
  have hgreat := grw.fw.eq_cap wf0.ok h.s h.e k2 k3 k1
  have hle : F' ≤ grd x f t days := by
    have := hfl'.1.le_cap wf0.ok h.s h.e k2 k3
    omega
  have hu' : ∀ j y, u' j = some y ↔ u[j]? = some y := fun j y => by
    rw [← hue]
    by_cases q : j < u.length
    · simp only [if_pos q]
    · simp only [if_neg q, List.getElem?_eq_none (show u.length ≤ j by omega)]
  have hlt : ∀ (j : Nat) y, u[j]? = some y → j < (netS x f t n days).length := fun j y hy => by rw [← hu]; exact (List.getElem?_eq_some_iff.1 hy).1
  refine ⟨F', ?_, fun hF => ?_, ?_⟩
  · unfold Ds_qPossible
    rw [obind hnet]
    have hz0 : (capL (netS x f t n days) fun j => if j < 0 then u[j]? else none) = netS x f t n days := by
      refine List.ext_getElem? fun i => ?_
      rw [capL_at]
      cases (netS x f t n days)[i]? <;> simp [capM]
    have := poss_loop h hu u.length 0 (by omega)
    rw [hz0, hue] at this
    refine this.trans ?_
    rw [loop_eq, Bs_qPossible.eq_1, if_neg (by omega), wT h, obind e1, if_pos (by simp only [setG_len])]
    rfl
  · have : F' = grd x f t days := by omega
    rw [this] at hfl'
    exact ⟨fl, hfl'.1, fun j y hy h0 => hfl'.2 j y (hlt j y hy) ((hu' j y).2 hy) h0⟩
  · rintro ⟨g, hg, hgu⟩
    have hgc := (capL_fl (u := u')).2 ⟨hg, fun j y hj hy h0 => hgu j y ((hu' j y).1 hy) h0⟩
    rcases e3.sh with hsh | ⟨S, s1, s2, s3⟩
    · have := grw.f1
      omega
    · have a1 := hfl.eq_cap wf.ok h.s h.e s2 s3 s1
      have a2 := hgc.le_cap wf.ok h.s h.e s2 s3
      omega
end

theorem flow_le {ι : Type} {N : Nt ι} (h : N.Ok) {s t : Nat} {F : Int} {f : ι → Int} (H : IsFl N s t F f) (hs : s < N.n) (ht : t < N.n) {lv : Nat → Nat} (hlv : ∀ i ∈ N.I, lv (N.tt i) = lv (N.fr i) + 1) (h0 : lv s = 0) {i : ι} (hi : i ∈ N.I) (hT : lv (N.fr i) < lv t) : f i ≤ F := by
  have e := H.net h hs ht (fun v => decide (lv v ≤ lv (N.fr i)))
  simp only [decide_eq_true_eq] at e
  rw [if_neg (by omega), if_pos (by omega)] at e
  have e2 : lsm (fun j => (if lv (N.fr j) ≤ lv (N.fr i) then f j else 0) - (if lv (N.tt j) ≤ lv (N.fr i) then f j else 0)) N.I = F := by
    unfold netf at e
    simp only [decide_eq_true_eq] at e
    rw [lsm_sub] at e ⊢
    omega
  have hnn : ∀ j ∈ N.I, 0 ≤ (if lv (N.fr j) ≤ lv (N.fr i) then f j else 0) - (if lv (N.tt j) ≤ lv (N.fr i) then f j else 0) := fun j hj => by
    have := (H.b j hj).1
    have := hlv j hj
    split <;> split <;> omega
  have := lsm_nn_mem hnn i hi
  rw [e2] at this
  have hl := hlv i hi
  rw [if_pos (Nat.le_refl _), if_neg (by omega)] at this
  omega
theorem dmod {d b r : Nat} (h : r < b) : (d * b + r) / b = d ∧ (d * b + r) % b = r := by
  have hb : 0 < b := by omega
  rw [Nat.mul_comm]
  exact ⟨by rw [Nat.mul_add_div hb, Nat.div_eq_of_lt h, Nat.add_zero], by rw [Nat.mul_add_mod, Nat.mod_eq_of_lt h]⟩
def toS (ll n days : Nat) (fi : Nat → Int) (j : Nat) : Int := if j < days * (ll + n) then (if j % (ll + n) < ll then fi (j / (ll + n) * ll + j % (ll + n)) else fi (days * ll + (j / (ll + n) * n + (j % (ll + n) - ll)))) else 0
def toI (ll n days : Nat) (fs : Nat → Int) (i : Nat) : Int := if i < days * ll then fs (i / ll * (ll + n) + i % ll) else if i < days * ll + days * n then fs ((i - days * ll) / n * (ll + n) + (ll + (i - days * ll) % n)) else 0
theorem ltmul {d days b r : Nat} (hdv0 : d < days) (hr : r < b) : d * b + r < days * b := by
  have := Nat.mul_le_mul_right b (show d + 1 ≤ days from hdv0)
  rw [Nat.add_mul, Nat.one_mul] at this
  omega
section
variable {x : Gi_Lanes} {n f t days : Nat}
theorem sameS (fi : Nat → Int) : SameF x n days fi (toS x.Lanes.length n days fi) where
  la d r hdv0 hr := by
    have h1 := ltmul (b := x.Lanes.length + n) hdv0 (show r < x.Lanes.length + n by omega)
    have h2 := dmod (d := d) (b := x.Lanes.length + n) (r := r) (by omega)
    unfold toS
    rw [if_pos h1, h2.1, h2.2, if_pos hr]
  sa d k hdv0 hk := by
    have h1 := ltmul (b := x.Lanes.length + n) hdv0 (show x.Lanes.length + k < x.Lanes.length + n by omega)
    have h2 := dmod (d := d) (b := x.Lanes.length + n) (r := x.Lanes.length + k) (by omega)
    unfold toS
    rw [if_pos h1, h2.1, h2.2, if_neg (by omega), Nat.add_sub_cancel_left]
theorem sameI (fs : Nat → Int) : SameF x n days (toI x.Lanes.length n days fs) fs where
  la d r hdv0 hr := by
    have h1 := ltmul (b := x.Lanes.length) hdv0 hr
    have h2 := dmod (d := d) hr
    unfold toI
    rw [if_pos h1, h2.1, h2.2]
  sa d k hdv0 hk := by
    have h1 := ltmul (b := n) hdv0 hk
    have h2 := dmod (d := d) hk
    unfold toI
    rw [if_neg (by omega), if_pos (by omega), Nat.add_sub_cancel_left, h2.1, h2.2]
theorem idxI {i : Nat} (hi : i < days * x.Lanes.length + days * n) : (∃ d r, d < days ∧ r < x.Lanes.length ∧ i = d * x.Lanes.length + r) ∨ ∃ d k, d < days ∧ k < n ∧ i = days * x.Lanes.length + (d * n + k) := by
  by_cases c : i < days * x.Lanes.length
  · have hl : 0 < x.Lanes.length := Nat.pos_of_ne_zero fun e => by rw [e] at c; omega
    exact .inl ⟨i / x.Lanes.length, i % x.Lanes.length, (Nat.div_lt_iff_lt_mul hl).2 c, Nat.mod_lt _ hl, by rw [Nat.mul_comm]; exact (Nat.div_add_mod i _).symm⟩
  · have hn : 0 < n := Nat.pos_of_ne_zero fun e => by rw [e] at hi; omega
    exact .inr ⟨(i - days * x.Lanes.length) / n, (i - days * x.Lanes.length) % n, (Nat.div_lt_iff_lt_mul hn).2 (by omega), Nat.mod_lt _ hn, by have := Nat.div_add_mod (i - days * x.Lanes.length) n; rw [Nat.mul_comm] at this; omega⟩
theorem idxS {j : Nat} (hj : j < days * (x.Lanes.length + n)) : (∃ d r, d < days ∧ r < x.Lanes.length ∧ j = d * (x.Lanes.length + n) + r) ∨ ∃ d k, d < days ∧ k < n ∧ j = d * (x.Lanes.length + n) + (x.Lanes.length + k) := by
  have hl : 0 < x.Lanes.length + n := Nat.pos_of_ne_zero fun e => by rw [e] at hj; omega
  have e := Nat.div_add_mod j (x.Lanes.length + n)
  rw [Nat.mul_comm] at e
  have hm := Nat.mod_lt j hl
  have hdv := (Nat.div_lt_iff_lt_mul hl).2 hj
  by_cases c : j % (x.Lanes.length + n) < x.Lanes.length
  · exact .inl ⟨_, _, hdv, c, e.symm⟩
  · exact .inr ⟨_, j % (x.Lanes.length + n) - x.Lanes.length, hdv, by omega, by omega⟩
theorem flI_to_S (h : Ask x n f t days) {F : Int} {fi fs : Nat → Int} (hF : F ≤ 1000000) (hs : SameF x n days fi fs) (H : IsFl (ntI (netI x f t n days) ((days + 1) * n)) f (days * n + t) F fi) : IsFl (ntS (netS x f t n days) ((days + 1) * n)) f (days * n + t) F fs := by
  have wi := (netI_wf (days := days) h.ln (f : Int) (t : Int) h.dle).ok
  have hn := h.ln.n0
  refine ⟨fun j hj => ?_, fun v hv => by rw [hs.exf h.ln]; exact H.ex v hv⟩
  have hj : j < (netS x f t n days).length := List.mem_range.1 hj
  rw [netS_len h.ln] at hj
  rcases idxS hj with ⟨d, r, hdd, hr, rfl⟩ | ⟨d, k, hdd, hk, rfl⟩
  · obtain ⟨l, a1, a2, a3, a4⟩ := arcI_la h.ln (f : Int) (t : Int) ((days + 1) * n) hdd hr
    obtain ⟨l', b1, b2, b3, b4⟩ := arcS_la h.ln (f : Int) (t : Int) ((days + 1) * n) hdd hr
    rw [a1] at b1
    cases b1
    have hI : d * x.Lanes.length + r ∈ (ntI (netI x f t n days) ((days + 1) * n)).I := List.mem_range.2 (by rw [netI_len h.ln]; have := ltmul (b := x.Lanes.length) hdd hr; omega)
    have := H.b _ hI
    rw [a4] at this
    rw [b4, hs.la d r hdd hr]
    exact this
  · obtain ⟨l, a1, a2, a3, a4⟩ := arcI_sa h.ln (f : Int) (t : Int) ((days + 1) * n) hdd hk
    obtain ⟨l', b1, b2, b3, b4⟩ := arcS_sa h.ln (f : Int) (t : Int) ((days + 1) * n) hdd hk
    rw [a1] at b1
    cases b1
    have hI : days * x.Lanes.length + (d * n + k) ∈ (ntI (netI x f t n days) ((days + 1) * n)).I := List.mem_range.2 (by rw [netI_len h.ln]; have := ltmul (b := n) hdd hk; omega)
    have := H.b _ hI
    rw [a4] at this
    rw [b4, hs.sa d k hdd hk]
    refine ⟨this.1, ?_⟩
    by_cases c : (k : Int) = f ∨ (k : Int) = t
    · rw [if_pos c]
      have hle := flow_le wi H h.s h.e (lv := fun v => v / n) (fun i hi => by
        have hi : i < (netI x f t n days).length := List.mem_range.1 hi
        rw [netI_len h.ln] at hi
        rcases idxI hi with ⟨d', r', hdv0', hr', rfl⟩ | ⟨d', k', hdv0', hk', rfl⟩
        · obtain ⟨l, c1, c2, c3, c4⟩ := arcI_la h.ln (f : Int) (t : Int) ((days + 1) * n) hdv0' hr'
          have wl := h.ln.la l (List.mem_of_getElem? c1)
          simp only [c2, c3]
          rw [(dmod (show l.To.toNat < n by omega)).1, (dmod (show l.From.toNat < n by omega)).1]
        · obtain ⟨l, c1, c2, c3, c4⟩ := arcI_sa h.ln (f : Int) (t : Int) ((days + 1) * n) hdv0' hk'
          simp only [c2, c3]
          rw [(dmod hk').1, (dmod hk').1]) (Nat.div_eq_of_lt h.flt) hI (by
        simp only [a2]
        rw [(dmod hk).1, (dmod h.tlt).1]
        exact hdd)
      omega
    · rw [if_neg c] at this ⊢
      exact this.2
theorem flS_to_I (h : Ask x n f t days) {F : Int} {fi fs : Nat → Int} (hs : SameF x n days fi fs) (H : IsFl (ntS (netS x f t n days) ((days + 1) * n)) f (days * n + t) F fs) : IsFl (ntI (netI x f t n days) ((days + 1) * n)) f (days * n + t) F fi := by
  have hn := h.ln.n0
  refine ⟨fun j hj => ?_, fun v hv => by rw [← hs.exf h.ln]; exact H.ex v hv⟩
  have hj : j < (netI x f t n days).length := List.mem_range.1 hj
  rw [netI_len h.ln] at hj
  rcases idxI hj with ⟨d, r, hdd, hr, rfl⟩ | ⟨d, k, hdd, hk, rfl⟩
  · obtain ⟨l, a1, a2, a3, a4⟩ := arcI_la h.ln (f : Int) (t : Int) ((days + 1) * n) hdd hr
    obtain ⟨l', b1, b2, b3, b4⟩ := arcS_la h.ln (f : Int) (t : Int) ((days + 1) * n) hdd hr
    rw [a1] at b1
    cases b1
    have hI : d * (x.Lanes.length + n) + r ∈ (ntS (netS x f t n days) ((days + 1) * n)).I := List.mem_range.2 (by rw [netS_len h.ln]; exact ltmul hdd (by omega))
    have := H.b _ hI
    rw [b4, hs.la d r hdd hr] at this
    rw [a4]
    exact this
  · obtain ⟨l, a1, a2, a3, a4⟩ := arcI_sa h.ln (f : Int) (t : Int) ((days + 1) * n) hdd hk
    obtain ⟨l', b1, b2, b3, b4⟩ := arcS_sa h.ln (f : Int) (t : Int) ((days + 1) * n) hdd hk
    rw [a1] at b1
    cases b1
    have hI : d * (x.Lanes.length + n) + (x.Lanes.length + k) ∈ (ntS (netS x f t n days) ((days + 1) * n)).I := List.mem_range.2 (by rw [netS_len h.ln]; exact ltmul hdd (by omega))
    have := H.b _ hI
    rw [b4, hs.sa d k hdd hk] at this
    rw [a4]
    refine ⟨this.1, Int.le_trans this.2 ?_⟩
    split <;> omega
end

section
variable {x : Gi_Lanes} {n f t days : Nat}
theorem planned_eq {N : Nt Nat} {s t : Nat} {F : Int} {g g' : Nat → Int} {z : Nat} (hl : ∀ i, i < z → LeastAt N s t F g i) (hg : IsFl N s t F g') {i : Nat} (hi : i ≤ z) (hle : ∀ j, j < i → g' j ≤ g j) : ∀ j, j < i → g' j = g j := by
  intro j
  induction j using Nat.strongRecOn with
  | _ j ih =>
    intro hj
    have := hl j (by omega) g' hg fun q hq => ih q hq (by omega)
    have := hle j hj
    omega
def fixL (ll n days : Nat) (g : Nat → Int) (j0 : Nat) : List Int := (List.range (days * (ll + n))).map fun j => if j < j0 ∧ j % (ll + n) < ll then toS ll n days g j else -1
theorem fixL_len (ll n days : Nat) (g : Nat → Int) (j0 : Nat) : (fixL ll n days g j0).length = days * (ll + n) := by simp [fixL]
theorem fixL_at {ll n days : Nat} {g : Nat → Int} {j0 j : Nat} (hj : j < days * (ll + n)) : (fixL ll n days g j0)[j]? = some (if j < j0 ∧ j % (ll + n) < ll then toS ll n days g j else -1) := by
  unfold fixL
  rw [List.getElem?_map, List.getElem?_range hj]
  rfl
theorem fixL_lane {ll n days : Nat} {g : Nat → Int} {j0 : Nat} (h : j0 < days * (ll + n)) (hr : j0 % (ll + n) < ll) : (fixL ll n days g j0).set j0 (toS ll n days g j0) = fixL ll n days g (j0 + 1) := by
  refine List.ext_getElem? fun j => ?_
  rw [List.getElem?_set, fixL_len]
  by_cases hj : j < days * (ll + n)
  · by_cases e : j0 = j
    · subst e
      rw [if_pos rfl, if_pos h, fixL_at h, if_pos ⟨by omega, hr⟩]
    · rw [if_neg e, fixL_at hj, fixL_at hj]
      congr 1
      have q : (j < j0 + 1) = (j < j0) := propext ⟨fun _ => by omega, fun _ => by omega⟩
      simp only [q]
  · rw [List.getElem?_eq_none (by rw [fixL_len]; omega), if_neg (by omega), List.getElem?_eq_none (by rw [fixL_len]; omega)]
theorem fixL_store {ll n days : Nat} {g : Nat → Int} {j0 : Nat} (hr : ¬ j0 % (ll + n) < ll) : fixL ll n days g j0 = fixL ll n days g (j0 + 1) := by
  unfold fixL
  refine List.map_congr_left fun j _ => ?_
  by_cases e : j = j0
  · subst e
    rw [if_neg (by omega), if_neg (fun q => hr q.2)]
  · have q : (j < j0 + 1) = (j < j0) := propext ⟨fun _ => by omega, fun _ => by omega⟩
    simp only [q]
theorem poss_iff (h : Ask x n f t days) {g : Nat → Int} (hp : Planned (netI x f t n days) ((days + 1) * n) f (days * n + t) (grd x f t days) (days * x.Lanes.length) g) {d r : Nat} (hdd : d < days) (hr : r < x.Lanes.length) {mid : Int} (hm : 0 ≤ mid) :
    ∃ F', Ds_qPossible x (f : Int) (t : Int) (days : Int) ((fixL x.Lanes.length n days g (d * (x.Lanes.length + n) + r)).set (d * (x.Lanes.length + n) + r) mid) = some F' ∧ (grd x f t days ≤ F' ↔ g (d * x.Lanes.length + r) ≤ mid) := by
  have hj0 := ltmul (b := x.Lanes.length + n) hdd (show r < x.Lanes.length + n by omega)
  have hi0 := ltmul (b := x.Lanes.length) hdd hr
  obtain ⟨F', e1, e2⟩ := possible_s h (u := (fixL x.Lanes.length n days g (d * (x.Lanes.length + n) + r)).set (d * (x.Lanes.length + n) + r) mid) (by rw [List.length_set, fixL_len, netS_len h.ln])
  refine ⟨F', e1, e2.trans ⟨?_, ?_⟩⟩
  · rintro ⟨gs, k1, k2⟩
    have s1 := sameI (x := x) (n := n) (days := days) gs
    have k3 := flS_to_I h s1 k1
    have hle : ∀ j, j < d * x.Lanes.length + r → toI x.Lanes.length n days gs j ≤ g j := fun j hj => by
      have hjl : j < days * x.Lanes.length := by omega
      rcases idxI (x := x) (n := n) (days := days) (i := j) (by omega) with ⟨d', r', q1, q2, rfl⟩ | ⟨d', k', q1, q2, rfl⟩
      · rw [← s1.la d' r' q1 q2]
        have hlt : d' * (x.Lanes.length + n) + r' < d * (x.Lanes.length + n) + r := by
          rcases Nat.lt_trichotomy d' d with c | c | c
          · have := Nat.mul_le_mul_right (x.Lanes.length + n) (show d' + 1 ≤ d from c)
            rw [Nat.add_mul, Nat.one_mul] at this
            omega
          · subst c; omega
          · have := Nat.mul_le_mul_right x.Lanes.length (show d + 1 ≤ d' from c)
            rw [Nat.add_mul, Nat.one_mul] at this
            omega
        have hgv : toS x.Lanes.length n days g (d' * (x.Lanes.length + n) + r') = g (d' * x.Lanes.length + r') := (sameS (x := x) g).la d' r' q1 q2
        have hmod := dmod (d := d') (b := x.Lanes.length + n) (r := r') (by omega)
        have hb := hp.fw.b (d' * x.Lanes.length + r') (List.mem_range.2 (by rw [netI_len h.ln]; omega))
        refine k2 _ _ ?_ hb.1
        rw [List.getElem?_set_ne (by omega), fixL_at (by omega), if_pos ⟨hlt, by rw [hmod.2]; exact q2⟩, hgv]
      · omega
    have heq := planned_eq hp.least k3 (Nat.le_of_lt hi0) hle
    have hl := hp.least (d * x.Lanes.length + r) hi0 _ k3 heq
    rw [← s1.la d r hdd hr] at hl
    have := k2 (d * (x.Lanes.length + n) + r) mid (by rw [List.getElem?_set_self (by rw [fixL_len]; exact hj0)]) hm
    omega
  · intro hge
    refine ⟨toS x.Lanes.length n days g, flI_to_S h (by have := (grd_i h).choose_spec.2.2.f1; omega) (sameS g) hp.fw, fun j y hy h0 => ?_⟩
    have hjl : j < days * (x.Lanes.length + n) := by
      have := (List.getElem?_eq_some_iff.1 hy).1
      rw [List.length_set, fixL_len] at this
      exact this
    by_cases e : d * (x.Lanes.length + n) + r = j
    · subst e
      rw [List.getElem?_set_self (by rw [fixL_len]; exact hj0)] at hy
      cases hy
      rw [(sameS (x := x) g).la d r hdd hr]
      exact hge
    · rw [List.getElem?_set_ne e, fixL_at hjl] at hy
      cases hy
      by_cases c : j < d * (x.Lanes.length + n) + r ∧ j % (x.Lanes.length + n) < x.Lanes.length
      · rw [if_pos c]; omega
      · rw [if_neg c] at h0; omega
theorem half_loop (h : Ask x n f t days) {g : Nat → Int} (hp : Planned (netI x f t n days) ((days + 1) * n) f (days * n + t) (grd x f t days) (days * x.Lanes.length) g) {d r g0 : Nat} (hdd : d < days) (hr : r < x.Lanes.length) (hg : g (d * x.Lanes.length + r) = (g0 : Int)) {out : List Int} (ho : out.length ≤ 1000) : ∀ (k lo hi : Nat) (y : Int), hi - lo ≤ k → lo ≤ g0 → g0 ≤ hi → hi ≤ 1000 →
    loop Bs_qLeast (.h3 (f : Int) (t : Int) (days : Int) (grd x f t days) ((days * (x.Lanes.length + n) : Nat) : Int) ((d * (x.Lanes.length + n) + r : Nat) : Int) (lo : Int) (hi : Int) x ((fixL x.Lanes.length n days g (d * (x.Lanes.length + n) + r)).set (d * (x.Lanes.length + n) + r) y) out) =
      loop Bs_qLeast (.h2 (f : Int) (t : Int) (days : Int) (grd x f t days) ((days * (x.Lanes.length + n) : Nat) : Int) ((d * (x.Lanes.length + n) + r + 1 : Nat) : Int) x (fixL x.Lanes.length n days g (d * (x.Lanes.length + n) + r + 1)) (out ++ [(g0 : Int)])) := by
  have hj0 := ltmul (b := x.Lanes.length + n) hdd (show r < x.Lanes.length + n by omega)
  have hnd := h.ln.ndL h.dle
  have hj1 : days * (x.Lanes.length + n) ≤ 200 := by rw [Nat.mul_add]; omega
  have hmod := dmod (d := d) (b := x.Lanes.length + n) (r := r) (by omega)
  have hgv : toS x.Lanes.length n days g (d * (x.Lanes.length + n) + r) = (g0 : Int) := by rw [(sameS (x := x) g).la d r hdd hr, hg]
  have hlane := fixL_lane (g := g) hj0 (by rw [hmod.2]; exact hr)
  rw [hgv] at hlane
  have hget : ∀ y, ((fixL x.Lanes.length n days g (d * (x.Lanes.length + n) + r)).set (d * (x.Lanes.length + n) + r) y)[Int.toNat ((d * (x.Lanes.length + n) + r : Nat) : Int)]? = some y := fun y => by rw [Int.toNat_natCast, List.getElem?_set_self (by rw [fixL_len]; exact hj0)]
  generalize hJ : d * (x.Lanes.length + n) + r = J at *
  intro k
  induction k with
  | zero =>
    intro lo hi y hk h1 h2 h3
    have : lo = g0 := by omega
    subst this
    rw [loop_eq, Bs_qLeast.eq_3, if_neg (by omega), if_pos (by omega), obind (hget y), if_pos (by simp; omega), wsucc (by omega), Int.toNat_natCast, List.set_set, hlane]
    rfl
  | succ k ih =>
    intro lo hi y hk h1 h2 h3
    by_cases c : lo < hi
    · have hmid : IntKind.wrap .i64 (Int.tdiv (IntKind.wrap .i64 ((lo : Int) + (hi : Int))) 2) = (((lo + hi) / 2 : Nat) : Int) := by
        rw [w64 (n := (lo : Int) + (hi : Int)) (by omega), show (lo : Int) + (hi : Int) = ((lo + hi : Nat) : Int) by omega, show (2 : Int) = ((2 : Nat) : Int) by rfl, ← Int.ofNat_tdiv, w64 (by omega)]
      obtain ⟨F', e1, e2⟩ := poss_iff h hp hdd hr (mid := (((lo + hi) / 2 : Nat) : Int)) (by omega)
      rw [hJ, hg] at *
      rw [loop_eq, Bs_qLeast.eq_3, if_pos (by omega), if_pos (by omega), obind (hget y), hmid, Int.toNat_natCast, List.set_set, obind e1]
      by_cases c2 : grd x f t days ≤ F'
      · have := e2.1 c2
        rw [if_pos (by exact c2)]
        exact ih lo ((lo + hi) / 2) _ (by omega) h1 (by omega) (by omega)
      · have := fun q => c2 (e2.2 q)
        rw [if_neg (by exact c2), wsucc (by omega)]
        exact ih ((lo + hi) / 2 + 1) hi _ (by omega) (by omega) h2 h3
    · have : lo = g0 := by omega
      subst this
      rw [loop_eq, Bs_qLeast.eq_3, if_neg (by omega), if_pos (by omega), obind (hget y), if_pos (by simp; omega), wsucc (by omega), Int.toNat_natCast, List.set_set, hlane]
      rfl
end

section
variable {x : Gi_Lanes} {n f t days : Nat}
theorem fixL_own {ll n days : Nat} {g : Nat → Int} {j0 : Nat} (h : j0 < days * (ll + n)) : (fixL ll n days g j0).set j0 (-1) = fixL ll n days g j0 := by
  refine List.ext_getElem? fun j => ?_
  rw [List.getElem?_set, fixL_len]
  by_cases e : j0 = j
  · subst e
    rw [if_pos rfl, if_pos h, fixL_at h, if_neg (by omega)]
  · rw [if_neg e]
theorem least_lanes (h : Ask x n f t days) {g : Nat → Int} (hp : Planned (netI x f t n days) ((days + 1) * n) f (days * n + t) (grd x f t days) (days * x.Lanes.length) g) {d : Nat} (hdd : d < days) : ∀ (m r : Nat), r + m = x.Lanes.length →
    loop Bs_qLeast (.h2 (f : Int) (t : Int) (days : Int) (grd x f t days) ((days * (x.Lanes.length + n) : Nat) : Int) ((d * (x.Lanes.length + n) + r : Nat) : Int) x (fixL x.Lanes.length n days g (d * (x.Lanes.length + n) + r)) ((List.range (d * x.Lanes.length + r)).map g)) =
      loop Bs_qLeast (.h2 (f : Int) (t : Int) (days : Int) (grd x f t days) ((days * (x.Lanes.length + n) : Nat) : Int) ((d * (x.Lanes.length + n) + x.Lanes.length : Nat) : Int) x (fixL x.Lanes.length n days g (d * (x.Lanes.length + n) + x.Lanes.length)) ((List.range (d * x.Lanes.length + x.Lanes.length)).map g))
  | 0, r, hm => by
    have : r = x.Lanes.length := by omega
    rw [this]
  | m + 1, r, hm => by
    have hr : r < x.Lanes.length := by omega
    have hn := h.ln.n0
    have hlen := h.ln.len
    have hj0 := ltmul (b := x.Lanes.length + n) hdd (show r < x.Lanes.length + n by omega)
    have hi0 := ltmul (b := x.Lanes.length) hdd hr
    have hnd := h.ln.ndL h.dle
    have hmod := dmod (d := d) (b := x.Lanes.length + n) (r := r) (by omega)
    obtain ⟨l, a1, a2, a3, a4⟩ := arcI_la h.ln (f : Int) (t : Int) ((days + 1) * n) hdd hr
    have wl := h.ln.la l (List.mem_of_getElem? a1)
    have hb := hp.fw.b (d * x.Lanes.length + r) (List.mem_range.2 (by rw [netI_len h.ln]; omega))
    rw [a4] at hb
    have hw : IntKind.wrap .i64 (((x.Lanes.length : Nat) : Int) + x.Depots) = ((x.Lanes.length + n : Nat) : Int) := by rw [h.ln.dep, w64 (by omega)]; omega
    have htm : Int.tmod ((d * (x.Lanes.length + n) + r : Nat) : Int) ((x.Lanes.length + n : Nat) : Int) = (r : Int) := by rw [← Int.ofNat_tmod, hmod.2]
    have hl' : x.Lanes[Int.toNat (r : Int)]? = some l := a1
    have hlo : l.Load = ((l.Load.toNat : Nat) : Int) := by omega
    have hgo : g (d * x.Lanes.length + r) = (((g (d * x.Lanes.length + r)).toNat : Nat) : Int) := by omega
    rw [loop_eq, Bs_qLeast.eq_2, if_pos (by omega), hw, if_pos (by omega), htm, if_neg (by omega), if_pos (by omega), if_pos (by omega), obind hl']
    have hh := half_loop h hp hdd hr hgo (out := (List.range (d * x.Lanes.length + r)).map g) (by simp; omega) l.Load.toNat 0 l.Load.toNat (-1) (by omega) (by omega) (by omega) (by omega)
    rw [fixL_own hj0, ← hlo, ← hgo] at hh
    refine hh.trans ?_
    have e : (List.range (d * x.Lanes.length + r)).map g ++ [g (d * x.Lanes.length + r)] = (List.range (d * x.Lanes.length + (r + 1))).map g := by rw [← Nat.add_assoc, List.range_succ, List.map_append]; rfl
    rw [e, Nat.add_assoc]
    exact least_lanes h hp hdd m (r + 1) (by omega)
theorem least_stores (h : Ask x n f t days) {g : Nat → Int} {out : List Int} {d : Nat} (hdd : d < days) : ∀ (m k : Nat), k + m = n →
    loop Bs_qLeast (.h2 (f : Int) (t : Int) (days : Int) (grd x f t days) ((days * (x.Lanes.length + n) : Nat) : Int) ((d * (x.Lanes.length + n) + (x.Lanes.length + k) : Nat) : Int) x (fixL x.Lanes.length n days g (d * (x.Lanes.length + n) + (x.Lanes.length + k))) out) =
      loop Bs_qLeast (.h2 (f : Int) (t : Int) (days : Int) (grd x f t days) ((days * (x.Lanes.length + n) : Nat) : Int) (((d + 1) * (x.Lanes.length + n) : Nat) : Int) x (fixL x.Lanes.length n days g ((d + 1) * (x.Lanes.length + n))) out)
  | 0, k, hm => by
    have : k = n := by omega
    subst this
    rw [Nat.add_mul, Nat.one_mul]
  | m + 1, k, hm => by
    have hn := h.ln.n0
    have hlen := h.ln.len
    have hnd := h.ln.ndL h.dle
    have hj0 := ltmul (b := x.Lanes.length + n) hdd (show x.Lanes.length + k < x.Lanes.length + n by omega)
    have hj1 : days * (x.Lanes.length + n) ≤ 200 := by rw [Nat.mul_add]; omega
    have hmod := dmod (d := d) (b := x.Lanes.length + n) (r := x.Lanes.length + k) (by omega)
    have hw : IntKind.wrap .i64 (((x.Lanes.length : Nat) : Int) + x.Depots) = ((x.Lanes.length + n : Nat) : Int) := by rw [h.ln.dep, w64 (by omega)]; omega
    have htm : Int.tmod ((d * (x.Lanes.length + n) + (x.Lanes.length + k) : Nat) : Int) ((x.Lanes.length + n : Nat) : Int) = ((x.Lanes.length + k : Nat) : Int) := by rw [← Int.ofNat_tmod, hmod.2]
    rw [loop_eq, Bs_qLeast.eq_2, if_pos (by omega), hw, if_pos (by omega), htm, if_pos (by omega), wsucc (by omega), fixL_store (by rw [hmod.2]; omega), Nat.add_assoc, Nat.add_assoc]
    exact least_stores h hdd m (k + 1) (by omega)
theorem least_days (h : Ask x n f t days) {g : Nat → Int} (hp : Planned (netI x f t n days) ((days + 1) * n) f (days * n + t) (grd x f t days) (days * x.Lanes.length) g) : ∀ (m d : Nat), d + m = days →
    loop Bs_qLeast (.h2 (f : Int) (t : Int) (days : Int) (grd x f t days) ((days * (x.Lanes.length + n) : Nat) : Int) ((d * (x.Lanes.length + n) : Nat) : Int) x (fixL x.Lanes.length n days g (d * (x.Lanes.length + n))) ((List.range (d * x.Lanes.length)).map g)) = some ((List.range (days * x.Lanes.length)).map g)
  | 0, d, hm => by
    have : d = days := by omega
    subst this
    rw [loop_eq, Bs_qLeast.eq_2, if_neg (by omega)]
    rfl
  | m + 1, d, hm => by
    have e1 := least_lanes h hp (show d < days by omega) x.Lanes.length 0 (by omega)
    rw [Nat.add_zero, Nat.add_zero] at e1
    have e2 := least_stores h (g := g) (out := (List.range (d * x.Lanes.length + x.Lanes.length)).map g) (show d < days by omega) n 0 (by omega)
    rw [Nat.add_zero] at e2
    refine e1.trans (e2.trans ?_)
    rw [show d * x.Lanes.length + x.Lanes.length = (d + 1) * x.Lanes.length by rw [Nat.add_mul, Nat.one_mul]]
    exact least_days h hp m (d + 1) (by omega)
theorem least_fill {g : Nat → Int} {a b c w : Int} {C : Nat} (hC : C ≤ 1000) (hCn : C = days * (x.Lanes.length + n)) : ∀ (m k : Nat), k + m = C →
    loop Bs_qLeast (.h1 a b c w ((C : Nat) : Int) ((C : Nat) : Int) (k : Int) x (List.replicate k (-1) ++ List.replicate m 0) []) = loop Bs_qLeast (.h2 a b c w ((C : Nat) : Int) 0 x (fixL x.Lanes.length n days g 0) [])
  | 0, k, hk => by
    have : k = C := by omega
    subst this
    rw [loop_eq, Bs_qLeast.eq_1, if_neg (by omega)]
    have e : List.replicate k (-1 : Int) ++ List.replicate 0 0 = fixL x.Lanes.length n days g 0 := by
      refine List.ext_getElem? fun j => ?_
      rw [List.replicate_zero, List.append_nil, List.getElem?_replicate]
      by_cases hj : j < k
      · rw [if_pos hj, fixL_at (by omega), if_neg (by omega)]
      · rw [if_neg hj, List.getElem?_eq_none (by rw [fixL_len]; omega)]
    rw [e]
    rfl
  | m + 1, k, hk => by
    have e : (List.replicate k (-1 : Int) ++ List.replicate (m + 1) 0)[Int.toNat (k : Int)]? = some 0 := by simp
    have e2 : (List.replicate k (-1 : Int) ++ List.replicate (m + 1) 0).set (Int.toNat (k : Int)) (-1) = List.replicate (k + 1) (-1) ++ List.replicate m 0 := by
      rw [Int.toNat_natCast, List.set_append_right _ _ (by simp), List.length_replicate, Nat.sub_self, List.replicate_succ, List.set_cons_zero, List.replicate_succ', List.append_assoc]
      rfl
    rw [loop_eq, Bs_qLeast.eq_1, if_pos (by omega), if_pos (by omega), obind e, e2, wsucc (by omega)]
    exact least_fill hC hCn m (k + 1) (by omega)
theorem leastQ_s (h : Ask x n f t days) {g : Nat → Int} (hp : Planned (netI x f t n days) ((days + 1) * n) f (days * n + t) (grd x f t days) (days * x.Lanes.length) g) : Ds_qLeast x (f : Int) (t : Int) (days : Int) = some ((List.range (days * x.Lanes.length)).map g) := by
  have hn := h.ln.n0
  have hlen := h.ln.len
  have hdl := h.dle
  have hnd := h.ln.ndL h.dle
  have hj1 : days * (x.Lanes.length + n) ≤ 200 := by rw [Nat.mul_add]; omega
  obtain ⟨_, e, _⟩ := grd_s h
  have hw : IntKind.wrap .i64 (((x.Lanes.length : Nat) : Int) + x.Depots) = ((x.Lanes.length + n : Nat) : Int) := by rw [h.ln.dep, w64 (by omega)]; omega
  have hw2 : IntKind.wrap .i64 ((days : Int) * ((x.Lanes.length + n : Nat) : Int)) = ((days * (x.Lanes.length + n) : Nat) : Int) := wdn (by omega) (by omega)
  unfold Ds_qLeast
  rw [obind e, hw, hw2, if_pos (by omega), if_pos (by omega)]
  simp only [Int.toNat_natCast, List.length_replicate]
  have e1 := least_fill (x := x) (n := n) (days := days) (g := g) (a := f) (b := t) (c := days) (w := grd x f t days) (show days * (x.Lanes.length + n) ≤ 1000 by omega) rfl (days * (x.Lanes.length + n)) 0 (by omega)
  have e2 := least_days h hp days 0 (by omega)
  rw [Nat.zero_mul, Nat.zero_mul] at e2
  exact e1.trans e2
theorem planS_loop {g : Nat → Int} {D : Nat} (hD : D ≤ 1000) (hll : 0 < x.Lanes.length ∨ D = 0) : ∀ (m i : Nat) (out : List Gi_Convoy), i + m = D → out.length ≤ i →
    loop Bs_DeliveryPlan (.h1 ((((List.range D).map g).length : Nat) : Int) (i : Int) x out ((List.range D).map g)) = some (out ++ planL x.Lanes.length g i m, true)
  | 0, i, out, hm, ho => by
    rw [loop_eq, Bs_DeliveryPlan.eq_1, if_neg (by simp; omega)]
    simp [goOn, planL]
  | m + 1, i, out, hm, ho => by
    have hx : ((List.range D).map g)[Int.toNat (i : Int)]? = some (g i) := by rw [Int.toNat_natCast, List.getElem?_map, List.getElem?_range (by omega)]; rfl
    have hne : ¬ ((x.Lanes.length : Nat) : Int) = 0 := by omega
    have hdiv : Int.tdiv (i : Int) ((x.Lanes.length : Nat) : Int) = ((i / x.Lanes.length : Nat) : Int) := by rw [← Int.ofNat_tdiv]
    have hmod : Int.tmod (i : Int) ((x.Lanes.length : Nat) : Int) = ((i % x.Lanes.length : Nat) : Int) := by rw [← Int.ofNat_tmod]
    have hdw : IntKind.wrap .i64 ((i / x.Lanes.length : Nat) : Int) = ((i / x.Lanes.length : Nat) : Int) := w64 (by have hdv := Nat.div_le_self i x.Lanes.length; generalize i / x.Lanes.length = dv at hdv ⊢; omega)
    rw [loop_eq, Bs_DeliveryPlan.eq_1, if_pos (by simp; omega), if_pos (by omega), obind hx, planL_succ]
    by_cases c : g i > 0
    · rw [if_pos c, if_pos hne, if_pos hne, hdiv, hmod, hdw, if_pos (by simp; omega), wsucc (by omega), if_pos c, ← List.append_assoc]
      exact planS_loop hD hll m (i + 1) _ (by omega) (by simp; omega)
    · rw [if_neg c, wsucc (by omega), if_neg c, List.nil_append]
      exact planS_loop hD hll m (i + 1) _ (by omega) (by omega)
theorem plan_s (h : Ask x n f t days) {g : Nat → Int} (hp : Planned (netI x f t n days) ((days + 1) * n) f (days * n + t) (grd x f t days) (days * x.Lanes.length) g) : Ds_DeliveryPlan x (f : Int) (t : Int) (days : Int) = some (planL x.Lanes.length g 0 (days * x.Lanes.length), true) := by
  have hst : x.Stores.length ≤ 2000000 := by have := h.ln.st; have := h.ln.n0; omega
  have hask : askG x f t days = true := askG_iff.2 ⟨n, f, t, days, rfl, rfl, rfl, h⟩
  have hnd := h.ln.ndL h.dle
  unfold Ds_DeliveryPlan
  rw [ask_s hst, obind rfl, if_pos hask, obind (leastQ_s h hp)]
  have := planS_loop (x := x) (g := g) (D := days * x.Lanes.length) (by omega) (by rcases Nat.eq_zero_or_pos x.Lanes.length with e | e; exact .inr (by rw [e]; rfl); exact .inl e) (days * x.Lanes.length) 0 [] (by omega) (by simp)
  rw [List.nil_append] at this
  exact this
end

def gcQ (x : Gi_Lanes) (days : Int) (l : List Gi_Convoy) (i : Nat) (c : Gi_Convoy) : Bool :=
  kIn c.Day 0 (days - 1) && (kIn c.Lane 0 ((x.Lanes.length : Int) - 1) && ((match x.Lanes[c.Lane.toNat]? with | some a => kIn c.Load 1 a.Load | none => false) &&
    (decide (i = 0) || match l[i - 1]? with | some p => !decide (p.Day > c.Day) && !(decide (p.Day = c.Day) && decide (p.Lane ≥ c.Lane)) | none => false)))
theorem goodConvoys_i {x : Gi_Lanes} {n : Nat} (h : LnOk x n) {days : Int} (hdy : 0 ≤ days ∧ days ≤ 6) {l : List Gi_Convoy} (hl : l.length ≤ 2000000) : Di_goodConvoys x days l = some (alli (gcQ x days l) l) := by
  have hlen := h.len
  unfold Di_goodConvoys
  refine all_loop (B := Bi_goodConvoys) (S := fun i => .h1 days l l (l.length : Int) (i : Int) x) (l := l) (q := gcQ x days l) (fun i c hc hi _ => ?_) ?_
  · have hc' : l[Int.toNat (i : Int)]? = some c := hc
    rw [Bi_goodConvoys.eq_1, if_pos (by omega), if_pos (by omega), obind hc', isIndex_i (by omega), obind rfl]
    unfold gcQ
    rcases Bool.eq_false_or_eq_true (kIn c.Day 0 (days - 1)) with c1 | c1
    · rw [if_pos c1, isIndex_i (by omega), obind rfl, c1]
      rcases Bool.eq_false_or_eq_true (kIn c.Lane 0 ((x.Lanes.length : Int) - 1)) with c2 | c2
      · have hk := kIn_iff.1 c2
        have ha := List.getElem?_eq_getElem (show c.Lane.toNat < x.Lanes.length by omega)
        generalize x.Lanes[c.Lane.toNat] = a at ha
        rw [if_pos c2, if_pos hk.1, obind ha, kin_i, obind rfl, c2, ha]
        simp only [Bool.true_and]
        rcases Bool.eq_false_or_eq_true (kIn c.Load 1 a.Load) with c3 | c3
        · rw [if_pos c3, c3]
          simp only [Bool.true_and]
          by_cases c4 : i = 0
          · rw [if_neg (by omega), if_pos (by simp [c4]), wsucc (by omega)]
          · have hp := List.getElem?_eq_getElem (show i - 1 < l.length by omega)
            generalize l[i - 1] = p at hp
            have hw : IntKind.wrap .i64 ((i : Int) - 1) = ((i - 1 : Nat) : Int) := by rw [w64 (by omega)]; omega
            have hp' : l[Int.toNat ((i - 1 : Nat) : Int)]? = some p := hp
            rw [if_pos (by omega), hw, if_pos (by omega), obind hp', hp]
            simp only [decide_eq_false c4, Bool.false_or]
            by_cases c5 : p.Day > c.Day
            · rw [if_pos c5, if_neg (by simp [c5])]
            · rw [if_neg c5, if_pos (by omega), obind hp']
              by_cases c6 : p.Day = c.Day
              · rw [if_pos c6, if_pos (by omega), obind hp']
                by_cases c7 : p.Lane ≥ c.Lane
                · rw [if_pos c7, if_neg (by simp [c6, c7])]
                · rw [if_neg c7, if_pos (by simp [c6, c7]), wsucc (by omega)]
              · rw [if_neg c6, if_pos (by simp [c5, c6]), wsucc (by omega)]
        · rw [if_neg (by simp [c3]), if_neg (by simp [c3])]
      · rw [if_neg (by simp [c2]), if_neg (by simp [c2])]
    · rw [if_neg (by simp [c1]), if_neg (by simp [c1])]
  · rw [Bi_goodConvoys.eq_1, if_neg (by omega)]

theorem form_s {x : Gi_Lanes} {n : Nat} (h : LnOk x n) {days : Int} (hdy : 0 ≤ days ∧ days ≤ 6) {l : List Gi_Convoy} (hl : l.length ≤ 2000000) : Ds_qForm x days l = some (alli (gcQ x days l) l && decide (((l.length : Nat) : Int) ≤ 100)) := by
  have hlen := h.len
  unfold Ds_qForm
  refine all_loop2 (B := Bs_qForm) (S := fun i => .h1 days l l (l.length : Int) (i : Int) x) (l := l) (q := gcQ x days l) (fun i c hc hi hall => ?_) ?_
  · have hc' : l[Int.toNat (i : Int)]? = some c := hc
    rw [Bs_qForm.eq_1, if_pos (by omega), if_pos (by omega), obind hc', w64 (n := days - 1) (by omega), kin_s, obind rfl]
    unfold gcQ
    rcases Bool.eq_false_or_eq_true (kIn c.Day 0 (days - 1)) with c1 | c1
    · rw [if_pos c1, w64 (n := ((x.Lanes.length : Nat) : Int) - 1) (by omega), kin_s, obind rfl, c1]
      have hk1 := kIn_iff.1 c1
      rcases Bool.eq_false_or_eq_true (kIn c.Lane 0 ((x.Lanes.length : Int) - 1)) with c2 | c2
      · have hk := kIn_iff.1 c2
        have ha := List.getElem?_eq_getElem (show c.Lane.toNat < x.Lanes.length by omega)
        generalize x.Lanes[c.Lane.toNat] = a at ha
        rw [if_pos c2, if_pos hk.1, obind ha, kin_s, obind rfl, c2, ha]
        simp only [Bool.true_and]
        rcases Bool.eq_false_or_eq_true (kIn c.Load 1 a.Load) with c3 | c3
        · rw [if_pos c3, c3]
          simp only [Bool.true_and]
          by_cases c4 : i = 0
          · rw [if_neg (by omega), if_pos (by simp [c4]), wsucc (by omega)]
          · have hp := List.getElem?_eq_getElem (show i - 1 < l.length by omega)
            have hq := hall (i - 1) _ (by omega) hp
            generalize l[i - 1] = p at hp hq
            unfold gcQ at hq
            simp only [Bool.and_eq_true] at hq
            have hp1 := kIn_iff.1 hq.1
            have hp2 := kIn_iff.1 hq.2.1
            have hw : IntKind.wrap .i64 ((i : Int) - 1) = ((i - 1 : Nat) : Int) := by rw [w64 (by omega)]; omega
            have hp' : l[Int.toNat ((i - 1 : Nat) : Int)]? = some p := hp
            have hv : ∀ u v : Int, 0 ≤ u → u ≤ 10 → 0 ≤ v → v ≤ 20 → IntKind.wrap .i64 (IntKind.wrap .i64 (u * 15) + v) = u * 15 + v := fun u v a1 a2 a3 a4 => by rw [w64 (n := u * 15) (by omega), w64 (by omega)]
            rw [if_pos (by omega), hw, if_pos (by omega), obind hp', if_pos (by omega), obind hp', hp, hv p.Day p.Lane (by omega) (by omega) (by omega) (by omega), hv c.Day c.Lane (by omega) (by omega) (by omega) (by omega)]
            simp only [decide_eq_false c4, Bool.false_or]
            by_cases c5 : p.Day > c.Day
            · rw [if_pos (by omega), if_neg (by simp [c5])]
            · by_cases c6 : p.Day = c.Day
              · by_cases c7 : p.Lane ≥ c.Lane
                · rw [if_pos (by omega), if_neg (by simp [c6, c7])]
                · rw [if_neg (by omega), if_pos (by simp [c6, c7]), wsucc (by omega)]
              · rw [if_neg (by omega), if_pos (by simp [c5, c6]), wsucc (by omega)]
        · rw [if_neg (by simp [c3]), if_neg (by simp [c3])]
      · rw [if_neg (by simp [c2]), if_neg (by simp [c2])]
    · rw [if_neg (by simp [c1]), if_neg (by simp [c1])]
  · rw [Bs_qForm.eq_1, if_neg (by omega)]

def mapN (n : Nat) (A : Nat → Int) : List Int := (List.range n).map A
theorem mapN_len (n : Nat) (A : Nat → Int) : (mapN n A).length = n := by simp [mapN]
theorem mapN_at {n : Nat} {A : Nat → Int} {k : Nat} (hk : k < n) : (mapN n A)[k]? = some (A k) := by
  unfold mapN
  rw [List.getElem?_map, List.getElem?_range hk]
  rfl
theorem mapN_set {n : Nat} {A : Nat → Int} {k : Nat} (hk : k < n) (y : Int) : (mapN n A).set k y = mapN n (updF A k y) := by
  refine List.ext_getElem? fun j => ?_
  rw [List.getElem?_set, mapN_len]
  by_cases hj : j < n
  · rw [show (mapN n (updF A k y))[j]? = some (updF A k y j) from mapN_at hj]
    by_cases e : k = j
    · subst e; rw [if_pos rfl, if_pos hk]; simp [updF]
    · rw [if_neg e, mapN_at hj]
      simp only [updF]
      rw [if_neg (Ne.symm e)]
  · by_cases e : k = j
    · omega
    · rw [if_neg e, List.getElem?_eq_none (by rw [mapN_len]; omega), List.getElem?_eq_none (by rw [mapN_len]; omega)]
theorem mapN_zero (n : Nat) : List.replicate n (0 : Int) = mapN n fun _ => 0 := by
  refine List.ext_getElem? fun j => ?_
  by_cases hj : j < n
  · rw [mapN_at hj, List.getElem?_replicate, if_pos hj]
  · rw [List.getElem?_eq_none (by rw [List.length_replicate]; omega), List.getElem?_eq_none (by rw [mapN_len]; omega)]
def lnOf (x : Gi_Lanes) (c : Gi_Convoy) : Nat × Nat := match x.Lanes[c.Lane.toNat]? with
  | some a => (a.From.toNat, a.To.toNat)
  | none => (0, 0)
def depF (x : Gi_Lanes) (d : Int) (l : List Gi_Convoy) (A : Nat → Int) : Nat → Int := l.foldl (fun A c => if c.Day = d then updF A (lnOf x c).1 (A (lnOf x c).1 - c.Load) else A) A
def arrF (x : Gi_Lanes) (d : Int) (l : List Gi_Convoy) (A : Nat → Int) : Nat → Int := l.foldl (fun A c => if c.Day = d then updF A (lnOf x c).2 (A (lnOf x c).2 + c.Load) else A) A
def CvOk (x : Gi_Lanes) (l : List Gi_Convoy) : Prop := ∀ c ∈ l, 0 ≤ c.Lane ∧ c.Lane < (x.Lanes.length : Int) ∧ 0 ≤ c.Load ∧ c.Load ≤ 1000
theorem day_i {x : Gi_Lanes} {n : Nat} (h : LnOk x n) {f t b e : Int} {d : Int} {l : List Gi_Convoy} (hl : l.length ≤ 1000) (hc : CvOk x l) : ∀ (m i : Nat) (A C : Nat → Int) (B : Int), i + m = l.length → 0 ≤ B → B + m * 1000 ≤ 1000000000 → (∀ k, -B ≤ A k ∧ A k ≤ B) → (∀ k, -B ≤ C k ∧ C k ≤ B) →
    loop Bi_CheckConvoys (.h2 f t l d b e l ((l.length : Nat) : Int) (i : Int) x (mapN n A) (mapN n C)) = loop Bi_CheckConvoys (.h3 f t l b e ((n : Nat) : Int) 0 x (mapN n (depF x d (l.drop i) A)) (mapN n (arrF x d (l.drop i) C)))
  | 0, i, A, C, B, hm, h0, hB, hA, hC => by
    rw [loop_eq, Bi_CheckConvoys.eq_2, if_neg (by omega), List.drop_eq_nil_of_le (by omega), mapN_len]
    rfl
  | m + 1, i, A, C, B, hm, h0, hB, hA, hC => by
    have hi : i < l.length := by omega
    have hx := List.getElem?_eq_getElem hi
    have hdr := List.drop_eq_getElem_cons hi
    have hcl := hc _ (List.getElem_mem hi)
    generalize l[i] = c at hx hdr hcl
    have hx' : l[Int.toNat (i : Int)]? = some c := hx
    have hll : c.Lane.toNat < x.Lanes.length := by omega
    have ha := List.getElem?_eq_getElem hll
    have wa := h.la _ (List.getElem_mem hll)
    generalize x.Lanes[c.Lane.toNat] = a at ha wa
    have hln : lnOf x c = (a.From.toNat, a.To.toNat) := by unfold lnOf; rw [ha]
    have hA1 := hA a.From.toNat
    have hC1 := hC a.To.toNat
    have gA : (mapN n A)[Int.toNat a.From]? = some (A a.From.toNat) := mapN_at (by omega)
    have gC : (mapN n C)[Int.toNat a.To]? = some (C a.To.toNat) := mapN_at (by omega)
    rw [loop_eq, Bi_CheckConvoys.eq_2, if_pos (by omega), if_pos (by omega), obind hx', hdr]
    unfold depF arrF
    rw [List.foldl_cons, List.foldl_cons, hln]
    by_cases c1 : c.Day = d
    · rw [if_pos c1, if_pos hcl.1, obind ha, if_pos wa.1, obind gA, if_pos wa.1, obind gA, if_pos hcl.1, obind ha, if_pos wa.2.2.1, obind gC, if_pos wa.2.2.1, obind gC, wsucc (by omega), w64 (n := A a.From.toNat - c.Load) (by omega), w64 (n := C a.To.toNat + c.Load) (by omega), mapN_set (by omega), mapN_set (by omega), if_pos c1, if_pos c1]
      exact day_i h hl hc m (i + 1) _ _ (B + 1000) (by omega) (by omega) (by omega) (fun k => by
        unfold updF
        have := hA k
        split <;> omega) fun k => by
        unfold updF
        have := hC k
        split <;> omega
    · rw [if_neg c1, wsucc (by omega), if_neg c1, if_neg c1]
      exact day_i h hl hc m (i + 1) A C B (by omega) h0 (by omega) hA hC
theorem day_s {x : Gi_Lanes} {n : Nat} (h : LnOk x n) {f t dy : Int} {d : Int} {l : List Gi_Convoy} (hl : l.length ≤ 1000) (hc : CvOk x l) : ∀ (m i : Nat) (A C : Nat → Int) (B : Int), i + m = l.length → 0 ≤ B → B + m * 1000 ≤ 1000000000 → (∀ k, -B ≤ A k ∧ A k ≤ B) → (∀ k, -B ≤ C k ∧ C k ≤ B) →
    loop Bs_qRun (.h2 f t dy l d l ((l.length : Nat) : Int) (i : Int) x (mapN n C) (mapN n A)) = loop Bs_qRun (.h3 f t dy l d ((n : Nat) : Int) 0 x (mapN n (arrF x d (l.drop i) C)) (mapN n (depF x d (l.drop i) A)))
  | 0, i, A, C, B, hm, h0, hB, hA, hC => by
    rw [loop_eq, Bs_qRun.eq_2, if_neg (by omega), List.drop_eq_nil_of_le (by omega), mapN_len]
    rfl
  | m + 1, i, A, C, B, hm, h0, hB, hA, hC => by
    have hi : i < l.length := by omega
    have hx := List.getElem?_eq_getElem hi
    have hdr := List.drop_eq_getElem_cons hi
    have hcl := hc _ (List.getElem_mem hi)
    generalize l[i] = c at hx hdr hcl
    have hx' : l[Int.toNat (i : Int)]? = some c := hx
    have hll : c.Lane.toNat < x.Lanes.length := by omega
    have ha := List.getElem?_eq_getElem hll
    have wa := h.la _ (List.getElem_mem hll)
    generalize x.Lanes[c.Lane.toNat] = a at ha wa
    have hln : lnOf x c = (a.From.toNat, a.To.toNat) := by unfold lnOf; rw [ha]
    have hA1 := hA a.From.toNat
    have hC1 := hC a.To.toNat
    have gA : (mapN n A)[Int.toNat a.From]? = some (A a.From.toNat) := mapN_at (by omega)
    have gC : (mapN n C)[Int.toNat a.To]? = some (C a.To.toNat) := mapN_at (by omega)
    rw [loop_eq, Bs_qRun.eq_2, if_pos (by omega), if_pos (by omega), obind hx', hdr]
    unfold depF arrF
    rw [List.foldl_cons, List.foldl_cons, hln]
    by_cases c1 : c.Day = d
    · rw [if_pos c1, if_pos hcl.1, obind ha, if_pos wa.1, obind gA, if_pos wa.1, obind gA, if_pos hcl.1, obind ha, if_pos wa.2.2.1, obind gC, if_pos wa.2.2.1, obind gC, wsucc (by omega), w64 (n := A a.From.toNat - c.Load) (by omega), w64 (n := C a.To.toNat + c.Load) (by omega), mapN_set (by omega), mapN_set (by omega), if_pos c1, if_pos c1]
      exact day_s h hl hc m (i + 1) _ _ (B + 1000) (by omega) (by omega) (by omega) (fun k => by
        unfold updF
        have := hA k
        split <;> omega) fun k => by
        unfold updF
        have := hC k
        split <;> omega
    · rw [if_neg c1, wsucc (by omega), if_neg c1, if_neg c1]
      exact day_s h hl hc m (i + 1) A C B (by omega) h0 (by omega) hA hC

def kOk (x : Gi_Lanes) (f t : Nat) (A : Nat → Int) (k : Nat) : Bool := decide (k = f) || (decide (0 ≤ A k) && (decide (k = t) || match x.Stores[k]? with | some m => decide (A k ≤ m) | none => false))
def okDay (x : Gi_Lanes) (f t : Nat) (A : Nat → Int) (i m : Nat) : Bool := (List.range' i m).all (kOk x f t A)
theorem okDay_succ (x : Gi_Lanes) (f t : Nat) (A : Nat → Int) (i m : Nat) : okDay x f t A i (m + 1) = (kOk x f t A i && okDay x f t A (i + 1) m) := by
  unfold okDay
  rw [List.range'_succ, List.all_cons]
def mixA (A C : Nat → Int) (i : Nat) (k : Nat) : Int := if k < i then A k + C k else A k
theorem mixA_succ (A C : Nat → Int) (i : Nat) : updF (mixA A C i) i (A i + C i) = mixA A C (i + 1) := by
  funext k
  unfold updF mixA
  by_cases e : k = i
  · subst e; rw [if_pos rfl, if_pos (by omega)]
  · rw [if_neg e]
    by_cases c : k < i
    · rw [if_pos c, if_pos (by omega)]
    · rw [if_neg c, if_neg (by omega)]
theorem check_i {x : Gi_Lanes} {n f t : Nat} (h : LnOk x n) {l : List Gi_Convoy} {b e : Int} {A C : Nat → Int} (hA : ∀ k, -1000000000 ≤ A k ∧ A k ≤ 1000000000) (hC : ∀ k, -1000000000 ≤ C k ∧ C k ≤ 1000000000) : ∀ (m i : Nat), i + m = n →
    loop Bi_CheckConvoys (.h3 (f : Int) (t : Int) l b e ((n : Nat) : Int) (i : Int) x (mapN n (mixA A C i)) (mapN n C)) = if okDay x f t A i m = true then loop Bi_CheckConvoys (.h1 (f : Int) (t : Int) l b (IntKind.wrap .i64 (e + 1)) x (mapN n (mixA A C n))) else some (2, 0, true)
  | 0, i, hm => by
    have : i = n := by omega
    subst this
    rw [loop_eq, Bi_CheckConvoys.eq_3, if_neg (by omega), if_pos (by simp [okDay])]
    rfl
  | m + 1, i, hm => by
    have hn := h.n0
    have gA : (mapN n (mixA A C i))[Int.toNat (i : Int)]? = some (A i) := by
      rw [Int.toNat_natCast, mapN_at (by omega)]
      simp [mixA]
    have gC : (mapN n C)[Int.toNat (i : Int)]? = some (C i) := mapN_at (by omega)
    have hw : IntKind.wrap .i64 (A i + C i) = A i + C i := w64 (by have := hA i; have := hC i; omega)
    have hset : (mapN n (mixA A C i)).set (Int.toNat (i : Int)) (A i + C i) = mapN n (mixA A C (i + 1)) := by rw [Int.toNat_natCast, mapN_set (by omega), mixA_succ]
    have hs := List.getElem?_eq_getElem (show i < x.Stores.length by rw [h.st]; omega)
    generalize x.Stores[i]'(by rw [h.st]; omega) = sm at hs
    have hs' : x.Stores[Int.toNat (i : Int)]? = some sm := hs
    have ih := check_i (f := f) (t := t) (l := l) (b := b) (e := e) h hA hC m (i + 1) (by omega)
    rw [loop_eq, Bi_CheckConvoys.eq_3, if_pos (by omega), if_pos (by omega), obind gA, okDay_succ]
    have h0 : (0 : Int) ≤ (i : Int) := by omega
    by_cases c1 : i = f
    · have hk : kOk x f t A i = true := by simp [kOk, c1]
      rw [if_pos (by omega), if_pos h0, obind gA, if_pos h0, obind gC, if_pos h0, obind gA, hw, hset, wsucc (by omega), hk, Bool.true_and]
      exact ih
    · rw [if_neg (by omega)]
      by_cases c2 : A i < 0
      · have hk : kOk x f t A i = false := by simp [kOk, c1]; omega
        rw [if_pos c2, hk, if_neg (by simp)]
        rfl
      · rw [if_neg c2]
        by_cases c3 : i = t
        · have hk : kOk x f t A i = true := by simp [kOk, c1, c3]; rw [c3] at c2; omega
          rw [if_pos (by omega), if_pos h0, obind gA, if_pos h0, obind gC, if_pos h0, obind gA, hw, hset, wsucc (by omega), hk, Bool.true_and]
          exact ih
        · rw [if_neg (by omega), if_pos h0, obind hs']
          by_cases c4 : A i > sm
          · have hk : kOk x f t A i = false := by simp [kOk, c1, c3, hs]; omega
            rw [if_pos c4, hk, if_neg (by simp)]
            rfl
          · have hk : kOk x f t A i = true := by simp [kOk, c1, c3, hs]; omega
            rw [if_neg c4, if_pos h0, obind gA, if_pos h0, obind gC, if_pos h0, obind gA, hw, hset, wsucc (by omega), hk, Bool.true_and]
            exact ih
def mixS (A C : Nat → Int) (f i : Nat) (k : Nat) : Int := if k < i ∧ k ≠ f then C k + A k else C k
theorem mixS_succ {A C : Nat → Int} {f i : Nat} (h : i ≠ f) : updF (mixS A C f i) i (C i + A i) = mixS A C f (i + 1) := by
  funext k
  unfold updF mixS
  by_cases e : k = i
  · subst e; rw [if_pos rfl, if_pos ⟨by omega, h⟩]
  · rw [if_neg e]
    by_cases c : k < i ∧ k ≠ f
    · rw [if_pos c, if_pos ⟨by omega, c.2⟩]
    · rw [if_neg c, if_neg (fun q => c ⟨by omega, q.2⟩)]
theorem mixS_skip (A C : Nat → Int) (f : Nat) : mixS A C f f = mixS A C f (f + 1) := by
  funext k
  unfold mixS
  by_cases c : k < f ∧ k ≠ f
  · rw [if_pos c, if_pos ⟨by omega, c.2⟩]
  · rw [if_neg c, if_neg (fun q => c ⟨by omega, q.2⟩)]
theorem check_s {x : Gi_Lanes} {n f t : Nat} (h : LnOk x n) (hf : f < n) {l : List Gi_Convoy} {dy d : Int} {A C : Nat → Int} (hA : ∀ k, -1000000000 ≤ A k ∧ A k ≤ 1000000000) (hC : ∀ k, -1000000000 ≤ C k ∧ C k ≤ 1000000000) : ∀ (m i : Nat), i + m = n →
    loop Bs_qRun (.h3 (f : Int) (t : Int) dy l d ((n : Nat) : Int) (i : Int) x (mapN n (mixS A C f i)) (mapN n A)) = if okDay x f t A i m = true then loop Bs_qRun (.h1 (f : Int) (t : Int) dy l (IntKind.wrap .i64 (d + 1)) x (mapN n (updF (mixS A C f n) f 0))) else some ([], false)
  | 0, i, hm => by
    have : i = n := by omega
    subst this
    have gF : (mapN i (mixS A C f i))[Int.toNat (f : Int)]? = some (mixS A C f i f) := mapN_at hf
    rw [loop_eq, Bs_qRun.eq_3, if_neg (by omega), if_pos (by omega), obind gF, if_pos (by simp [okDay]), Int.toNat_natCast, mapN_set hf]
    rfl
  | m + 1, i, hm => by
    have hn := h.n0
    have gA : (mapN n A)[Int.toNat (i : Int)]? = some (A i) := mapN_at (by omega)
    have gC : (mapN n (mixS A C f i))[Int.toNat (i : Int)]? = some (C i) := by
      rw [Int.toNat_natCast, mapN_at (by omega)]
      simp [mixS]
    have hw : IntKind.wrap .i64 (C i + A i) = C i + A i := w64 (by have := hA i; have := hC i; omega)
    have hs := List.getElem?_eq_getElem (show i < x.Stores.length by rw [h.st]; omega)
    generalize x.Stores[i]'(by rw [h.st]; omega) = sm at hs
    have hs' : x.Stores[Int.toNat (i : Int)]? = some sm := hs
    have ih := check_s (f := f) (t := t) (l := l) (dy := dy) (d := d) h hf hA hC m (i + 1) (by omega)
    rw [loop_eq, Bs_qRun.eq_3, if_pos (by omega), if_pos (by omega), obind gA, okDay_succ]
    have h0 : (0 : Int) ≤ (i : Int) := by omega
    by_cases c1 : i = f
    · have hk : kOk x f t A i = true := by simp [kOk, c1]
      rw [if_pos (by omega), wsucc (by omega), hk, Bool.true_and]
      rw [← c1] at ih ⊢
      rw [mixS_skip]
      exact ih
    · have hset : (mapN n (mixS A C f i)).set (Int.toNat (i : Int)) (C i + A i) = mapN n (mixS A C f (i + 1)) := by rw [Int.toNat_natCast, mapN_set (by omega), mixS_succ c1]
      rw [if_neg (by omega)]
      by_cases c2 : A i < 0
      · have hk : kOk x f t A i = false := by simp [kOk, c1]; omega
        rw [if_pos c2, hk, if_neg (by simp)]
        rfl
      · rw [if_neg c2]
        by_cases c3 : i = t
        · have hk : kOk x f t A i = true := by simp [kOk, c1, c3]; rw [c3] at c2; omega
          rw [if_pos (by omega), if_pos h0, obind gC, if_pos h0, obind gC, hw, hset, wsucc (by omega), hk, Bool.true_and]
          exact ih
        · rw [if_neg (by omega), if_pos h0, obind hs']
          by_cases c4 : A i > sm
          · have hk : kOk x f t A i = false := by simp [kOk, c1, c3, hs]; omega
            rw [if_pos c4, hk, if_neg (by simp)]
            rfl
          · have hk : kOk x f t A i = true := by simp [kOk, c1, c3, hs]; omega
            rw [if_neg c4, if_pos h0, obind gC, if_pos h0, obind gC, hw, hset, wsucc (by omega), hk, Bool.true_and]
            exact ih

theorem depF_bd {x : Gi_Lanes} {d : Int} : ∀ {l : List Gi_Convoy} {A : Nat → Int} {B : Int}, CvOk x l → (∀ k, -B ≤ A k ∧ A k ≤ B) → ∀ k, -(B + l.length * 1000) ≤ depF x d l A k ∧ depF x d l A k ≤ B + l.length * 1000
  | [], A, B, _, hA, k => by
    have := hA k
    simp only [depF, List.foldl_nil, List.length_nil]
    omega
  | c :: l, A, B, hc, hA, k => by
    have hcl := hc c (List.mem_cons_self ..)
    have ih := fun A' (h : ∀ k, -(B + 1000) ≤ A' k ∧ A' k ≤ B + 1000) => depF_bd (x := x) (d := d) (l := l) (A := A') (B := B + 1000) (fun c hm => hc c (List.mem_cons_of_mem _ hm)) h k
    unfold depF at ih ⊢
    rw [List.foldl_cons]
    have := ih (if c.Day = d then updF A (lnOf x c).1 (A (lnOf x c).1 - c.Load) else A) (fun k => by
      have h1 := hA k
      have h2 := hA (lnOf x c).1
      split
      · unfold updF
        split <;> omega
      · omega)
    simp only [List.length_cons]
    omega
theorem arrF_bd {x : Gi_Lanes} {d : Int} : ∀ {l : List Gi_Convoy} {A : Nat → Int} {B : Int}, CvOk x l → (∀ k, -B ≤ A k ∧ A k ≤ B) → ∀ k, -(B + l.length * 1000) ≤ arrF x d l A k ∧ arrF x d l A k ≤ B + l.length * 1000
  | [], A, B, _, hA, k => by
    have := hA k
    simp only [arrF, List.foldl_nil, List.length_nil]
    omega
  | c :: l, A, B, hc, hA, k => by
    have hcl := hc c (List.mem_cons_self ..)
    have ih := fun A' (h : ∀ k, -(B + 1000) ≤ A' k ∧ A' k ≤ B + 1000) => arrF_bd (x := x) (d := d) (l := l) (A := A') (B := B + 1000) (fun c hm => hc c (List.mem_cons_of_mem _ hm)) h k
    unfold arrF at ih ⊢
    rw [List.foldl_cons]
    have := ih (if c.Day = d then updF A (lnOf x c).2 (A (lnOf x c).2 + c.Load) else A) (fun k => by
      have h1 := hA k
      have h2 := hA (lnOf x c).2
      split
      · unfold updF
        split <;> omega
      · omega)
    simp only [List.length_cons]
    omega
theorem depF_at {x : Gi_Lanes} {d : Int} {k : Nat} : ∀ {l : List Gi_Convoy} {A A' : Nat → Int}, A k = A' k → depF x d l A k = depF x d l A' k
  | [], A, A', h => h
  | c :: l, A, A', h => by
    unfold depF
    rw [List.foldl_cons, List.foldl_cons]
    refine depF_at (l := l) ?_
    split
    · unfold updF
      by_cases e : k = (lnOf x c).1
      · rw [if_pos e, if_pos e, ← e, h]
      · rw [if_neg e, if_neg e, h]
    · exact h
def runD (x : Gi_Lanes) (n f t : Nat) (l : List Gi_Convoy) : Nat → Nat → (Nat → Int) → Option (Nat → Int)
  | 0, _, A => some A
  | m + 1, d, A => if okDay x f t (depF x (d : Int) l A) 0 n = true then runD x n f t l m (d + 1) (fun k => depF x (d : Int) l A k + arrF x (d : Int) l (fun _ => 0) k) else none
theorem run_i {x : Gi_Lanes} {n f t : Nat} (h : LnOk x n) (ht : t < n) {l : List Gi_Convoy} (hl : l.length ≤ 100) (hc : CvOk x l) {D : Nat} (hD : D ≤ 10) : ∀ (m d : Nat) (A : Nat → Int) (B : Int), d + m = D → 0 ≤ B → B + m * 200000 ≤ 100000000 → (∀ k, -B ≤ A k ∧ A k ≤ B) →
    loop Bi_CheckConvoys (.h1 (f : Int) (t : Int) l (D : Int) (d : Int) x (mapN n A)) = match runD x n f t l m d A with
      | some A' => some (0, A' t, true)
      | none => some (2, 0, true)
  | 0, d, A, B, hm, h0, hB, hA => by
    have gT : (mapN n A)[Int.toNat (t : Int)]? = some (A t) := mapN_at ht
    rw [loop_eq, Bi_CheckConvoys.eq_1, if_neg (by omega), if_pos (by omega), obind gT]
    rfl
  | m + 1, d, A, B, hm, h0, hB, hA => by
    have hn := h.n0
    have b1 := depF_bd (x := x) (d := (d : Int)) hc hA
    have b2 := arrF_bd (x := x) (d := (d : Int)) (A := fun _ => 0) (B := 0) hc (fun k => by omega)
    have e1 := day_i h (f := (f : Int)) (t := (t : Int)) (b := (D : Int)) (e := (d : Int)) (d := (d : Int)) (show l.length ≤ 1000 by omega) hc l.length 0 A (fun _ => 0) B (by omega) h0 (by omega) hA (fun k => by omega)
    have e2 := check_i (f := f) (t := t) (l := l) (b := (D : Int)) (e := (d : Int)) h (A := depF x (d : Int) l A) (C := arrF x (d : Int) l (fun _ => 0)) (fun k => by have := b1 k; omega) (fun k => by have := b2 k; omega) n 0 (by omega)
    have m0 : mixA (depF x (d : Int) l A) (arrF x (d : Int) l (fun _ => 0)) 0 = depF x (d : Int) l A := by funext k; simp [mixA]
    have mn : mapN n (mixA (depF x (d : Int) l A) (arrF x (d : Int) l (fun _ => 0)) n) = mapN n (fun k => depF x (d : Int) l A k + arrF x (d : Int) l (fun _ => 0) k) := by
      unfold mapN
      refine List.map_congr_left fun k hk => ?_
      have := List.mem_range.1 hk
      simp only [mixA, if_pos this]
    rw [m0, mn, wsucc (by omega)] at e2
    rw [List.drop_zero] at e1
    rw [loop_eq, Bi_CheckConvoys.eq_1, if_pos (by omega), h.dep, if_pos (by omega), if_pos (by simp; omega), Int.toNat_natCast, mapN_zero]
    refine e1.trans (e2.trans ?_)
    unfold runD
    by_cases c : okDay x f t (depF x (d : Int) l A) 0 n = true
    · rw [if_pos c, if_pos c]
      exact run_i h ht hl hc hD m (d + 1) _ (B + 200000) (by omega) (by omega) (by omega) (fun k => by have := b1 k; have := b2 k; omega)
    · rw [if_neg c, if_neg c]

theorem okDay_congr {x : Gi_Lanes} {f t n : Nat} {A A' : Nat → Int} (h : ∀ k, k < n → k ≠ f → A k = A' k) : okDay x f t A 0 n = okDay x f t A' 0 n := by
  unfold okDay
  rw [Bool.eq_iff_iff, List.all_eq_true, List.all_eq_true]
  have : ∀ k, k < n → kOk x f t A k = kOk x f t A' k := fun k hk => by
    unfold kOk
    by_cases e : k = f
    · simp [e]
    · rw [h k hk e]
  constructor
  · intro q k hk
    have := List.mem_range'_1.1 hk
    rw [← (by assumption : ∀ k, k < n → kOk x f t A k = kOk x f t A' k) k (by omega)]
    exact q k hk
  · intro q k hk
    have := List.mem_range'_1.1 hk
    rw [(by assumption : ∀ k, k < n → kOk x f t A k = kOk x f t A' k) k (by omega)]
    exact q k hk
theorem run_s {x : Gi_Lanes} {n f t : Nat} (h : LnOk x n) (hf : f < n) (ht : t < n) (hne : f ≠ t) {l : List Gi_Convoy} (hl : l.length ≤ 100) (hc : CvOk x l) {D : Nat} (hD : D ≤ 10) : ∀ (m d : Nat) (A As : Nat → Int) (B : Int), d + m = D → 0 ≤ B → B + m * 200000 ≤ 100000000 → (∀ k, -B ≤ As k ∧ As k ≤ B) → (∀ k, k < n → k ≠ f → As k = A k) →
    match runD x n f t l m d A with
      | some A' => ∃ L, loop Bs_qRun (.h1 (f : Int) (t : Int) (D : Int) l (d : Int) x (mapN n As)) = some (L, true) ∧ L[t]? = some (A' t)
      | none => loop Bs_qRun (.h1 (f : Int) (t : Int) (D : Int) l (d : Int) x (mapN n As)) = some ([], false)
  | 0, d, A, As, B, hm, h0, hB, hA, hag => by
    refine ⟨mapN n As, ?_, by rw [mapN_at ht, hag t ht (Ne.symm hne)]⟩
    rw [loop_eq, Bs_qRun.eq_1, if_neg (by omega)]
    rfl
  | m + 1, d, A, As, B, hm, h0, hB, hA, hag => by
    have hn := h.n0
    have b1 := depF_bd (x := x) (d := (d : Int)) hc hA
    have b2 := arrF_bd (x := x) (d := (d : Int)) (A := fun _ => 0) (B := 0) hc (fun k => by omega)
    have e1 := day_s h (f := (f : Int)) (t := (t : Int)) (dy := (D : Int)) (d := (d : Int)) (show l.length ≤ 1000 by omega) hc l.length 0 As (fun _ => 0) B (by omega) h0 (by omega) hA (fun k => by omega)
    have e2 := check_s (f := f) (t := t) (l := l) (dy := (D : Int)) (d := (d : Int)) h hf (A := depF x (d : Int) l As) (C := arrF x (d : Int) l (fun _ => 0)) (fun k => by have := b1 k; omega) (fun k => by have := b2 k; omega) n 0 (by omega)
    have m0 : mixS (depF x (d : Int) l As) (arrF x (d : Int) l (fun _ => 0)) f 0 = arrF x (d : Int) l (fun _ => 0) := by funext k; simp [mixS]
    rw [m0, wsucc (by omega)] at e2
    rw [List.drop_zero] at e1
    have hag2 : ∀ k, k < n → k ≠ f → depF x (d : Int) l As k = depF x (d : Int) l A k := fun k hk hkf => depF_at (hag k hk hkf)
    have own : Ds_l1Own (mapN n As) = some (mapN n As) := by unfold Ds_l1Own; rw [if_pos (by rw [mapN_len]; omega)]
    have start : loop Bs_qRun (.h1 (f : Int) (t : Int) (D : Int) l (d : Int) x (mapN n As)) = if okDay x f t (depF x (d : Int) l A) 0 n = true then loop Bs_qRun (.h1 (f : Int) (t : Int) (D : Int) l ((d + 1 : Nat) : Int) x (mapN n (updF (mixS (depF x (d : Int) l As) (arrF x (d : Int) l fun _ => 0) f n) f 0))) else some ([], false) := by
      rw [← okDay_congr hag2, loop_eq, Bs_qRun.eq_1, if_pos (by omega), h.dep, if_pos (by omega), if_pos (by simp; omega), obind own, Int.toNat_natCast, mapN_zero]
      exact e1.trans e2
    rw [start]
    unfold runD
    by_cases c : okDay x f t (depF x (d : Int) l A) 0 n = true
    · rw [if_pos c, if_pos c]
      refine run_s h hf ht hne hl hc hD m (d + 1) _ _ (B + 200000) (by omega) (by omega) (by omega) (fun k => ?_) (fun k hk hkf => ?_)
      · have := b1 k
        have := b2 k
        unfold updF mixS
        split
        · omega
        · split <;> omega
      · unfold updF mixS
        rw [if_neg hkf, if_pos ⟨hk, hkf⟩, hag2 k hk hkf]
        omega
    · rw [if_neg c, if_neg c]

theorem gcQ_ok {x : Gi_Lanes} {n : Nat} (h : LnOk x n) {days : Int} {l : List Gi_Convoy} (hg : alli (gcQ x days l) l = true) : CvOk x l := fun c hc => by
  obtain ⟨i, hi⟩ := List.getElem?_of_mem hc
  have := alli_iff.1 hg i c hi
  unfold gcQ at this
  simp only [Bool.and_eq_true] at this
  have h2 := kIn_iff.1 this.2.1
  have ha := List.getElem?_eq_getElem (show c.Lane.toNat < x.Lanes.length by omega)
  have wa := h.la _ (List.getElem_mem (show c.Lane.toNat < x.Lanes.length by omega))
  have h3 := this.2.2.1
  rw [ha] at h3
  have h3 := kIn_iff.1 h3
  omega
noncomputable def chkR (x : Gi_Lanes) (n f t days : Nat) (l : List Gi_Convoy) : Int × Int × Bool := if alli (gcQ x days l) l = true then (match runD x n f t l days 0 (fun _ => 0) with
  | some A => (0, A t, true)
  | none => (2, 0, true)) else (1, 0, true)
theorem checkConvoys_i {x : Gi_Lanes} {n f t days : Nat} (h : Ask x n f t days) {l : List Gi_Convoy} (hl : l.length ≤ 100) : Di_CheckConvoys x (f : Int) (t : Int) (days : Int) l = some (chkR x n f t days l) := by
  have hst : x.Stores.length ≤ 2000000 := by have := h.ln.st; have := h.ln.n0; omega
  have hask : askG x f t days = true := askG_iff.2 ⟨n, f, t, days, rfl, rfl, rfl, h⟩
  have hn := h.ln.n0
  have hd6 := h.dle
  unfold Di_CheckConvoys chkR
  rw [ask_i hst, obind rfl, if_pos hask, if_neg (by omega), goodConvoys_i h.ln ⟨by omega, by omega⟩ (by omega), obind rfl]
  by_cases c : alli (gcQ x days l) l = true
  · rw [if_pos c, if_pos c, h.ln.dep, if_pos (by omega), if_pos (by simp; omega), Int.toNat_natCast, mapN_zero]
    have := run_i h.ln (f := f) h.tlt hl (gcQ_ok h.ln c) (show days ≤ 10 by omega) days 0 (fun _ => 0) 0 (by omega) (by omega) (by omega) (fun k => by omega)
    refine this.trans ?_
    cases runD x n f t l days 0 fun _ => 0 <;> rfl
  · rw [if_neg c, if_neg c]
theorem checkConvoys_s {x : Gi_Lanes} {n f t days : Nat} (h : Ask x n f t days) {l : List Gi_Convoy} (hl : l.length ≤ 100) : Ds_CheckConvoys x (f : Int) (t : Int) (days : Int) l = some (chkR x n f t days l) := by
  have hst : x.Stores.length ≤ 2000000 := by have := h.ln.st; have := h.ln.n0; omega
  have hask : askG x f t days = true := askG_iff.2 ⟨n, f, t, days, rfl, rfl, rfl, h⟩
  have hn := h.ln.n0
  have hd6 := h.dle
  unfold Ds_CheckConvoys chkR
  rw [ask_s hst, obind rfl, if_pos hask, form_s h.ln ⟨by omega, by omega⟩ (by omega), obind rfl, show decide (((l.length : Nat) : Int) ≤ 100) = true by simp; omega, Bool.and_true]
  by_cases c : alli (gcQ x days l) l = true
  · have hr := run_s h.ln h.flt h.tlt h.ne hl (gcQ_ok h.ln c) (show days ≤ 10 by omega) days 0 (fun _ => 0) (fun _ => 0) 0 (by omega) (by omega) (by omega) (fun k => by omega) (fun _ _ _ => rfl)
    have hq : Ds_qRun x (f : Int) (t : Int) (days : Int) l = loop Bs_qRun (.h1 (f : Int) (t : Int) (days : Int) l ((0 : Nat) : Int) x (mapN n fun _ => 0)) := by
      unfold Ds_qRun
      rw [h.ln.dep, if_pos (by omega), if_pos (by simp; omega), Int.toNat_natCast, mapN_zero]
      rfl
    rw [if_pos c, if_pos c]
    cases hR : runD x n f t l days 0 fun _ => 0 with
    | some A =>
      rw [hR] at hr
      obtain ⟨L, e1, e2⟩ := hr
      have e2' : L[Int.toNat (t : Int)]? = some (A t) := e2
      rw [hq, obind e1, if_pos rfl, if_pos (by omega), obind e2']
    | none =>
      rw [hR] at hr
      rw [hq, obind hr, if_neg (by simp)]
  · rw [if_neg c, if_neg c]

def wlF {α : Type} (i : Nat) : Nat → List α → List α
  | _, [] => []
  | j, a :: l => if j = i then wlF i (j + 1) l else a :: wlF i (j + 1) l
theorem wlF_gt {α : Type} {i : Nat} : ∀ {l : List α} {j : Nat}, i < j → wlF i j l = l
  | [], _, _ => rfl
  | a :: l, j, h => by rw [wlF, if_neg (by omega), wlF_gt (by omega)]
theorem wlF_le {α : Type} {i : Nat} : ∀ {l : List α} {j : Nat}, j ≤ i → wlF i j l = l.take (i - j) ++ l.drop (i - j + 1)
  | [], _, _ => by simp [wlF]
  | a :: l, j, h => by
    rw [wlF]
    by_cases e : j = i
    · rw [if_pos e, wlF_gt (by omega), e, Nat.sub_self]
      rfl
    · rw [if_neg e, wlF_le (by omega), show i - j = (i - (j + 1)) + 1 by omega]
      rfl
theorem without_h2 {L : List Gi_Lane} (hL : L.length ≤ 1000000) {i : Nat} {b dp : Int} {st : List Int} : ∀ (m j : Nat) (acc : List Gi_Lane), j + m = L.length → acc.length ≤ j →
    loop Bs_qWithout (.h2 (i : Int) L ((L.length : Nat) : Int) (j : Int) b dp acc st) = some (Gi_Lanes.mk dp (acc ++ wlF i j (L.drop j)) st)
  | 0, j, acc, hm, ha => by
    rw [loop_eq, Bs_qWithout.eq_2, if_neg (by omega), List.drop_eq_nil_of_le (by omega)]
    simp [goOn, wlF]
  | m + 1, j, acc, hm, ha => by
    have hj : j < L.length := by omega
    have hx' : L[Int.toNat (j : Int)]? = some L[j] := List.getElem?_eq_getElem hj
    rw [loop_eq, Bs_qWithout.eq_2, if_pos (by omega), if_pos (by omega), obind hx', List.drop_eq_getElem_cons hj, wlF]
    by_cases e : j = i
    · rw [if_pos (by omega), wsucc (by omega), if_pos e]
      exact without_h2 hL m (j + 1) acc (by omega) (by omega)
    · rw [if_neg (by omega), if_pos (by simp; omega), wsucc (by omega), if_neg e]
      refine (without_h2 hL m (j + 1) _ (by omega) (by simp; omega)).trans ?_
      rw [List.append_assoc]
      rfl
theorem without_h1 {L : List Gi_Lane} (hL : L.length ≤ 1000000) {i : Nat} {b dp : Int} {st : List Int} : ∀ (m j : Nat), j + m = L.length →
    loop Bs_qWithout (.h1 (i : Int) L ((L.length : Nat) : Int) (j : Int) b dp st) = some (Gi_Lanes.mk dp (wlF i j (L.drop j)) st)
  | 0, j, hm => by
    rw [loop_eq, Bs_qWithout.eq_1, if_neg (by omega), List.drop_eq_nil_of_le (by omega)]
    rfl
  | m + 1, j, hm => by
    have hj : j < L.length := by omega
    have hx' : L[Int.toNat (j : Int)]? = some L[j] := List.getElem?_eq_getElem hj
    rw [loop_eq, Bs_qWithout.eq_1, if_pos (by omega), if_pos (by omega), obind hx', List.drop_eq_getElem_cons hj, wlF]
    by_cases e : j = i
    · rw [if_pos (by omega), wsucc (by omega), if_pos e]
      exact without_h1 hL m (j + 1) (by omega)
    · rw [if_neg (by omega), if_pos (by simp), wsucc (by omega), if_neg e]
      by_cases z : j = 0
      · exact (without_h2 hL m (j + 1) _ (by omega) (by simp)).trans (by rfl)
      · exact (without_h2 hL m (j + 1) _ (by omega) (by simp)).trans (by rfl)
def wlR (x : Gi_Lanes) (i : Nat) : Gi_Lanes := Gi_Lanes.mk x.Depots (x.Lanes.take i ++ x.Lanes.drop (i + 1)) x.Stores
theorem without_i {x : Gi_Lanes} (hl : x.Lanes.length ≤ 1000000) (hs : x.Stores.length ≤ 2000000) {i : Nat} (hi : i < x.Lanes.length) : Di_withoutLane x (i : Int) = some (wlR x i) := by
  have c1 : Dslices_Clone_i_Lane x.Lanes = some x.Lanes := by unfold Dslices_Clone_i_Lane; rw [if_pos (by omega)]
  have c2 : Dslices_Clone_int x.Stores = some x.Stores := by unfold Dslices_Clone_int; rw [if_pos (by omega)]
  have c3 : Dslices_Delete_i_Lane x.Lanes (i : Int) ((i + 1 : Nat) : Int) = some (x.Lanes.take i ++ x.Lanes.drop (i + 1)) := by
    unfold Dslices_Delete_i_Lane
    rw [if_pos ⟨by omega, by omega, by omega, by omega⟩]
    rfl
  unfold Di_withoutLane
  rw [obind c1, wsucc (by omega), obind c3, obind c2]
  rfl
theorem without_s {x : Gi_Lanes} (hl : x.Lanes.length ≤ 1000000) (hs : x.Stores.length ≤ 2000000) (i : Nat) : Ds_qWithout x (i : Int) = some (wlR x i) := by
  have c1 : Ds_l1Own x.Stores = some x.Stores := by unfold Ds_l1Own; rw [if_pos (by omega)]
  unfold Ds_qWithout
  rw [obind c1]
  refine (without_h1 hl x.Lanes.length 0 (by omega)).trans ?_
  rw [List.drop_zero, wlF_le (by omega)]
  rfl
theorem wlR_ok {x : Gi_Lanes} {n : Nat} (h : LnOk x n) (i : Nat) : LnOk (wlR x i) n where
  dep := h.dep
  n0 := h.n0
  len := by
    have := h.len
    simp only [wlR, List.length_append, List.length_take, List.length_drop]
    omega
  st := h.st
  la l hl := by
    rcases List.mem_append.1 hl with hl | hl
    · exact h.la l (List.mem_of_mem_take hl)
    · exact h.la l (List.mem_of_mem_drop hl)
  so := h.so

theorem Ask.wl {x : Gi_Lanes} {n f t days : Nat} (h : Ask x n f t days) (i : Nat) : Ask (wlR x i) n f t days := ⟨wlR_ok h.ln i, h.flt, h.tlt, h.ne, h.dle⟩
noncomputable def crtS (x : Gi_Lanes) (f t days : Nat) (i : Nat) : Bool := decide (grd (wlR x i) f t days < grd x f t days)
theorem crit_i {x : Gi_Lanes} {n f t days : Nat} (h : Ask x n f t days) : ∀ (m i : Nat) (acc : List Int), i + m = x.Lanes.length → acc.length ≤ i →
    loop Bi_CriticalLanes (.h1 (f : Int) (t : Int) (days : Int) (grd x f t days) ((x.Lanes.length : Nat) : Int) (i : Int) x acc) = some (acc ++ cutL (crtS x f t days) i m, true)
  | 0, i, acc, hm, ha => by
    rw [loop_eq, Bi_CriticalLanes.eq_1, if_neg (by omega)]
    simp [goOn, cutL]
  | m + 1, i, acc, hm, ha => by
    have hlen := h.ln.len
    have hst : x.Stores.length ≤ 2000000 := by have := h.ln.st; have := h.ln.n0; omega
    obtain ⟨fl, e, _⟩ := grd_i (h.wl i)
    rw [loop_eq, Bi_CriticalLanes.eq_1, if_pos (by omega), obind (without_i (by omega) hst (show i < x.Lanes.length by omega)), obind e, cutL_succ]
    by_cases c : grd (wlR x i) f t days < grd x f t days
    · rw [if_pos c, if_pos (by simp; omega), wsucc (by omega), if_pos (show crtS x f t days i = true from decide_eq_true c), ← List.append_assoc]
      exact crit_i h m (i + 1) _ (by omega) (by simp; omega)
    · rw [if_neg c, wsucc (by omega), if_neg (show ¬ crtS x f t days i = true by simp only [crtS, decide_eq_true_eq]; exact c), List.nil_append]
      exact crit_i h m (i + 1) _ (by omega) (by omega)
theorem crit_s {x : Gi_Lanes} {n f t days : Nat} (h : Ask x n f t days) : ∀ (m i : Nat) (acc : List Int), i + m = x.Lanes.length → acc.length ≤ i →
    loop Bs_CriticalLanes (.h1 (f : Int) (t : Int) (days : Int) (grd x f t days) ((x.Lanes.length : Nat) : Int) (i : Int) x acc) = some (acc ++ cutL (crtS x f t days) i m, true)
  | 0, i, acc, hm, ha => by
    rw [loop_eq, Bs_CriticalLanes.eq_1, if_neg (by omega)]
    simp [goOn, cutL]
  | m + 1, i, acc, hm, ha => by
    have hlen := h.ln.len
    have hst : x.Stores.length ≤ 2000000 := by have := h.ln.st; have := h.ln.n0; omega
    obtain ⟨fl, e, _⟩ := grd_s (h.wl i)
    rw [loop_eq, Bs_CriticalLanes.eq_1, if_pos (by omega), obind (without_s (by omega) hst i), obind e, cutL_succ]
    by_cases c : grd (wlR x i) f t days < grd x f t days
    · rw [if_pos c, if_pos (by simp; omega), wsucc (by omega), if_pos (show crtS x f t days i = true from decide_eq_true c), ← List.append_assoc]
      exact crit_s h m (i + 1) _ (by omega) (by simp; omega)
    · rw [if_neg c, wsucc (by omega), if_neg (show ¬ crtS x f t days i = true by simp only [crtS, decide_eq_true_eq]; exact c), List.nil_append]
      exact crit_s h m (i + 1) _ (by omega) (by omega)
noncomputable def critR (x : Gi_Lanes) (f t days : Int) : List Int × Bool := if askG x f t days = true then (cutL (crtS x f.toNat t.toNat days.toNat) 0 x.Lanes.length, true) else ([], false)
theorem critical_i {x : Gi_Lanes} (hs : x.Stores.length ≤ 2000000) (f t days : Int) : Di_CriticalLanes x f t days = some (critR x f t days) := by
  unfold Di_CriticalLanes critR
  rw [great_i hs, obind rfl]
  unfold grtR
  by_cases c : askG x f t days = true
  · obtain ⟨n, f', t', d', rfl, rfl, rfl, h⟩ := askG_iff.1 c
    rw [if_pos c, if_pos rfl, if_pos c]
    have := crit_i h x.Lanes.length 0 [] (by omega) (by simp)
    rw [List.nil_append] at this
    exact this
  · rw [if_neg c, if_neg (by simp), if_neg c]
theorem critical_s {x : Gi_Lanes} (hs : x.Stores.length ≤ 2000000) (f t days : Int) : Ds_CriticalLanes x f t days = some (critR x f t days) := by
  unfold Ds_CriticalLanes critR
  rw [ask_s hs, obind rfl]
  by_cases c : askG x f t days = true
  · obtain ⟨n, f', t', d', rfl, rfl, rfl, h⟩ := askG_iff.1 c
    obtain ⟨fl, e, _⟩ := grd_s h
    rw [if_pos c, obind e, if_pos c]
    have := crit_s h x.Lanes.length 0 [] (by omega) (by simp)
    rw [List.nil_append] at this
    exact this
  · rw [if_neg c, if_neg c]

def woR (x : Gi_Lanes) (i : Int) : Gi_Lanes × Bool := if (lnsG x && kIn i 0 ((x.Lanes.length : Int) - 1)) = true then (wlR x i.toNat, true) else (Gi_Lanes.mk 0 [] [], false)
theorem withoutLane_i {x : Gi_Lanes} (hs : x.Stores.length ≤ 2000000) (i : Int) : Di_WithoutLane x i = some (woR x i) := by
  unfold Di_WithoutLane woR
  rw [isLanes_i hs, obind rfl]
  by_cases c : lnsG x = true
  · obtain ⟨n, h⟩ := lnsG_iff.1 c
    have hl := h.len
    rw [if_pos c, isIndex_i (by omega), obind rfl, c, Bool.true_and]
    by_cases c2 : kIn i 0 ((x.Lanes.length : Int) - 1) = true
    · have hk := kIn_iff.1 c2
      obtain ⟨j, rfl⟩ := Int.eq_ofNat_of_zero_le hk.1
      rw [if_pos c2, if_pos c2, obind (without_i (by omega) hs (show j < x.Lanes.length by omega))]
      rfl
    · rw [if_neg c2, if_neg c2]
  · rw [if_neg c, if_neg (by simp [c])]
theorem withoutLane_s {x : Gi_Lanes} (hs : x.Stores.length ≤ 2000000) (i : Int) : Ds_WithoutLane x i = some (woR x i) := by
  unfold Ds_WithoutLane woR
  rw [goodL_s hs, obind rfl]
  by_cases c : lnsG x = true
  · obtain ⟨n, h⟩ := lnsG_iff.1 c
    have hl := h.len
    rw [if_pos c, w64 (by omega), kin_s, obind rfl, c, Bool.true_and]
    by_cases c2 : kIn i 0 ((x.Lanes.length : Int) - 1) = true
    · have hk := kIn_iff.1 c2
      obtain ⟨j, rfl⟩ := Int.eq_ofNat_of_zero_le hk.1
      rw [if_pos c2, if_pos c2, obind (without_s (by omega) hs j)]
      rfl
    · rw [if_neg c2, if_neg c2]
  · rw [if_neg c, if_neg (by simp [c])]
theorem sameLanes {x : Gi_Lanes} (hl : x.Lanes.length ≤ 2000000) (hs : x.Stores.length ≤ 1048577) : Dw_pSameLanes x x = some true := by
  have key : ∀ (m i : Nat), i + m = x.Lanes.length → loop Bw_pSameLanes (.h1 ((x.Lanes.length : Nat) : Int) (i : Int) x x) = some true := by
    intro m
    induction m with
    | zero =>
      intro i hi
      rw [loop_eq, Bw_pSameLanes.eq_1, if_neg (by omega)]
      rfl
    | succ m ih =>
      intro i hi
      have hx := List.getElem?_eq_getElem (show i < x.Lanes.length by omega)
      generalize x.Lanes[i] = a at hx
      have hx' : x.Lanes[Int.toNat (i : Int)]? = some a := hx
      rw [loop_eq, Bw_pSameLanes.eq_1, if_pos (by omega), if_pos (by omega), obind hx', if_pos (by omega), obind hx', if_neg (by simp), wsucc (by omega)]
      exact ih (i + 1) (by omega)
  unfold Dw_pSameLanes
  rw [if_pos rfl, eSameInts _ hs, obind rfl, if_pos rfl, if_pos rfl]
  exact key x.Lanes.length 0 (by omega)

theorem planL_at {ll : Nat} {g : Nat → Int} {D i : Nat} {c : Gi_Convoy} (h : (planL ll g 0 D)[i]? = some c) : ∃ j, ((List.range' 0 D).filter fun j => decide (0 < g j))[i]? = some j ∧ j < D ∧ 0 < g j ∧ c = cvy ll g j := by
  unfold planL at h
  rw [List.getElem?_map, Option.map_eq_some_iff] at h
  obtain ⟨j, hj, rfl⟩ := h
  have hm := List.mem_filter.1 (List.mem_of_getElem? hj)
  have h1 := List.mem_range'_1.1 hm.1
  exact ⟨j, hj, by omega, by simpa using hm.2, rfl⟩
theorem planL_len (ll : Nat) (g : Nat → Int) (D : Nat) : (planL ll g 0 D).length ≤ D := by
  unfold planL
  rw [List.length_map]
  have := List.length_filter_le (fun j => decide (0 < g j)) (List.range' 0 D)
  rw [List.length_range'] at this
  exact this
theorem planL_good {x : Gi_Lanes} {n f t days : Nat} (h : Ask x n f t days) {g : Nat → Int} {F : Int} (hp : Planned (netI x f t n days) ((days + 1) * n) f (days * n + t) F (days * x.Lanes.length) g) :
    alli (gcQ x days (planL x.Lanes.length g 0 (days * x.Lanes.length))) (planL x.Lanes.length g 0 (days * x.Lanes.length)) = true := by
  rw [alli_iff]
  intro i c hc
  obtain ⟨j, hj, hjD, hg, rfl⟩ := planL_at hc
  rcases idxI (x := x) (n := n) (days := days) (i := j) (by omega) with ⟨d, r, hdd, hr, rfl⟩ | ⟨d, k, hdd, hk, rfl⟩
  · have hdm := dmod (d := d) hr
    obtain ⟨l, a1, a2, a3, a4⟩ := arcI_la h.ln (f : Int) (t : Int) ((days + 1) * n) hdd hr
    have hb := hp.fw.b (d * x.Lanes.length + r) (List.mem_range.2 (by rw [netI_len h.ln]; omega))
    rw [a4] at hb
    unfold gcQ cvy
    simp only [hdm.1, hdm.2, Int.toNat_natCast, a1]
    simp only [Bool.and_eq_true, kIn_iff, Bool.or_eq_true, decide_eq_true_eq]
    refine ⟨by omega, by omega, by omega, ?_⟩
    by_cases c0 : i = 0
    · exact .inl c0
    · refine .inr ?_
      have hi := (List.getElem?_eq_some_iff.1 hc).1
      have hp' := List.getElem?_eq_getElem (show i - 1 < (planL x.Lanes.length g 0 (days * x.Lanes.length)).length by omega)
      rw [hp']
      obtain ⟨j', hj', hjD', hg', e'⟩ := planL_at hp'
      rw [e']
      have hpw : ((List.range' 0 (days * x.Lanes.length)).filter fun j => decide (0 < g j)).Pairwise (· < ·) := List.Pairwise.filter _ (List.pairwise_lt_range' (s := 0) (n := days * x.Lanes.length) (step := 1) (by omega))
      obtain ⟨q1, q2⟩ := List.getElem?_eq_some_iff.1 hj'
      obtain ⟨q3, q4⟩ := List.getElem?_eq_some_iff.1 hj
      have hlt := List.pairwise_iff_getElem.1 hpw (i - 1) i q1 q3 (by omega)
      rw [q2, q4] at hlt
      rcases idxI (x := x) (n := n) (days := days) (i := j') (by omega) with ⟨d', r', hd', hr', rfl⟩ | ⟨d', k', hd', hk', rfl⟩
      · have hdm' := dmod (d := d') hr'
        have hle : d' ≤ d := by
          rcases Nat.lt_or_ge d d' with c1 | c1
          · have := Nat.mul_le_mul_right x.Lanes.length (show d + 1 ≤ d' from c1)
            rw [Nat.add_mul, Nat.one_mul] at this
            omega
          · exact c1
        simp only [cvy, hdm'.1, hdm'.2, Bool.and_eq_true, Bool.not_eq_true', Bool.and_eq_false_iff, decide_eq_false_iff_not]
        refine ⟨by omega, ?_⟩
        by_cases c2 : d' = d
        · subst c2
          exact .inr (by omega)
        · exact .inl (by omega)
      · omega
  · omega

def depS (x : Gi_Lanes) (d : Int) (l : List Gi_Convoy) (k : Nat) : Int := lsm (fun c => if c.Day = d ∧ (lnOf x c).1 = k then c.Load else 0) l
def arrS (x : Gi_Lanes) (d : Int) (l : List Gi_Convoy) (k : Nat) : Int := lsm (fun c => if c.Day = d ∧ (lnOf x c).2 = k then c.Load else 0) l
theorem depF_sum {x : Gi_Lanes} {d : Int} {k : Nat} : ∀ {l : List Gi_Convoy} {A : Nat → Int}, depF x d l A k = A k - depS x d l k
  | [], A => by simp [depF, depS, lsm]
  | c :: l, A => by
    have ih := fun A' => depF_sum (x := x) (d := d) (k := k) (l := l) (A := A')
    unfold depF at ih ⊢
    rw [List.foldl_cons, ih]
    unfold depS
    simp only [lsm]
    by_cases c1 : c.Day = d
    · rw [if_pos c1]
      unfold updF
      by_cases c2 : (lnOf x c).1 = k
      · rw [if_pos c2.symm, if_pos ⟨c1, c2⟩, c2]; omega
      · rw [if_neg (Ne.symm c2), if_neg (fun q => c2 q.2)]; omega
    · rw [if_neg c1, if_neg (fun q => c1 q.1)]; omega
theorem arrF_sum {x : Gi_Lanes} {d : Int} {k : Nat} : ∀ {l : List Gi_Convoy} {A : Nat → Int}, arrF x d l A k = A k + arrS x d l k
  | [], A => by simp [arrF, arrS, lsm]
  | c :: l, A => by
    have ih := fun A' => arrF_sum (x := x) (d := d) (k := k) (l := l) (A := A')
    unfold arrF at ih ⊢
    rw [List.foldl_cons, ih]
    unfold arrS
    simp only [lsm]
    by_cases c1 : c.Day = d
    · rw [if_pos c1]
      unfold updF
      by_cases c2 : (lnOf x c).2 = k
      · rw [if_pos c2.symm, if_pos ⟨c1, c2⟩, c2]; omega
      · rw [if_neg (Ne.symm c2), if_neg (fun q => c2 q.2)]; omega
    · rw [if_neg c1, if_neg (fun q => c1 q.1)]; omega

theorem lsm_filter {ι : Type} (g : ι → Int) (p : ι → Bool) : ∀ l : List ι, lsm g (l.filter p) = lsm (fun i => if p i = true then g i else 0) l
  | [] => rfl
  | i :: l => by
    rw [List.filter_cons]
    by_cases c : p i = true
    · rw [if_pos c]
      simp only [lsm]
      rw [if_pos c, lsm_filter g p l]
    · rw [if_neg c]
      simp only [lsm]
      rw [if_neg c, lsm_filter g p l]
      omega
theorem plan_sum {ll days : Nat} {g : Nat → Int} (hg : ∀ j, j < days * ll → 0 ≤ g j) {d : Nat} (hdd : d < days) (P : Nat → Prop) [DecidablePred P] (Q : Gi_Convoy → Prop) [DecidablePred Q] (hQ : ∀ r, r < ll → (Q (cvy ll g (d * ll + r)) ↔ P r)) :
    lsm (fun c => if c.Day = (d : Int) ∧ Q c then c.Load else 0) (planL ll g 0 (days * ll)) = lsm (fun r => if P r then g (d * ll + r) else 0) (List.range ll) := by
  unfold planL
  rw [lsm_map, lsm_filter, ← List.range_eq_range', rsum_mul]
  rw [lsm_one (k := d) List.nodup_range fun d' hd' hne => lsm_zero fun r hr => by
    have hr := List.mem_range.1 hr
    have hm := dmod (d := d') hr
    simp only [cvy, hm.1]
    split
    · rw [if_neg (fun q => hne (by omega))]
    · rfl, if_pos (List.mem_range.2 hdd)]
  refine lsm_congr fun r hr => ?_
  have hr := List.mem_range.1 hr
  have hm := dmod (d := d) hr
  have hlt := ltmul (b := ll) hdd hr
  have h0 := hg _ hlt
  have hq := hQ r hr
  have hday : (cvy ll g (d * ll + r)).Day = (d : Int) := by simp only [cvy, hm.1]
  have hload : (cvy ll g (d * ll + r)).Load = g (d * ll + r) := rfl
  by_cases c : P r
  · rw [if_pos c]
    by_cases c2 : 0 < g (d * ll + r)
    · rw [if_pos (by simpa using c2), if_pos ⟨hday, hq.2 c⟩, hload]
    · rw [if_neg (by simpa using c2)]; omega
  · rw [if_neg c]
    by_cases c2 : 0 < g (d * ll + r)
    · rw [if_pos (by simpa using c2), if_neg (fun q => c (hq.1 q.2))]
    · rw [if_neg (by simpa using c2)]

def frD (x : Gi_Lanes) (r : Nat) : Nat := match x.Lanes[r]? with | some a => a.From.toNat | none => 0
def toD (x : Gi_Lanes) (r : Nat) : Nat := match x.Lanes[r]? with | some a => a.To.toNat | none => 0
theorem lnOf_is (x : Gi_Lanes) (c : Gi_Convoy) : lnOf x c = (frD x c.Lane.toNat, toD x c.Lane.toNat) := by
  unfold lnOf frD toD
  cases x.Lanes[c.Lane.toNat]? <;> rfl
def innI (x : Gi_Lanes) (n days : Nat) (g : Nat → Int) : Nat → Nat → Int
  | 0, _ => 0
  | d + 1, k => g (days * x.Lanes.length + (d * n + k)) + lsm (fun r => if toD x r = k then g (d * x.Lanes.length + r) else 0) (List.range x.Lanes.length)
def outI (x : Gi_Lanes) (n days : Nat) (g : Nat → Int) (d k : Nat) : Int := g (days * x.Lanes.length + (d * n + k)) + lsm (fun r => if frD x r = k then g (d * x.Lanes.length + r) else 0) (List.range x.Lanes.length)
theorem day_sum (days m d e : Nat) (P : Nat → Prop) [DecidablePred P] (G : Nat → Nat → Int) : lsm (fun d' => lsm (fun r => if d' + e = d ∧ P r then G d' r else 0) (List.range m)) (List.range days) = if e ≤ d ∧ d - e < days then lsm (fun r => if P r then G (d - e) r else 0) (List.range m) else 0 := by
  rw [lsm_one (k := d - e) List.nodup_range fun d' _ hne => lsm_zero fun r _ => if_neg fun q => hne (by omega)]
  by_cases c : e ≤ d ∧ d - e < days
  · rw [if_pos (List.mem_range.2 c.2), if_pos c]
    refine lsm_congr fun r _ => ?_
    by_cases c2 : P r
    · rw [if_pos c2, if_pos ⟨by omega, c2⟩]
    · rw [if_neg c2, if_neg fun q => c2 q.2]
  · rw [if_neg c]
    by_cases c2 : d - e < days
    · rw [if_pos (List.mem_range.2 c2)]
      exact lsm_zero fun r _ => if_neg fun q => c ⟨by omega, c2⟩
    · rw [if_neg fun q => c2 (List.mem_range.1 q)]
theorem plc_eq {n d d' k a : Nat} (hk : k < n) (ha : a < n) : d' * n + a = d * n + k ↔ d' = d ∧ a = k := by
  constructor
  · intro e
    have h1 := dmod (d := d') ha
    have h2 := dmod (d := d) hk
    rw [e] at h1
    exact ⟨h1.1.symm.trans h2.1, h1.2.symm.trans h2.2⟩
  · rintro ⟨rfl, rfl⟩; rfl
theorem exf_at {x : Gi_Lanes} {n days : Nat} (h : LnOk x n) (f t : Int) (p : Nat) (g : Nat → Int) {d k : Nat} (hdd : d ≤ days) (hk : k < n) :
    exf (ntI (netI x f t n days) p) g (d * n + k) = innI x n days g d k - if d < days then outI x n days g d k else 0 := by
  have e : exf (ntI (netI x f t n days) p) g (d * n + k) = tsm x.Lanes.length n days (fun d' r => (if d' + 1 = d ∧ toD x r = k then g (d' * x.Lanes.length + r) else 0) - (if d' + 0 = d ∧ frD x r = k then g (d' * x.Lanes.length + r) else 0))
      fun d' k' => (if d' + 1 = d ∧ k' = k then g (days * x.Lanes.length + (d' * n + k')) else 0) - (if d' + 0 = d ∧ k' = k then g (days * x.Lanes.length + (d' * n + k')) else 0) := by
    unfold exf
    rw [sumI h]
    refine tsm_congr (fun d' r hdy hr => ?_) fun d' k' hdy hk' => ?_
    · obtain ⟨l, a1, a2, a3, a4⟩ := arcI_la h f t p hdy hr
      have wf := h.la l (List.mem_of_getElem? a1)
      have ef : frD x r = l.From.toNat := by unfold frD; rw [a1]
      have et : toD x r = l.To.toNat := by unfold toD; rw [a1]
      rw [a2, a3, ef, et]
      simp only [plc_eq hk (show l.From.toNat < n by omega), plc_eq hk (show l.To.toNat < n by omega), Nat.add_zero]
    · obtain ⟨m, a1, a2, a3, a4⟩ := arcI_sa h f t p hdy hk'
      rw [a2, a3]
      simp only [plc_eq hk hk', Nat.add_zero]
  have one : ∀ d', lsm (fun k' => if k' = k then g (days * x.Lanes.length + (d' * n + k')) else 0) (List.range n) = g (days * x.Lanes.length + (d' * n + k)) := fun d' => by
    rw [lsm_one (k := k) List.nodup_range fun k' _ hne => if_neg hne, if_pos (List.mem_range.2 hk), if_pos rfl]
  rw [e]
  unfold tsm
  simp only [lsm_sub]
  rw [day_sum days x.Lanes.length d 1 (fun r => toD x r = k) fun d' r => g (d' * x.Lanes.length + r), day_sum days x.Lanes.length d 0 (fun r => frD x r = k) fun d' r => g (d' * x.Lanes.length + r),
    day_sum days n d 1 (fun k' => k' = k) fun d' k' => g (days * x.Lanes.length + (d' * n + k')), day_sum days n d 0 (fun k' => k' = k) fun d' k' => g (days * x.Lanes.length + (d' * n + k')), one, one, Nat.sub_zero]
  unfold outI
  cases d with
  | zero =>
    simp only [innI, show ¬ (1 ≤ 0) by omega, false_and, if_false, Nat.zero_le, true_and]
    by_cases c : 0 < days
    · simp only [if_pos c]; omega
    · simp only [if_neg c]; omega
  | succ d =>
    have hd1 : d < days := by omega
    simp only [innI, show 1 ≤ d + 1 by omega, Nat.add_sub_cancel, hd1, if_true, Nat.zero_le, true_and]
    by_cases c : d + 1 < days
    · simp only [if_pos c]; omega
    · simp only [if_neg c]; omega

theorem plan_run {x : Gi_Lanes} {n f t days : Nat} (h : Ask x n f t days) {g : Nat → Int} {F : Int} (hp : Planned (netI x f t n days) ((days + 1) * n) f (days * n + t) F (days * x.Lanes.length) g) : ∀ (m d : Nat) (A : Nat → Int), d + m = days → (∀ k, k < n → k ≠ f → A k = innI x n days g d k) →
    ∃ A', runD x n f t (planL x.Lanes.length g 0 (days * x.Lanes.length)) m d A = some A' ∧ ∀ k, k < n → k ≠ f → A' k = innI x n days g days k
  | 0, d, A, hm, hA => ⟨A, rfl, by
    have : d = days := by omega
    subst this
    exact hA⟩
  | m + 1, d, A, hm, hA => by
    have hdd : d < days := by omega
    have hlen := netI_len (days := days) h.ln (f : Int) (t : Int)
    have hnn : ∀ j, j < days * x.Lanes.length → 0 ≤ g j := fun j hj => (hp.fw.b j (List.mem_range.2 (by rw [hlen]; omega))).1
    have hln : ∀ r, r < x.Lanes.length → lnOf x (cvy x.Lanes.length g (d * x.Lanes.length + r)) = (frD x r, toD x r) := fun r hr => by
      rw [lnOf_is]
      simp only [cvy, (dmod (d := d) hr).2, Int.toNat_natCast]
    have dep : ∀ k, depS x (d : Int) (planL x.Lanes.length g 0 (days * x.Lanes.length)) k = lsm (fun r => if frD x r = k then g (d * x.Lanes.length + r) else 0) (List.range x.Lanes.length) := fun k =>
      plan_sum hnn hdd (fun r => frD x r = k) (fun c => (lnOf x c).1 = k) fun r hr => by rw [hln r hr]
    have arr : ∀ k, arrS x (d : Int) (planL x.Lanes.length g 0 (days * x.Lanes.length)) k = lsm (fun r => if toD x r = k then g (d * x.Lanes.length + r) else 0) (List.range x.Lanes.length) := fun k =>
      plan_sum hnn hdd (fun r => toD x r = k) (fun c => (lnOf x c).2 = k) fun r hr => by rw [hln r hr]
    have left : ∀ k, k < n → k ≠ f → depF x (d : Int) (planL x.Lanes.length g 0 (days * x.Lanes.length)) A k = g (days * x.Lanes.length + (d * n + k)) := fun k hk hkf => by
      have hpl : d * n + k < (days + 1) * n := ltmul (by omega) hk
      have e := hp.fw.ex (d * n + k) hpl
      rw [exf_at h.ln (f : Int) (t : Int) _ g (by omega) hk, if_pos hdd] at e
      have c1 : ¬ days * n + t = d * n + k := fun q => by have := (plc_eq hk h.tlt).1 q; omega
      have c2 : ¬ f = d * n + k := fun q => by
        have : 0 * n + f = d * n + k := by omega
        have := (plc_eq hk h.flt).1 this
        omega
      rw [if_neg c1, if_neg c2] at e
      rw [depF_sum, dep, hA k hk hkf]
      unfold outI at e
      omega
    have ok : okDay x f t (depF x (d : Int) (planL x.Lanes.length g 0 (days * x.Lanes.length)) A) 0 n = true := by
      unfold okDay
      rw [List.all_eq_true]
      intro k hk
      have hk := List.mem_range'_1.1 hk
      unfold kOk
      by_cases c : k = f
      · simp [c]
      · obtain ⟨mm, a1, a2, a3, a4⟩ := arcI_sa h.ln (f : Int) (t : Int) ((days + 1) * n) hdd (show k < n by omega)
        have hb := hp.fw.b (days * x.Lanes.length + (d * n + k)) (List.mem_range.2 (by rw [hlen]; have := ltmul hdd (show k < n by omega); omega))
        rw [a4] at hb
        rw [left k (by omega) c, a1]
        simp only [Bool.or_eq_true, Bool.and_eq_true, decide_eq_true_eq]
        refine .inr ⟨hb.1, ?_⟩
        by_cases c2 : k = t
        · exact .inl c2
        · rw [if_neg (by omega)] at hb
          exact .inr hb.2
    unfold runD
    rw [if_pos ok]
    refine plan_run h hp m (d + 1) _ (by omega) fun k hk hkf => ?_
    show depF x (d : Int) _ A k + arrF x (d : Int) _ (fun _ => 0) k = _
    rw [left k hk hkf, arrF_sum, arr]
    simp only [innI]
    omega
theorem plan_chk {x : Gi_Lanes} {n f t days : Nat} (h : Ask x n f t days) {g : Nat → Int} {F : Int} (hp : Planned (netI x f t n days) ((days + 1) * n) f (days * n + t) F (days * x.Lanes.length) g) :
    chkR x n f t days (planL x.Lanes.length g 0 (days * x.Lanes.length)) = (0, F, true) := by
  obtain ⟨A, e1, e2⟩ := plan_run h hp days 0 (fun _ => 0) (by omega) fun k hk hkf => by simp only [innI]
  have e := hp.fw.ex (days * n + t) h.e
  rw [exf_at h.ln (f : Int) (t : Int) _ g (Nat.le_refl _) h.tlt, if_neg (by omega), if_pos rfl, if_neg h.se] at e
  unfold chkR
  rw [if_pos (planL_good h hp), e1]
  simp only [e2 t h.tlt (Ne.symm h.ne)]
  rw [show innI x n days g days t = F by omega]

theorem pre_le {ι : Type} {N : Nt ι} (h : N.Ok) {S : Nat → Bool} {g : ι → Int} {t : Nat} (ht : t < N.n) (hS : S t = false) (hex : ∀ v, v < N.n → S v = false → 0 ≤ exf N g v) (hup : ∀ i ∈ N.I, S (N.fr i) = true → S (N.tt i) = false → g i ≤ N.mo i) (hdn : ∀ i ∈ N.I, S (N.fr i) = false → S (N.tt i) = true → 0 ≤ g i) : exf N g t ≤ capf N S := by
  have e := cut_sum h g fun v => !(S v)
  have h1 := lsm_nn_mem (g := fun v => if (!(S v)) = true then exf N g v else 0) (l := List.range N.n) (fun v hv => by
    cases c : S v
    · simpa [c] using hex v (List.mem_range.1 hv) c
    · simp [c]) t (List.mem_range.2 ht)
  rw [e] at h1
  simp only [hS, Bool.not_false, if_true] at h1
  refine Int.le_trans h1 ?_
  refine lsm_le fun i hi => ?_
  have a1 := hup i hi
  have a2 := hdn i hi
  cases hf : S (N.fr i) <;> cases ht : S (N.tt i) <;> simp [hf, ht] at a1 a2 ⊢ <;> omega
def runA (x : Gi_Lanes) (l : List Gi_Convoy) : Nat → Nat → Int
  | 0 => fun _ => 0
  | d + 1 => fun k => depF x (d : Int) l (runA x l d) k + arrF x (d : Int) l (fun _ => 0) k
theorem runD_is {x : Gi_Lanes} {n f t : Nat} {l : List Gi_Convoy} : ∀ (m d : Nat) {A : Nat → Int}, runD x n f t l m d (runA x l d) = some A → A = runA x l (d + m) ∧ ∀ d', d ≤ d' → d' < d + m → okDay x f t (depF x (d' : Int) l (runA x l d')) 0 n = true
  | 0, d, A, e => by
    unfold runD at e
    refine ⟨by rw [Nat.add_zero]; exact (Option.some.inj e).symm, fun d' h1 h2 => by omega⟩
  | m + 1, d, A, e => by
    unfold runD at e
    by_cases c : okDay x f t (depF x (d : Int) l (runA x l d)) 0 n = true
    · rw [if_pos c] at e
      obtain ⟨h1, h2⟩ := runD_is m (d + 1) (A := A) e
      refine ⟨by rw [h1, show d + 1 + m = d + (m + 1) by omega], fun d' h3 h4 => ?_⟩
      by_cases c2 : d' = d
      · rw [c2]; exact c
      · exact h2 d' (by omega) (by omega)
    · rw [if_neg c] at e
      cases e
theorem kOk_is {x : Gi_Lanes} {n f t : Nat} {A : Nat → Int} (h : okDay x f t A 0 n = true) {k : Nat} (hk : k < n) (hkf : k ≠ f) : 0 ≤ A k ∧ (k = t ∨ ∃ m, x.Stores[k]? = some m ∧ A k ≤ m) := by
  unfold okDay at h
  rw [List.all_eq_true] at h
  have := h k (List.mem_range'_1.2 ⟨by omega, by omega⟩)
  unfold kOk at this
  simp only [Bool.or_eq_true, Bool.and_eq_true, decide_eq_true_eq] at this
  rcases this with c | ⟨c1, c2⟩
  · exact absurd c hkf
  · refine ⟨c1, c2.imp id fun c => ?_⟩
    cases hs : x.Stores[k]? with
    | none => rw [hs] at c; cases c
    | some m => rw [hs] at c; exact ⟨m, rfl, by simpa using c⟩
theorem lsm_once {α : Type} (key : α → Int) (w : α → Int) (K M : Int) (hM : 0 ≤ M) : ∀ {l : List α}, l.Pairwise (fun a b => key a < key b) → (∀ a ∈ l, key a = K → w a ≤ M) → lsm (fun a => if key a = K then w a else 0) l ≤ M
  | [], _, _ => hM
  | a :: l, hp, hw => by
    rw [List.pairwise_cons] at hp
    simp only [lsm]
    by_cases c : key a = K
    · rw [if_pos c, lsm_zero fun b hb => if_neg (by have := hp.1 b hb; omega)]
      have := hw a (List.mem_cons_self ..) c
      omega
    · rw [if_neg c]
      have := lsm_once key w K M hM hp.2 fun b hb => hw b (List.mem_cons_of_mem _ hb)
      omega
theorem pw_step {α : Type} {key : α → Int} : ∀ {l : List α}, (∀ (i : Nat) a b, l[i]? = some a → l[i + 1]? = some b → key a < key b) → l.Pairwise (fun a b => key a < key b)
  | [], _ => List.Pairwise.nil
  | [a], _ => List.pairwise_singleton ..
  | a :: b :: l, h => by
    have ih := pw_step (l := b :: l) fun i c e h1 h2 => h (i + 1) c e (by simpa using h1) (by simpa using h2)
    refine List.pairwise_cons.2 ⟨fun c hc => ?_, ih⟩
    have hab := h 0 a b (by simp) (by simp)
    rcases List.mem_cons.1 hc with e | hc
    · rw [e]; exact hab
    · have := (List.pairwise_cons.1 ih).1 c hc
      omega
theorem gcQ_pw {x : Gi_Lanes} {n : Nat} (h : LnOk x n) {days : Int} {l : List Gi_Convoy} (hg : alli (gcQ x days l) l = true) : l.Pairwise fun a b => a.Day * 16 + a.Lane < b.Day * 16 + b.Lane := by
  have hlen := h.len
  refine pw_step (key := fun a : Gi_Convoy => a.Day * 16 + a.Lane) fun i a b ha hb => ?_
  have h1 := alli_iff.1 hg i a ha
  have h2 := alli_iff.1 hg (i + 1) b hb
  unfold gcQ at h1 h2
  rw [Nat.add_sub_cancel, ha] at h2
  simp only [Bool.and_eq_true, Bool.or_eq_true, decide_eq_true_eq, Bool.not_eq_true', Bool.and_eq_false_iff, decide_eq_false_iff_not] at h1 h2
  have a2 := kIn_iff.1 h1.2.1
  have b2 := kIn_iff.1 h2.2.1
  rcases h2.2.2.2 with c | ⟨c1, c2⟩
  · omega
  · show a.Day * 16 + a.Lane < b.Day * 16 + b.Lane
    rcases c2 with c2 | c2 <;> omega
theorem lane_once {x : Gi_Lanes} {n : Nat} (h : LnOk x n) {days : Int} {l : List Gi_Convoy} (hg : alli (gcQ x days l) l = true) {d r : Nat} {a : Gi_Lane} (ha : x.Lanes[r]? = some a) :
    0 ≤ lsm (fun c : Gi_Convoy => if c.Day = (d : Int) ∧ c.Lane = (r : Int) then c.Load else 0) l ∧ lsm (fun c : Gi_Convoy => if c.Day = (d : Int) ∧ c.Lane = (r : Int) then c.Load else 0) l ≤ a.Load := by
  have hlen := h.len
  have hok := gcQ_ok h hg
  have wf := h.la a (List.mem_of_getElem? ha)
  have hr : r < x.Lanes.length := (List.getElem?_eq_some_iff.1 ha).1
  refine ⟨lsm_nn fun c hc => by have := hok c hc; split <;> omega, ?_⟩
  have e : lsm (fun c : Gi_Convoy => if c.Day = (d : Int) ∧ c.Lane = (r : Int) then c.Load else 0) l = lsm (fun c : Gi_Convoy => if c.Day * 16 + c.Lane = (d : Int) * 16 + r then c.Load else 0) l := lsm_congr fun c hc => by
    have := hok c hc
    by_cases q : c.Day = (d : Int) ∧ c.Lane = (r : Int)
    · rw [if_pos q, if_pos (by omega)]
    · rw [if_neg q, if_neg (by omega)]
  rw [e]
  refine lsm_once (fun c : Gi_Convoy => c.Day * 16 + c.Lane) (fun c => c.Load) _ _ (by omega) (gcQ_pw h hg) fun c hc hk => ?_
  have h0 := hok c hc
  have hk : c.Day * 16 + c.Lane = (d : Int) * 16 + r := hk
  obtain ⟨i, hi⟩ := List.getElem?_of_mem hc
  have := alli_iff.1 hg i c hi
  unfold gcQ at this
  simp only [Bool.and_eq_true] at this
  have h3 := this.2.2.1
  rw [show c.Lane.toNat = r by omega, ha] at h3
  exact (kIn_iff.1 h3).2
theorem lane_sum {x : Gi_Lanes} {l : List Gi_Convoy} (hc : CvOk x l) (d : Int) (P : Nat → Prop) [DecidablePred P] : lsm (fun r : Nat => if P r then lsm (fun c : Gi_Convoy => if c.Day = d ∧ c.Lane = (r : Int) then c.Load else 0) l else 0) (List.range x.Lanes.length) = lsm (fun c : Gi_Convoy => if c.Day = d ∧ P c.Lane.toNat then c.Load else 0) l := by
  have e : lsm (fun r : Nat => if P r then lsm (fun c : Gi_Convoy => if c.Day = d ∧ c.Lane = (r : Int) then c.Load else 0) l else 0) (List.range x.Lanes.length) = lsm (fun r : Nat => lsm (fun c : Gi_Convoy => if P r then (if c.Day = d ∧ c.Lane = (r : Int) then c.Load else 0) else 0) l) (List.range x.Lanes.length) := lsm_congr fun r _ => by
    by_cases c : P r
    · simp only [if_pos c]
    · simp only [if_neg c]; rw [lsm_zero fun _ _ => rfl]
  rw [e, lsm_swap]
  refine lsm_congr fun c hcm => ?_
  have := hc c hcm
  rw [lsm_one (k := c.Lane.toNat) List.nodup_range fun r _ hne => by
    rw [if_neg (show ¬ (c.Day = d ∧ c.Lane = (r : Int)) from fun q => hne (by omega))]
    split <;> rfl, if_pos (List.mem_range.2 (by omega))]
  by_cases c1 : P c.Lane.toNat
  · rw [if_pos c1]
    by_cases c2 : c.Day = d
    · rw [if_pos ⟨c2, by omega⟩, if_pos ⟨c2, c1⟩]
    · rw [if_neg fun q => c2 q.1, if_neg fun q => c2 q.1]
  · rw [if_neg c1, if_neg fun q => c1 q.2]

def cvG (x : Gi_Lanes) (n f days : Nat) (l : List Gi_Convoy) (i : Nat) : Int := if i < days * x.Lanes.length then lsm (fun c : Gi_Convoy => if c.Day = ((i / x.Lanes.length : Nat) : Int) ∧ c.Lane = ((i % x.Lanes.length : Nat) : Int) then c.Load else 0) l
  else if (i - days * x.Lanes.length) % n = f then 0 else depF x (((i - days * x.Lanes.length) / n : Nat) : Int) l (runA x l ((i - days * x.Lanes.length) / n)) ((i - days * x.Lanes.length) % n)
theorem cvG_la {x : Gi_Lanes} {n f days : Nat} {l : List Gi_Convoy} {d r : Nat} (hdd : d < days) (hr : r < x.Lanes.length) : cvG x n f days l (d * x.Lanes.length + r) = lsm (fun c : Gi_Convoy => if c.Day = (d : Int) ∧ c.Lane = (r : Int) then c.Load else 0) l := by
  have hm := dmod (d := d) hr
  unfold cvG
  rw [if_pos (ltmul hdd hr), hm.1, hm.2]
theorem cvG_sa {x : Gi_Lanes} {n f days : Nat} {l : List Gi_Convoy} {d k : Nat} (hk : k < n) : cvG x n f days l (days * x.Lanes.length + (d * n + k)) = if k = f then 0 else depF x (d : Int) l (runA x l d) k := by
  have hm := dmod (d := d) hk
  unfold cvG
  rw [if_neg (by omega), Nat.add_sub_cancel_left, hm.1, hm.2]
theorem cvG_inn {x : Gi_Lanes} {n f days : Nat} (h : LnOk x n) {l : List Gi_Convoy} (hc : CvOk x l) {d k : Nat} (hdd : d ≤ days) (hk : k < n) (hkf : k ≠ f) : innI x n days (cvG x n f days l) d k = runA x l d k := by
  cases d with
  | zero => simp only [innI, runA]
  | succ d =>
    simp only [innI, runA]
    rw [cvG_sa hk, if_neg hkf, arrF_sum]
    have e : lsm (fun r => if toD x r = k then cvG x n f days l (d * x.Lanes.length + r) else 0) (List.range x.Lanes.length) = arrS x (d : Int) l k := by
      unfold arrS
      simp only [lnOf_is]
      rw [← lane_sum hc (d : Int) fun r => toD x r = k]
      refine lsm_congr fun r hr => ?_
      rw [cvG_la (by omega) (List.mem_range.1 hr)]
    rw [e]
    omega
theorem cvG_out {x : Gi_Lanes} {n f days : Nat} (h : LnOk x n) {l : List Gi_Convoy} (hc : CvOk x l) {d k : Nat} (hdd : d < days) (hk : k < n) (hkf : k ≠ f) : outI x n days (cvG x n f days l) d k = runA x l d k := by
  unfold outI
  rw [cvG_sa hk, if_neg hkf, depF_sum]
  have e : lsm (fun r => if frD x r = k then cvG x n f days l (d * x.Lanes.length + r) else 0) (List.range x.Lanes.length) = depS x (d : Int) l k := by
    unfold depS
    simp only [lnOf_is]
    rw [← lane_sum hc (d : Int) fun r => frD x r = k]
    refine lsm_congr fun r hr => ?_
    rw [cvG_la hdd (List.mem_range.1 hr)]
  rw [e]
  omega
theorem cut_cross {x : Gi_Lanes} {n f t days : Nat} (h : LnOk x n) {S : Nat → Bool} (hlt : capN x n days f t 1000000000 S < 1000000000) {d k : Nat} (hdd : d < days) (hk : k < n) (hft : k = f ∨ k = t) (hs : S (d * n + k) = true) : S ((d + 1) * n + k) = true := by
  obtain ⟨n1, n2⟩ := capN_nn (days := days) h (f : Int) (t : Int) (big := 1000000000) (by omega) S
  have := (tsm_mem n1 n2).2 d k hdd hk
  have hh : capN x n days f t 1000000000 S = tsm x.Lanes.length n days _ _ := rfl
  rw [← hh] at this
  have hm := List.getElem?_eq_getElem (show k < x.Stores.length by rw [h.st]; exact hk)
  rw [hm] at this
  simp only at this
  cases c : S ((d + 1) * n + k)
  · rw [if_pos ⟨hs, c⟩, if_pos (by omega)] at this
    omega
  · rfl
theorem cut_from {x : Gi_Lanes} {n f t days : Nat} (h : Ask x n f t days) {S : Nat → Bool} (hlt : capN x n days f t 1000000000 S < 1000000000) (hs : S f = true) : ∀ d, d ≤ days → S (d * n + f) = true
  | 0, _ => by rw [Nat.zero_mul, Nat.zero_add]; exact hs
  | d + 1, hd1 => cut_cross h.ln hlt (by omega) h.flt (.inl rfl) (cut_from h hlt hs d (by omega))
theorem plc_of {n days v : Nat} (h : v < (days + 1) * n) : ∃ d k, d ≤ days ∧ k < n ∧ v = d * n + k := by
  have hn : 0 < n := by
    rcases Nat.eq_zero_or_pos n with e | e
    · subst e; omega
    · exact e
  refine ⟨v / n, v % n, ?_, Nat.mod_lt _ hn, ?_⟩
  · have := (Nat.div_lt_iff_lt_mul hn).2 h
    omega
  · have := Nat.div_add_mod v n
    rw [Nat.mul_comm] at this
    omega
theorem run_le {x : Gi_Lanes} {n f t days : Nat} (h : Ask x n f t days) {l : List Gi_Convoy} (hg : alli (gcQ x days l) l = true) {A : Nat → Int} (hr : runD x n f t l days 0 (fun _ => 0) = some A) : A t ≤ grd x f t days := by
  have hc := gcQ_ok h.ln hg
  obtain ⟨eA, hok⟩ := runD_is days 0 (A := A) hr
  rw [Nat.zero_add] at eA
  obtain ⟨fl, _, _, grf⟩ := grd_i h
  obtain ⟨S, sh, s1, s2⟩ := grf.sh
  have hN := (netI_wf h.ln (f : Int) (t : Int) h.dle).ok
  have hcap : grd x f t days = capf (ntI (netI x f t n days) ((days + 1) * n)) S := grf.fw.eq_cap hN h.s h.e s1 s2 sh
  have hcapN := hcap
  rw [capI h.ln] at hcapN
  have hlt : capN x n days f t 1000000000 S < 1000000000 := by have := grf.f1; omega
  have hfS := cut_from h hlt s1
  have nn : ∀ d k, d < days → k < n → 0 ≤ cvG x n f days l (days * x.Lanes.length + (d * n + k)) := fun d k hdd hk => by
    rw [cvG_sa hk]
    by_cases c : k = f
    · rw [if_pos c]; omega
    · rw [if_neg c]
      exact (kOk_is (hok d (by omega) (by omega)) hk c).1
  have key : exf (ntI (netI x f t n days) ((days + 1) * n)) (cvG x n f days l) (days * n + t) ≤ capf (ntI (netI x f t n days) ((days + 1) * n)) S := by
    refine pre_le hN h.e s2 (fun v hv hS => ?_) (fun i hi u1 u2 => ?_) fun i hi u1 u2 => ?_
    · obtain ⟨d, k, hdd, hk, rfl⟩ := plc_of (show v < (days + 1) * n from hv)
      have hkf : k ≠ f := fun q => by
        rw [q, hfS d hdd] at hS
        cases hS
      rw [exf_at h.ln (f : Int) (t : Int) _ _ hdd hk, cvG_inn h.ln hc hdd hk hkf]
      by_cases c : d < days
      · rw [if_pos c, cvG_out h.ln hc c hk hkf]; omega
      · rw [if_neg c]
        cases d with
        | zero => simp only [runA]; omega
        | succ d =>
          simp only [runA]
          rw [arrF_sum]
          have h1 := (kOk_is (hok d (by omega) (by omega)) hk hkf).1
          have h2 : 0 ≤ arrS x (d : Int) l k := lsm_nn fun c hcm => by have := hc c hcm; split <;> omega
          omega
    · have hi' : i < (netI x f t n days).length := List.mem_range.1 hi
      rw [netI_len h.ln] at hi'
      rcases idxI (x := x) (n := n) (days := days) hi' with ⟨d, r, hdd, hr, rfl⟩ | ⟨d, k, hdd, hk, rfl⟩
      · obtain ⟨a, a1, a2, a3, a4⟩ := arcI_la h.ln (f : Int) (t : Int) ((days + 1) * n) hdd hr
        rw [a4, cvG_la hdd hr]
        exact (lane_once h.ln hg a1).2
      · obtain ⟨m, a1, a2, a3, a4⟩ := arcI_sa h.ln (f : Int) (t : Int) ((days + 1) * n) hdd hk
        rw [a2] at u1
        rw [a3] at u2
        have hm := h.ln.so m (List.mem_of_getElem? a1)
        rw [a4, cvG_sa hk]
        by_cases c : k = f
        · rw [if_pos c, if_pos (by omega)]; omega
        · rw [if_neg c]
          by_cases c2 : k = t
          · rw [cut_cross h.ln hlt hdd hk (.inr c2) u1] at u2
            cases u2
          · rw [if_neg (by omega)]
            rcases (kOk_is (hok d (by omega) (by omega)) hk c).2 with q | ⟨m', b1, b2⟩
            · exact absurd q c2
            · rw [a1] at b1
              cases b1
              exact b2
    · have hi' : i < (netI x f t n days).length := List.mem_range.1 hi
      rw [netI_len h.ln] at hi'
      rcases idxI (x := x) (n := n) (days := days) hi' with ⟨d, r, hdd, hr, rfl⟩ | ⟨d, k, hdd, hk, rfl⟩
      · obtain ⟨a, a1, a2, a3, a4⟩ := arcI_la h.ln (f : Int) (t : Int) ((days + 1) * n) hdd hr
        rw [cvG_la hdd hr]
        exact (lane_once h.ln hg a1).1
      · exact nn d k hdd hk
  rw [exf_at h.ln (f : Int) (t : Int) _ _ (Nat.le_refl _) h.tlt, if_neg (by omega), cvG_inn h.ln hc (Nat.le_refl _) h.tlt (Ne.symm h.ne), ← hcap, ← eA] at key
  omega
theorem chk_le {x : Gi_Lanes} {n f t days : Nat} (h : Ask x n f t days) (l : List Gi_Convoy) : (chkR x n f t days l).2.1 ≤ grd x f t days := by
  obtain ⟨fl, _, _, grf⟩ := grd_i h
  have h0 := grf.f0
  unfold chkR
  by_cases c : alli (gcQ x days l) l = true
  · rw [if_pos c]
    cases hr : runD x n f t l days 0 (fun _ => 0) with
    | none => exact h0
    | some A => exact run_le h c hr
  · rw [if_neg c]; exact h0

structure LnD (x : Gi_Lanes) : Prop where
  l : x.Lanes.length ≤ 30
  s : 1 ≤ x.Stores.length ∧ x.Stores.length ≤ 10
theorem LnD.st {x : Gi_Lanes} (h : LnD x) : x.Stores.length ≤ 2000000 := by have := h.s; omega
def lnS (k : Int) : Ss_l1Cur_lanes → Prop
  | .h1 k0 b1 _ b3 => k0 = 0 ∧ 2 ≤ b3 ∧ b3 ≤ 5 ∧ Cu b1 (k + 2)
  | .h2 k0 b1 _ b3 l4 => 1 ≤ k0 ∧ k0 ≤ b3 ∧ b3 ≤ 5 ∧ (l4.length : Int) = k0 ∧ Cu b1 (k + 2 + 2 * k0)
  | .h3 .. => False
  | .h4 k0 b1 _ b3 l4 => 0 ≤ k0 ∧ k0 ≤ 7 ∧ 1 ≤ l4.length ∧ l4.length ≤ 5 ∧ Cu b1 (k + 80 - 6 * k0)
  | .h5 .. => False
  | .h6 k0 b1 _ b3 l4 l5 => 0 ≤ k0 ∧ k0 ≤ 7 ∧ (l4.length : Int) + k0 ≤ 7 ∧ 1 ≤ l5.length ∧ l5.length ≤ 5 ∧ Cu b1 (k + 80 - 6 * k0)
def lnM : Ss_l1Cur_lanes → Nat
  | .h1 .. => 1000
  | .h2 k0 _ _ b3 _ => 500 + (b3 - k0).toNat
  | .h3 .. => 0
  | .h4 k0 .. => 2 * k0.toNat + 1
  | .h5 .. => 0
  | .h6 k0 .. => 2 * k0.toNat
theorem okLanes {c : Gs_l1Cur} {k : Int} (h : Cu c k) (hk : k + 100 ≤ 1099511627776) : Ok (Ds_l1Cur_lanes c) fun r => (r.1.Lanes.length ≤ 7 ∧ 1 ≤ r.1.Stores.length ∧ r.1.Stores.length ≤ 5) ∧ Cu r.2 (k + 100) := by
  unfold Ds_l1Cur_lanes
  refine Ok.bind (okPick h (by omega) 4) fun r1 h1 => ?_
  have h1b := h1.1.2.1 (by decide)
  have h10 := h1.1.1
  rw [w64 (by omega)]
  refine Ok.loop (lnS k) lnM (fun s hs => ?_) ⟨rfl, by omega, by omega, h1.2⟩
  cases s with
  | h1 k0 b1 b2 b3 =>
    obtain ⟨rfl, q1, q2, q3⟩ := hs
    simp only [Bs_l1Cur_lanes]
    refine Ok.chk (by omega) (Ok.bind (okAmong q3 (by omega) _ (by decide)) fun r2 h2 => Ok.chk (by simp) (Ok.ret ?_))
    rw [show IntKind.wrap .i64 (0 + 1) = 1 from by decide]
    exact ⟨⟨by omega, by omega, q2, by simp, h2.2.mono (by omega) (by omega)⟩, by simp only [lnM]; omega⟩
  | h2 k0 b1 b2 b3 l4 =>
    obtain ⟨q1, q2, q3, q4, q5⟩ := hs
    simp only [Bs_l1Cur_lanes]
    refine Ok.ite (fun hp => ?_) fun _ => ?_
    · refine Ok.bind (okAmong q5 (by omega) _ (by decide)) fun r2 h2 => Ok.chk (by simp; omega) (Ok.ret ?_)
      rw [w64 (by omega)]
      exact ⟨⟨by omega, by omega, q3, by simp; omega, h2.2.mono (by omega) (by omega)⟩, by simp only [lnM]; omega⟩
    · refine Ok.bind (okPick q5 (by omega) 8) fun r2 h2 => Ok.ret ?_
      have hb := h2.1.2.1 (by decide)
      exact ⟨⟨h2.1.1, by omega, by omega, by omega, h2.2.mono (by omega) (by omega)⟩, by simp only [lnM]; omega⟩
  | h3 k0 b1 b2 b3 => exact hs.elim
  | h4 k0 b1 b2 b3 l4 =>
    obtain ⟨q1, q2, q3, q4, q5⟩ := hs
    simp only [Bs_l1Cur_lanes]
    refine Ok.ite (fun hp => ?_) fun _ => ?_
    · refine Ok.bind (okPick q5 (by omega) _) fun r2 h2 => Ok.bind (okPick h2.2 (by omega) _) fun r3 h3 => Ok.bind (okPick h3.2 (by omega) _) fun r4 h4 => ?_
      rw [w64 (by omega)]
      refine Ok.ite (fun _ => Ok.ret ?_) fun _ => Ok.chk (by simp) (Ok.ret ?_)
      · exact ⟨⟨by omega, by omega, q3, q4, h4.2.mono (by omega) (by omega)⟩, by simp only [lnM]; omega⟩
      · exact ⟨⟨by omega, by omega, by simp; omega, q3, q4, h4.2.mono (by omega) (by omega)⟩, by simp only [lnM]; omega⟩
    · exact Ok.ret ⟨⟨by simp, q3, q4⟩, q5.mono (by omega) (by omega)⟩
  | h5 k0 b1 b2 b3 l4 => exact hs.elim
  | h6 k0 b1 b2 b3 l4 l5 =>
    obtain ⟨q1, q2, q6, q3, q4, q5⟩ := hs
    simp only [Bs_l1Cur_lanes]
    refine Ok.ite (fun hp => ?_) fun _ => ?_
    · refine Ok.bind (okPick q5 (by omega) _) fun r2 h2 => Ok.bind (okPick h2.2 (by omega) _) fun r3 h3 => Ok.bind (okPick h3.2 (by omega) _) fun r4 h4 => ?_
      rw [w64 (by omega)]
      refine Ok.ite (fun _ => Ok.ret ?_) fun _ => Ok.chk (by simp; omega) (Ok.ret ?_)
      · exact ⟨⟨by omega, by omega, by omega, q3, q4, h4.2.mono (by omega) (by omega)⟩, by simp only [lnM]; omega⟩
      · exact ⟨⟨by omega, by omega, by simp; omega, q3, q4, h4.2.mono (by omega) (by omega)⟩, by simp only [lnM]; omega⟩
    · exact Ok.ret ⟨⟨by simp only; omega, q3, q4⟩, q5.mono (by omega) (by omega)⟩
theorem okAnyLanes {c : Gs_l1Cur} {k : Int} (h : Cu c k) (hk : k + 110 ≤ 1099511627776) : Ok (Ds_l1Cur_anyLanes c) fun r => LnD r.1 ∧ Cu r.2 (k + 110) := by
  unfold Ds_l1Cur_anyLanes
  refine Ok.bind (okLanes h (by omega)) fun r1 h1 => Ok.bind (okPick h1.2 (by omega) 24) fun r2 h2 => ?_
  obtain ⟨⟨a1, a2, a3⟩, a4⟩ := h1
  refine Ok.ite (fun _ => Ok.bind (okAmong h2.2 (by omega) _ (by decide)) fun r4 h4 => Ok.ret ⟨⟨by simp only; omega, by simp only; omega⟩, h4.2.mono (by omega) (by omega)⟩) fun _ => ?_
  refine Ok.ite (fun _ => Ok.bind (okAmong h2.2 (by omega) _ (by decide)) fun r4 h4 => Ok.chk (by simp; omega) (Ok.ret ⟨⟨by simp; omega, by simp only; omega⟩, h4.2.mono (by omega) (by omega)⟩)) fun _ => ?_
  refine Ok.ite (fun _ => Ok.bind (okAmong h2.2 (by omega) _ (by decide)) fun r4 h4 => Ok.get (by simp; omega) fun y _ _ => Ok.ret ⟨⟨by simp only; omega, by simp; omega⟩, h4.2.mono (by omega) (by omega)⟩) fun _ => ?_
  refine Ok.ite (fun _ => ?_) fun _ => ?_
  · refine Ok.bind (okPick h2.2 (by omega) 2) fun r7 h7 => ?_
    have hb := h7.1.2.1 (by decide)
    have h0 := h7.1.1
    rw [w64 (by omega)]
    refine Ok.loop (fun s => match s with | .h1 n0 b1 _ _ l4 l5 => n0 ≤ 16 ∧ l4.length ≤ 16 ∧ (1 ≤ l5.length ∧ l5.length ≤ 5) ∧ Cu b1 (k + 110)) (fun s => match s with | .h1 n0 _ _ _ l4 _ => 100 - l4.length) (fun s hs => ?_) ⟨by omega, by omega, ⟨a2, a3⟩, h7.2.mono (by omega) (by omega)⟩
    cases s with
    | h1 n0 b1 b2 b3 l4 l5 =>
      obtain ⟨q1, q2, q3, q4⟩ := hs
      simp only [Bs_l1Cur_anyLanes]
      refine Ok.ite (fun hp => Ok.chk (by simp; omega) (Ok.ret ⟨⟨q1, by simp; omega, q3, q4⟩, by simp; omega⟩)) fun _ => Ok.ret ⟨⟨by simp only; omega, by simp only; omega⟩, q4⟩
  · refine Ok.ite (fun _ => Ok.bind (okAmong h2.2 (by omega) _ (by decide)) fun r4 h4 => Ok.chk (by simp; omega) (Ok.ret ⟨⟨by simp; omega, by simp only; omega⟩, h4.2.mono (by omega) (by omega)⟩)) fun _ => ?_
    exact Ok.ret ⟨⟨by simp only; omega, by simp only; omega⟩, h2.2.mono (by omega) (by omega)⟩
theorem okTrip {c : Gs_l1Cur} {k : Int} (h : Cu c k) (hk : k + 130 ≤ 1099511627776) : Ok (Ds_l1Cur_trip c) fun r => LnD r.1 ∧ Cu r.2.2.2.2 (k + 130) := by
  have most : ∀ a : Int, Ok (Ds_l1Most a 1) fun r => 1 ≤ r := fun a => by
    unfold Ds_l1Most
    exact Ok.ite (fun _ => Ok.ret (by omega)) fun _ => Ok.ret (by omega)
  unfold Ds_l1Cur_trip
  refine Ok.bind (okAnyLanes h (by omega)) fun r1 h1 => Ok.bind (most _) fun r2 h2 => Ok.bind (okPick h1.2 (by omega) _) fun r3 h3 => Ok.bind (most _) fun r4 h4 => Ok.bind (okPick h3.2 (by omega) _) fun r5 h5 => Ok.ite (fun _ => ?_) fun _ => ?_
  · refine Ok.bind (okOne h5.2 (by omega) 12) fun r7 h7 => Ok.ite (fun _ => ?_) fun _ => ?_
    · exact Ok.bind (okPick h7 (by omega) 5) fun r9 h9 => Ok.bind (okPick h9.2 (by omega) 30) fun r10 h10 => Ok.bind (okPick h10.2 (by omega) 30) fun r11 h11 => Ok.ret ⟨h1.1, h11.2.mono (by omega) (by omega)⟩
    · exact Ok.bind (most _) fun r9 h9 => Ok.chk (by omega) (Ok.bind (okPick h7 (by omega) 5) fun r11 h11 => Ok.bind (okPick h11.2 (by omega) 30) fun r12 h12 => Ok.bind (okPick h12.2 (by omega) 30) fun r13 h13 => Ok.ret ⟨h1.1, h13.2.mono (by omega) (by omega)⟩)
  · exact Ok.bind (okPick h5.2 (by omega) 5) fun r9 h9 => Ok.bind (okPick h9.2 (by omega) 30) fun r10 h10 => Ok.bind (okPick h10.2 (by omega) 30) fun r11 h11 => Ok.ret ⟨h1.1, h11.2.mono (by omega) (by omega)⟩
theorem okWithout {code : List Int} (hc : code.length < 9223372036854775808) (h1 : ∀ x ∈ code, 0 ≤ x ∧ x < 256) : Ok (Ds_DrawWithoutLane code) fun r => LnD r.1 := by
  unfold Ds_DrawWithoutLane
  exact Ok.bind (okAnyLanes (cu1 h1 hc) (by omega)) fun r1 q1 => Ok.bind (okPick q1.2 (by omega) _) fun r2 q2 => Ok.bind (okPick q2.2 (by omega) _) fun r3 q3 => Ok.ret q1.1
theorem plan_b {x : Gi_Lanes} (hs : x.Stores.length ≤ 2000000) (f t days : Int) : ∃ l, Di_DeliveryPlan x f t days = some (l, askG x f t days) ∧ Ds_DeliveryPlan x f t days = some (l, askG x f t days) ∧ l.length ≤ 90 ∧
    (askG x f t days = true → Di_CheckConvoys x f t days l = some (0, grd x f t days, true)) := by
  by_cases c : askG x f t days = true
  · obtain ⟨n, f', t', d', rfl, rfl, rfl, h⟩ := askG_iff.1 c
    obtain ⟨g, e1, hp⟩ := plan_i h
    have hl := planL_len x.Lanes.length g (d' * x.Lanes.length)
    have hnd := h.ln.ndL h.dle
    refine ⟨_, by rw [c]; exact e1, by rw [c]; exact plan_s h hp, by omega, fun _ => ?_⟩
    rw [checkConvoys_i h (by omega), plan_chk h hp]
  · refine ⟨[], ?_, ?_, by simp, fun q => absurd q c⟩
    · unfold Di_DeliveryPlan
      rw [ask_i hs, obind rfl, if_neg c, show askG x f t days = false by simpa using c]
    · unfold Ds_DeliveryPlan
      rw [ask_s hs, obind rfl, if_neg c, show askG x f t days = false by simpa using c]
theorem check_b {x : Gi_Lanes} (hs : x.Stores.length ≤ 2000000) (f t days : Int) {l : List Gi_Convoy} (hl : l.length ≤ 100) : ∃ a b, Di_CheckConvoys x f t days l = some (a, b, askG x f t days) ∧ Ds_CheckConvoys x f t days l = some (a, b, askG x f t days) ∧ (askG x f t days = true → b ≤ grd x f t days) := by
  by_cases c : askG x f t days = true
  · obtain ⟨n, f', t', d', rfl, rfl, rfl, h⟩ := askG_iff.1 c
    have hr : chkR x n f' t' d' l = ((chkR x n f' t' d' l).1, (chkR x n f' t' d' l).2.1, askG x f' t' d') := by
      rw [c]
      unfold chkR
      split
      · split <;> rfl
      · rfl
    refine ⟨(chkR x n f' t' d' l).1, (chkR x n f' t' d' l).2.1, ?_, ?_, fun _ => chk_le h l⟩
    · rw [checkConvoys_i h hl, ← hr]
    · rw [checkConvoys_s h hl, ← hr]
  · refine ⟨0, 0, ?_, ?_, fun q => absurd q c⟩
    · unfold Di_CheckConvoys
      rw [ask_i hs, obind rfl, if_neg c, show askG x f t days = false by simpa using c]
    · unfold Ds_CheckConvoys
      rw [ask_s hs, obind rfl, if_neg c, show askG x f t days = false by simpa using c]
theorem cut_b {x : Gi_Lanes} (hs : x.Stores.length ≤ 2000000) (f t days : Int) : ∃ l, Di_DeliveryCut x f t days = some (l, askG x f t days) ∧ Ds_DeliveryCut x f t days = some (l, askG x f t days) ∧ l.length ≤ 100 ∧
    (askG x f t days = true → cutR x days l = (grd x f t days, true)) := by
  by_cases c : askG x f t days = true
  · obtain ⟨n, f', t', d', rfl, rfl, rfl, h⟩ := askG_iff.1 c
    obtain ⟨S, e1, e2, e3, e4, e5⟩ := deliveryCut h
    have hl := cutL_len S 0 ((d' + 1) * n)
    have hnd := h.ln.ndL h.dle
    exact ⟨_, by rw [c]; exact e1, by rw [c]; exact e2, by omega, fun _ => cut_load h e3 e4 e5⟩
  · refine ⟨[], ?_, ?_, by simp, fun q => absurd q c⟩
    · unfold Di_DeliveryCut
      rw [ask_i hs, obind rfl, if_neg c, show askG x f t days = false by simpa using c]
    · unfold Ds_DeliveryCut
      rw [ask_s hs, obind rfl, if_neg c, show askG x f t days = false by simpa using c]
theorem okConvoys {code : List Int} (hc : code.length < 9223372036854775808) (h1 : ∀ x ∈ code, 0 ≤ x ∧ x < 256) : Ok (Ds_DrawCheckConvoys code) fun r => LnD r.1 ∧ r.2.2.2.2.length ≤ 100 := by
  unfold Ds_DrawCheckConvoys
  refine Ok.bind (okTrip (cu1 h1 hc) (by omega)) fun r1 q1 => ?_
  obtain ⟨l, _, e2, hl, _⟩ := plan_b q1.1.st r1.2.1 r1.2.2.1 r1.2.2.2.1
  refine Ok.eq e2 (Ok.ite (fun _ => Ok.bind (okPick q1.2 (by omega) 6) fun r4 h4 => ?_) fun _ => Ok.ret ⟨q1.1, by simp only; omega⟩)
  refine Ok.ite (fun _ => Ok.ite (fun hp => ?_) fun _ => Ok.ret ⟨q1.1, by simp only; omega⟩) fun _ => Ok.ite (fun _ => Ok.ite (fun hp => Ok.chk (by omega) (Ok.ret ⟨q1.1, by simp; omega⟩)) fun _ => Ok.ret ⟨q1.1, by simp only; omega⟩) fun _ => ?_
  · refine Ok.bind (okPick h4.2 (by omega) _) fun r7 h7 => ?_
    have hb := h7.1.2.1 (by omega)
    have h0 := h7.1.1
    exact Ok.chk h0 (Ok.get (by omega) fun y _ _ => Ok.chk h0 (Ok.get (by omega) fun z _ _ => Ok.ret ⟨q1.1, by simp; omega⟩))
  · refine Ok.ite (fun _ => Ok.bind (okPick h4.2 (by omega) 5) fun r8 h8 => Ok.bind (okPick h8.2 (by omega) 5) fun r9 h9 => Ok.chk (by simp; omega) (Ok.ret ⟨q1.1, by simp; omega⟩)) fun _ => Ok.ret ⟨q1.1, by simp only; omega⟩
theorem okCut {code : List Int} (hc : code.length < 9223372036854775808) (h1 : ∀ x ∈ code, 0 ≤ x ∧ x < 256) : Ok (Ds_DrawCutLoad code) fun r => r.1.Stores.length ≤ 2000000 ∧ r.2.2.length ≤ 100 := by
  unfold Ds_DrawCutLoad
  refine Ok.bind (okTrip (cu1 h1 hc) (by omega)) fun r1 q1 => ?_
  have key : ∀ (c : Gs_l1Cur) (b : Int), Cu c 200 → Ok (loop Bs_DrawCutLoad (.h1 r1.2.2.2.1 0 0 c b ([] : List Int) r1.1.Lanes r1.1.Stores)) fun r => r.1.Stores.length ≤ 2000000 ∧ r.2.2.length ≤ 100 := fun c b hcu => by
    refine Ok.loop (fun s => match s with | .h1 _ v1 _ b3 _ l5 _ l7 => 0 ≤ v1 ∧ v1 ≤ 12 ∧ (l5.length : Int) ≤ v1 ∧ l7.length ≤ 2000000 ∧ Cu b3 (200 + 2 * v1)) (fun s => match s with | .h1 _ v1 _ _ _ _ _ _ => (12 - v1).toNat) (fun s hs => ?_) ⟨by omega, by omega, by simp, q1.1.st, hcu⟩
    cases s with
    | h1 d0 v1 b2 b3 b4 l5 l6 l7 =>
      obtain ⟨b1_, b2_, b3_, p4, p5⟩ := hs
      simp only [Bs_DrawCutLoad]
      refine Ok.ite (fun hp => Ok.bind (okOne p5 (by omega) 2) fun r2 h2 => ?_) fun _ => Ok.ret ⟨p4, by simp only; omega⟩
      rw [w64 (by omega)]
      refine Ok.ite (fun _ => Ok.chk (by simp; omega) (Ok.ret ?_)) fun _ => Ok.ret ?_
      · dsimp only
        exact ⟨⟨by omega, by omega, by simp; omega, p4, h2.mono (by omega) (by omega)⟩, by omega⟩
      · dsimp only
        exact ⟨⟨by omega, by omega, by omega, p4, h2.mono (by omega) (by omega)⟩, by omega⟩
  obtain ⟨l, _, e2, hl, _⟩ := cut_b q1.1.st r1.2.1 r1.2.2.1 r1.2.2.2.1
  refine Ok.eq e2 (Ok.ite (fun _ => Ok.bind (okOne q1.2 (by omega) 2) fun r4 h4 => Ok.ite (fun _ => Ok.ret ⟨q1.1.st, hl⟩) fun _ => key _ _ (h4.mono (by omega) (by omega))) fun _ => key _ _ (q1.2.mono (by omega) (by omega)))

theorem lawLanes (code more : List Int) (hc : code.length < 9223372036854775808) (hm : more.length < 9223372036854775808) (h1 : ∀ x ∈ code, 0 ≤ x ∧ x < 256) (h2 : ∀ x ∈ more, 0 ≤ x ∧ x < 256) : Dw_FnLanes code more = some true := Ok.isTrue <| by
  have hbig : Ok (Dw_big code more) fun _ => True := by
    unfold Dw_big
    exact Ok.ite (fun _ => Ok.ret trivial) fun _ => Ok.ret trivial
  unfold Dw_FnLanes
  refine Ok.bind hbig fun r1 _ => Ok.ite (fun _ => Ok.ret rfl) fun _ => Ok.bind (okConvoys hc h1) fun r3 q3 => ?_
  obtain ⟨x, f, t, days, l⟩ := r3
  simp only at q3 ⊢
  obtain ⟨q3, hl⟩ := q3
  obtain ⟨a, b, e1, e2, e3⟩ := check_b q3.st f t days hl
  have hcr : (critR x f t days).1.length ≤ 100 := by
    unfold critR
    split
    · have := cutL_len (crtS x f.toNat t.toNat days.toNat) 0 x.Lanes.length
      have := q3.l
      simp only; omega
    · simp
  have hwo : ∀ (y : Gi_Lanes) (i : Int), LnD y → (woR y i).1.Lanes.length ≤ 2000000 ∧ (woR y i).1.Stores.length ≤ 1048577 := fun y i hy => by
    have h1 := hy.l
    have h2 := hy.s
    unfold woR
    split
    · simp only [wlR, List.length_append, List.length_take, List.length_drop]; omega
    · simp
  have fin : Ok (Option.bind (Ds_DrawWithoutLane more) fun r18 => Option.bind (Di_WithoutLane r18.1 r18.2) fun r19 => Option.bind (Ds_WithoutLane r18.1 r18.2) fun r20 => Option.bind (Ds_DrawCutLoad more) fun r21 => Option.bind (Di_CutLoad r21.1 r21.2.1 r21.2.2) fun r22 => Option.bind (Ds_CutLoad r21.1 r21.2.1 r21.2.2) fun r23 =>
      if (r19.2 == r20.2) = true then
      Option.bind (Dw_pSameLanes r19.1 r20.1) fun r25 =>
      if r25 = true then
      if (r22.2 == r23.2) = true then
      if (r22.1 : Int) = r23.1 then
      Option.bind (Di_IsLanes x) fun r29 =>
      Option.bind (Ds_IsLanes x) fun r30 =>
      some (r29 == r30)
      else
      some false
      else
      some false
      else
      some false
      else
      some false) fun r => r = true := by
    refine Ok.bind (okWithout hm h2) fun r18 q18 => Ok.eq (withoutLane_i q18.st _) (Ok.eq (withoutLane_s q18.st _) (Ok.bind (okCut hm h2) fun r21 q21 => Ok.eq (cutLoad_i q21.1 _ (by omega)) (Ok.eq (cutLoad_s q21.1 _ (by omega)) (Ok.chk (by simp) (Ok.eq (sameLanes (hwo _ _ q18).1 (hwo _ _ q18).2) (Ok.chk rfl (Ok.chk (by simp) (Ok.chk rfl (Ok.eq (isLanes_i q3.st) ?_)))))))))
    unfold Ds_IsLanes
    exact Ok.eq (a := lnsG x) (by rw [goodL_s q3.st]; rfl) (Ok.ret (by simp))
  refine Ok.eq e1 ?_
  by_cases c : askG x f t days = true
  · have hg : grtR x f t days = (grd x f t days, true) := by unfold grtR; rw [if_pos c]
    have hb := e3 c
    refine Ok.chk c (Ok.eq e2 (Ok.els (by simp [c]) (Ok.chk rfl (Ok.chk rfl (Ok.eq (great_i q3.st) ?_)))))
    rw [hg]
    exact Ok.chk rfl (Ok.els (by simp only; omega) (Ok.eq (critical_i q3.st _ _ _) (Ok.eq (critical_s q3.st _ _ _) (Ok.els (by simp) (Ok.eq (eSameInts _ (by omega)) (Ok.chk rfl fin))))))
  · exact Ok.els c (Ok.eq e2 (Ok.els (by simp [c]) (Ok.chk rfl (Ok.chk rfl (Ok.eq (great_i q3.st) (Ok.eq (critical_i q3.st _ _ _) (Ok.eq (critical_s q3.st _ _ _) (Ok.els (by simp) (Ok.eq (eSameInts _ (by omega)) (Ok.chk rfl fin))))))))))

end Go.Proofs.Ytnfeelacifllmaa.Ab
