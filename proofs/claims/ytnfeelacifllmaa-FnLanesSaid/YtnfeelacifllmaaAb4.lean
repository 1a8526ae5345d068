/- The steps of functions on plain data, part 4: no condition. -/
import Derived.Test.YtnfeelacifllmaaAb3
set_option linter.unusedVariables false
set_option linter.unusedSimpArgs false
namespace Go.Proofs.Ytnfeelacifllmaa.Ab

def Env.frz (E : Env) (r : Nat) : Env :=
  { adr := E.adr
    len := E.len
    ow := fun b => match E.ow b with
      | .own r' p => if r' = r then .fz else .own r' p
      | x => x
    st := fun k => if k = r then .fz else E.st k }

section
variable {X : Ctx} {E : Env} {w : World} {a : Act} {ρ : Operand → Option D} {g : Nat → Option Root} {nid r : Nat} {R : Root} {o : Oper}

theorem Rep.froz {m : Md} {d : D} {v : Value} (h : Rep E w m d v) : (m = .fz ∨ ∃ p, m = .own r p) → Rep (E.frz r) w .fz d v := by
  induction h with
  | int m k n => intro _; exact .int _ _ _
  | bool m b => intro _; exact .bool _ _
  | ifc m b v hv => intro _; exact .ifc _ _ _ hv
  | str m s => intro _; exact .str _ _
  | nil m => intro _; exact .nil _
  | undef m v h => intro hm; rcases hm with rfl | ⟨_, rfl⟩ <;> rcases h with h | ⟨_, _, h⟩ <;> cases h
  | hid m v _ _ h => intro hm; rcases hm with rfl | ⟨_, rfl⟩ <;> rcases h with h | ⟨_, _, h⟩ <;> cases h
  | anyb b => intro hm; rcases hm with hm | ⟨_, hm⟩ <;> cases hm
  | fn f caps vs hl h ih => intro hm; rcases hm with hm | ⟨_, hm⟩ <;> cases hm
  | agg cs vs hl h ih => intro hm; rcases hm with hm | ⟨_, hm⟩ <;> cases hm
  | tup cs vs hl h ih => intro hm; rcases hm with hm | ⟨_, hm⟩ <;> cases hm
  | flist m o wd n xs A cap us hm' hn hc hw ha h ih =>
    intro _
    refine .flist _ _ _ _ _ _ _ us (.inr (.inl rfl)) hn hc hw (fun h0 => ?_) (fun i j x c hx hj => ih i j x c hx hj (.inl rfl))
    obtain ⟨b, hb, h1, h2, h3⟩ := ha h0
    exact ⟨b, hb, by simp [Env.frz, h1], h2, h3⟩
  | olist m r' p wd n xs A cap us hm' hn hc hw ha h ih =>
    intro hm
    have hr : r' = r := by
      rcases hm with rfl | ⟨p', rfl⟩
      · rcases hm' with h | h <;> cases h
      · rcases hm' with h | h <;> cases h
        rfl
    subst hr
    refine .flist _ _ _ _ _ _ _ us (.inr (.inl rfl)) hn hc hw (fun h0 => ?_) (fun i j x c hx hj => ih i j x c hx hj (.inr ⟨_, rfl⟩))
    obtain ⟨b, cs, ty, hb, h1, h2, h3, h4, h5⟩ := ha (by omega)
    exact ⟨b, hb, by simp [Env.frz, h2], lt_of_get h3, h5⟩
  | ref m r wd vw v h' hs h => intro hm; rcases hm with rfl | ⟨_, rfl⟩ <;> rcases h' with h | ⟨_, _, h⟩ <;> cases h
  | ptr m r wd i j v h' hs h => intro hm; rcases hm with rfl | ⟨_, rfl⟩ <;> rcases h' with h | ⟨_, _, h⟩ <;> cases h
  | fptr m wd xs i j a us h' hw ha h ih => intro hm; rcases hm with rfl | ⟨_, rfl⟩ <;> rcases h' with h | ⟨_, _, h⟩ <;> cases h
  | mref m r v h' hs h => intro hm; rcases hm with rfl | ⟨_, rfl⟩ <;> rcases h' with h | ⟨_, _, h⟩ <;> cases h
  | fomap m l b es clk h' ho hh hf => intro _; exact .fomap _ _ _ es clk (.inr rfl) (by simp [Env.frz, ho]) hh hf
  | foptr m wd xs a us h' hw ha h ih => intro _; exact .foptr _ _ _ _ us (.inr rfl) hw ⟨by simp [Env.frz, ha.1], ha.2⟩ (fun i j x c hx hj => ih i j x c hx hj (.inl rfl))
  | omap m r' p l b es clk hm' ho hh hf =>
    intro hm
    have hr : r' = r := by
      rcases hm with rfl | ⟨p', rfl⟩
      · rcases hm' with h | h <;> cases h
      · rcases hm' with h | h <;> cases h
        rfl
    subst hr
    exact .fomap _ _ _ es clk (.inr rfl) (by simp [Env.frz, ho]) hh hf
  | optr m r' p wd xs a us hm' hn hw ha h ih =>
    intro hm
    have hr : r' = r := by
      rcases hm with rfl | ⟨p', rfl⟩
      · rcases hm' with h | h <;> cases h
      · rcases hm' with h | h <;> cases h
        rfl
    subst hr
    obtain ⟨cs, ty, h1, h2, h3, h4, h5⟩ := ha
    exact .foptr _ _ _ _ us (.inr rfl) hw ⟨by simp [Env.frz, h2], lt_of_get h3, h5⟩ (fun i j x c hx hj => ih i j x c hx hj (.inr ⟨_, rfl⟩))

theorem frz_shp (hst : E.st r = .own) {k N : Nat} (h : Shp E w k N) : Shp (E.frz r) w k N := by
  obtain ⟨h1, h2, h3⟩ := h
  refine ⟨h1, ?_, h3⟩
  by_cases hk : k = r
  · subst hk
    rw [if_pos hst] at h2
    simp [Env.frz, h2]
  · simp only [Env.frz, if_neg hk]
    rw [h2]
    by_cases ho : E.st k = .own
    · simp [ho, hk]
    · simp [ho]

theorem mv_frz (hst : E.st r = .own) : Mv E w (E.frz r) w where
  sz := Nat.le_refl _
  fz := fun b _ ho => ⟨rfl, by simp [Env.frz, ho]⟩
  st := fun k hk => by
    simp only [Env.frz]
    split
    · simp
    · exact hk
  ref := fun k hk hal => by
    refine ⟨?_, rfl, rfl, fun N hN => frz_shp hst hN⟩
    unfold Alive at hal ⊢
    simp only [Env.frz] at hal
    by_cases h : k = r
    · subst h; exact .inl hst
    · simpa [h] using hal

theorem lab_frz {k : Nat} (hk : k ≠ r) (p : Pth) : Lab E w (E.frz r) w k p k p := fun b q _ ho => ⟨rfl, by simp [Env.frz, ho, hk]⟩

theorem frz_root (hst : E.st r = .own) {k : Nat} (hk : k ≠ r) {K : Root} (h : RootRel E w k K) : RootRel (E.frz r) w k K :=
  h.mv (mv_frz hst) (by simp [Env.frz, hk]) (lab_frz hk [])

theorem frz_sp {d : D} (hst : E.st r = .own) (h : SpAt E w r d) : SpAt (E.frz r) w r d := by
  unfold SpAt at h ⊢
  have key : ∀ b, E.ow b = (if E.st r = .own then .own r [] else .fz) → (E.frz r).ow b = (if (E.frz r).st r = .own then .own r [] else .fz) := fun b hb => by
    rw [if_pos hst] at hb
    simp [Env.frz, hb]
  split at h
  · obtain ⟨h1, h2, h3, es, clk, h4, h5⟩ := h
    exact ⟨h1, h2, key _ h3, es, clk, h4, h5⟩
  · obtain ⟨h1, h2, h3, b, clk, seen, es, h4, h5, h6, h7⟩ := h
    exact ⟨h1, h2, key _ h3, b, clk, seen, es, h4, by simp [Env.frz, h5], h6, h7⟩
  · trivial
theorem frz_self (h : RootRel E w r R) (hf : R.fz = false) (hb : R.box = false) : RootRel (E.frz r) w r { R with fz := true } where
  st := by simp [Env.frz]
  len := h.len
  n := h.n
  wd := h.wd
  nobox := fun _ => hb
  shp := fun h0 h1 => frz_shp (by rw [h.st, hf]; rfl) (h.shp h0 h1)
  sp := fun h0 d hd => frz_sp (by rw [h.st, hf]; rfl) (h.sp h0 d hd)
  cell := fun i j x c hx hc => by
    obtain ⟨u, hu, hr⟩ := h.cell i j x c hx hc
    refine ⟨u, hu, ?_⟩
    simp only [Root.md, hf, hb] at hr ⊢
    exact hr.froz (.inr ⟨_, rfl⟩)

theorem frz_ext (h : RootRel E w r R) (hf : R.fz = false) (hb : R.box = false) : Ext E w (E.frz r) w [(r, some { R with fz := true })] := by
  have hst : E.st r = .own := by rw [h.st, hf]; rfl
  exact {
    sz := Nat.le_refl _
    os := rfl
    tape := rfl
    output := ⟨rfl, drw_le (Nat.le_refl _)⟩
    fz := fun b _ ho => ⟨rfl, by simp [Env.frz, ho]⟩
    far := fun b _ ho => ⟨rfl, by simp [Env.frz, ho]⟩
    adr := fun _ _ => rfl
    keep := fun d v hd => hd.mv (mv_frz hst) (m' := .slot) trivial
    root := fun k K hk hK => frz_root hst (fun e => hk _ (List.mem_singleton.2 rfl) e.symm) hK
    new := fun k K hk => by
      simp only [List.mem_singleton, Prod.mk.injEq, Option.some.injEq] at hk
      obtain ⟨rfl, rfl⟩ := hk
      exact frz_self h hf hb
    fresh := fun k hk hs => by
      have hne : k ≠ r := fun e => hk _ (List.mem_singleton.2 rfl) e.symm
      simpa [Env.frz, hne] using hs
    shape := fun b cs ty hh => ⟨cs, hh, rfl⟩
    shp := fun k N _ _ hN => frz_shp hst hN
    back := fun k hk => by
      simp only [Env.frz] at hk
      split at hk
      · cases hk
      · exact .inr hk }

theorem Ext.then {E1 E2 : Env} {w1 w2 : World} {us1 us2 : List (Nat × Option Root)} (h : Ext E w E1 w1 us1) (k : Ext E1 w1 E2 w2 us2) (hd : ∀ u ∈ us1, ∀ u' ∈ us2, u'.1 ≠ u.1) (hs : ∀ r, E1.st r = .fresh → E.st r = .fresh) (hn : ∀ r, E.st r ≠ .fresh → E1.st r ≠ .fresh) : Ext E w E2 w2 (us2 ++ us1) where
  sz := Nat.le_trans h.sz k.sz
  os := k.os.trans h.os
  tape := k.tape.trans h.tape
  output := ⟨k.output.1.trans h.output.1, drw_trans h.output.2 k.output.2⟩
  fz := fun b hb ho => by
    obtain ⟨h1, h2⟩ := h.fz b hb ho
    obtain ⟨h3, h4⟩ := k.fz b (Nat.lt_of_lt_of_le hb h.sz) h2
    exact ⟨h3.trans h1, h4⟩
  far := fun b hb ho => by
    obtain ⟨h1, h2⟩ := h.far b hb ho
    obtain ⟨h3, h4⟩ := k.far b (Nat.lt_of_lt_of_le hb h.sz) h2
    exact ⟨h3.trans h1, h4⟩
  adr := fun r hr => (k.adr r (hn r hr)).trans (h.adr r hr)
  keep := fun d v hd => k.keep _ _ (h.keep _ _ hd)
  root := fun r R hr hR => k.root r R (fun u hu => hr u (List.mem_append_left _ hu)) (h.root r R (fun u hu => hr u (List.mem_append_right _ hu)) hR)
  new := fun r R hr => by
    rcases List.mem_append.1 hr with hr | hr
    · exact k.new r R hr
    · exact k.root r R (fun u hu => hd _ hr u hu) (h.new r R hr)
  fresh := fun r hr hf => k.fresh r (fun u hu => hr u (List.mem_append_left _ hu)) (h.fresh r (fun u hu => hr u (List.mem_append_right _ hu)) hf)
  shape := fun b cs ty hh => by
    obtain ⟨cs1, h1, h2⟩ := h.shape b cs ty hh
    obtain ⟨cs2, h3, h4⟩ := k.shape b cs1 ty h1
    exact ⟨cs2, h3, h4.trans h2⟩
  shp := fun r N h1 h2 hN => by
    have h3 : E1.st r = .own := by
      rcases k.back r h2 with h3 | h3
      · rw [hs r h3] at h1; cases h1
      · exact h3
    exact k.shp r N h3 h2 (h.shp r N h1 h3 hN)
  back := fun r hr => by
    rcases k.back r hr with h1 | h1
    · exact .inl (hs r h1)
    · exact h.back r h1

theorem RootRel.asList (h : RootRel E w r R) (hf : R.fz = true) (hb : R.box = false) {lo n cap : Nat} {A : Option Addr} (hn : lo + n ≤ R.n) (hc : n ≤ cap) (hA : 0 < cap → A = some ((E.adr r).add (lo * R.w)) ∧ Shp E w r ((lo + cap) * R.w)) :
    Rep E w .slot (.list false R.w n ((R.xs.drop lo).take n)) (.slice A n cap) := by
  have hlen : ((R.xs.drop lo).take n).length = n := by simp [h.n]; omega
  obtain ⟨us, hus⟩ : ∃ us : Nat → Nat → Value, ∀ (i j : Nat) x c, ((R.xs.drop lo).take n)[i]? = some x → x.cells[j]? = some c → w.cell? ((E.adr r).add ((lo + i) * R.w + j)) = some (us i j) ∧ Rep E w .fz c (us i j) := by
    refine ⟨fun i j => (w.cell? ((E.adr r).add ((lo + i) * R.w + j))).getD undef, fun i j x c hx hj => ?_⟩
    obtain ⟨u, hu, hr⟩ := h.cell (lo + i) j x c (take_drop_get hx).1 hj
    refine ⟨by simp [hu], ?_⟩
    simp only [hu, Option.getD_some]
    simpa [Root.md, hf] using hr
  refine .flist _ _ _ _ _ _ _ us (.inl rfl) hlen hc (fun x hx => h.wd x (List.mem_of_mem_drop (List.mem_of_mem_take hx))) (fun h0 => ?_) (fun i j x c hx hj => (hus i j x c hx hj).2)
  obtain ⟨hA1, _, hA2, cs, ty, hh, _⟩ := hA (by omega)
  refine ⟨_, hA1, ?_, ?_, fun i j x c hx hj => ?_⟩
  · rw [add_block, hA2, h.st, hf]
    rfl
  · rw [add_block]
    exact lt_of_get hh
  · rw [add_add, show lo * R.w + (i * R.w + j) = (lo + i) * R.w + j by rw [Nat.add_mul]; omega]
    exact (hus i j x c hx hj).1

theorem fz1_ok (h : RootRel E w r R) (hf : R.fz = true) (hb : R.box = false) {d : D} {v : Value} (hd : Rep E w .slot d v) : Rep E w .slot (fz1 r R d) v := by
  unfold fz1
  split
  · rename_i k wd vw
    split
    · rename_i hc
      simp only [Bool.and_eq_true] at hc
      have hk := Nat.eq_of_beq_eq_true hc.1
      have hw := Nat.eq_of_beq_eq_true hc.2
      subst hk hw
      obtain ⟨_, _, hal⟩ := hd.ref_inv
      obtain ⟨A, cap, rfl, h1, h2, h3⟩ := hal h.alive
      have hl : E.len k = R.n := h.len
      split
      · simp only [Vw, hl] at h1 h2 h3 ⊢
        have := h.asList hf hb (lo := 0) (n := R.n) (cap := cap) (A := A) (by omega) h1 (fun h0 => h3 h0)
        have e : (R.xs.drop 0).take R.n = R.xs := by rw [List.drop_zero]; exact List.take_of_length_le (by rw [h.n]; exact Nat.le_refl _)
        rw [e] at this
        exact this
      · rename_i lo n
        simp only [Vw, hl] at h1 h2 h3 ⊢
        exact h.asList hf hb h2 h1 (fun h0 => h3 h0)
    · exact hd
  · exact hd

theorem fzD_ok (h : RootRel E w r R) (hf : R.fz = true) (hb : R.box = false) {d : D} {v : Value} (hd : Rep E w .slot d v) : Rep E w .slot (fzD r R d) v := by
  unfold fzD
  split
  · rename_i cs
    obtain ⟨us, rfl, hl, hr⟩ := hd.agg_inv
    refine .agg _ _ (by simpa using hl) fun i c u hc hu => ?_
    simp only [List.getElem?_map, Option.map_eq_some_iff] at hc
    obtain ⟨c0, hc0, rfl⟩ := hc
    exact fz1_ok h hf hb (hr i c0 u hc0 hu)
  · exact fz1_ok h hf hb hd

theorem stepF_ok : ∀ (rs : List Nat) {E : Env} {g : Nat → Option Root} {ρ : Operand → Option D} {h : Hint} {out : Out}, Hyp X E w a ρ g nid → (∀ u ∈ out.us, nid ≤ u.1 → E.st u.1 = .fresh) → stepF X o g ρ nid h rs = some out → AllP out.ps → Does X o E w a out
  | [], E, g, ρ, h, out, H, hf, hs, hp => stepOp_ok H hf hs hp
  | r :: rs, E, g, ρ, h, out, H, hf, hs, hp => by
    simp only [stepF] at hs
    split at hs
    · rename_i R hR
      split at hs
      · cases hs
      · rename_i hfb
        simp only [Bool.or_eq_true, not_or, Bool.not_eq_true] at hfb
        split at hs
        · rename_i out1 hs1
          split at hs
          · cases hs
          · rename_i hany
            cases hs
            have hrt := H.rt r R hR
            have hst : E.st r = .own := by rw [hrt.st, hfb.1]; rfl
            have hx := frz_ext hrt hfb.1 hfb.2
            have hself := frz_self hrt hfb.1 hfb.2
            have hne : ∀ u ∈ out1.us, u.1 ≠ r := fun u hu e => hany (List.any_eq_true.2 ⟨u, hu, by rw [e]; exact Nat.beq_refl r⟩)
            have hlt := H.lt r R hR
            have H1 : Hyp X (E.frz r) w a (fun x => fzO r R (ρ x)) (putG g r { R with fz := true }) nid := by
              refine ⟨H.T, fun x d hd => ?_, fun k K hK => ?_, fun k K hK => ?_, hx.gl H.gl⟩
              · cases hd0 : ρ x with
                | none => rw [hd0] at hd; cases hd
                | some d0 =>
                  rw [hd0] at hd
                  cases hd
                  exact fzD_ok (R := { R with fz := true }) hself rfl hfb.2 (hx.keep _ _ (H.op x d0 hd0))
              · unfold putG at hK
                split at hK
                · rename_i hk
                  have := Nat.eq_of_beq_eq_true hk
                  subst this
                  cases hK
                  exact hself
                · rename_i hk
                  exact frz_root hst (fun e => hk (by rw [e]; exact Nat.beq_refl r)) (H.rt k K hK)
              · unfold putG at hK
                split at hK
                · rename_i hk
                  rw [Nat.eq_of_beq_eq_true hk]
                  exact hlt
                · exact H.lt k K hK
            have hf1 : ∀ u ∈ out1.us, nid ≤ u.1 → (E.frz r).st u.1 = .fresh := fun u hu hge => by
              have := hf u (List.mem_append_left _ hu) hge
              simpa [Env.frz, hne u hu] using this
            have hdo := stepF_ok rs H1 hf1 hs1 hp
            intro K Q hK
            refine hdo K Q fun E' w' v hE hv => hK E' w' v ?_ hv
            refine hx.then hE (fun u hu u' hu' => ?_) (fun k hk => ?_) (fun k hk => ?_)
            · rw [List.mem_singleton] at hu
              subst hu
              exact hne u' hu'
            · simp only [Env.frz] at hk
              split at hk
              · cases hk
              · exact hk
            · simp only [Env.frz]
              split
              · simp
              · exact hk
        · cases hs
    · cases hs

theorem load_ps {h : Hint} {out : Out} {t : Nat} {x : Operand} (ho : o.op = .load t x) (hs : stepOp X o ρ g nid h = some out) {ti : TI} (ht : look t X.T = some ti) :
    (∀ {r wd i j : Nat} {R : Root}, ρ x = some (.ptr r wd i j) → gw g r wd = some R → getCells R.xs i j ti.size = some h.xs → AllP out.ps) ∧
    (∀ {wd i j : Nat} {xs : List D}, ρ x = some (.fptr wd xs i j) → getCells xs i j ti.size = some h.xs → AllP out.ps) := by
  unfold stepOp at hs
  rw [ho] at hs
  simp only [ht] at hs
  constructor
  · intro r wd i j R hx hg hc
    simp only [hx, hg] at hs
    split at hs
    · split at hs
      · cases hs
        exact ⟨hc, trivial⟩
      · cases hs
    · cases hs
  · intro wd i j xs hx hc
    simp only [hx] at hs
    split at hs
    · split at hs
      · cases hs
        exact ⟨hc, trivial⟩
      · cases hs
    · cases hs

theorem getCells_of {xs cs : List D} {e : D} {i j n : Nat} (h : xs[i]? = some e) (hc : getCells [e] 0 j n = some cs) : getCells xs i j n = some cs := by
  unfold getCells at hc ⊢
  rw [h]
  simpa using hc

theorem Does.psv {out out' : Out} (h : Does X o E w a out) (hv : out'.v = out.v) (hu : out'.us = out.us) : Does X o E w a out' := fun K Q hK => h K Q fun E' w' v h1 h2 => hK E' w' v (by rw [hu]; exact h1) (by rw [hv]; exact h2)

theorem stepC_ok (H : Hyp X E w a ρ g nid) {h : Hint} {out : Out} (hf : ∀ u ∈ out.us, nid ≤ u.1 → E.st u.1 = .fresh) (hs : stepC X o g ρ nid h = some out) (hp : AllP out.ps) : Does X o E w a out := by
  unfold stepC at hs
  split at hs
  · rename_i t x ho
    split at hs
    · split at hs
      · rename_i ti ht
        split at hs
        · rename_i r wd i j hx
          split at hs
          · rename_i R hg
            split at hs
            · rename_i e he
              split at hs
              · rename_i cs hcs
                split at hs
                · rename_i out1 hs1
                  cases hs
                  have hps := (load_ps ho hs1 ht).1 hx hg (getCells_of hp.1 hcs)
                  exact (stepOp_ok (out := out1) H hf hs1 hps).psv rfl rfl
                · cases hs
              · cases hs
            · split at hs
              · rename_i cs hcs
                split at hs
                · rename_i out1 hs1
                  cases hs
                  have hps := (load_ps ho hs1 ht).1 hx hg hcs
                  exact (stepOp_ok (out := out1) H hf hs1 hps).psv rfl rfl
                · cases hs
              · cases hs
          · cases hs
        · rename_i wd xs i j hx
          split at hs
          · rename_i e he
            split at hs
            · rename_i cs hcs
              split at hs
              · rename_i out1 hs1
                cases hs
                have hps := (load_ps ho hs1 ht).2 hx (getCells_of hp.1 hcs)
                exact (stepOp_ok (out := out1) H hf hs1 hps).psv rfl rfl
              · cases hs
            · cases hs
          · split at hs
            · rename_i cs hcs
              split at hs
              · rename_i out1 hs1
                cases hs
                have hps := (load_ps ho hs1 ht).2 hx hcs
                exact (stepOp_ok (out := out1) H hf hs1 hps).psv rfl rfl
              · cases hs
            · cases hs
        · cases hs
      · cases hs
    · exact stepF_ok _ H hf hs hp
  · exact stepF_ok _ H hf hs hp

end
end Go.Proofs.Ytnfeelacifllmaa.Ab

namespace Go.Proofs.Ytnfeelacifllmaa.Ab

def Env.take (E : Env) (q nid i j : Nat) (A : Addr) (n : Nat) : Env :=
  { adr := fun k => if k = nid then A else E.adr k
    len := fun k => if k = nid then n else E.len k
    ow := fun b => match E.ow b with
      | .own r (x :: p) => if r = q ∧ x = (i, j) then .own nid p else .own r (x :: p)
      | y => y
    st := fun k => if k = nid then .own else E.st k }

section
variable {X : Ctx} {E : Env} {w : World} {q r nid i j : Nat} {R K : Root}

theorem take_shp (hn : E.st nid = .fresh) {A : Addr} {n k N : Nat} (hk : k ≠ nid) (h : Shp E w k N) : Shp (E.take q nid i j A n) w k N := by
  obtain ⟨h1, h2, cs, ty, h3, h4⟩ := h
  unfold Shp
  simp only [Env.take, if_neg hk]
  refine ⟨h1, ?_, cs, ty, h3, h4⟩
  rw [h2]
  by_cases ho : E.st k = .own
  · simp [ho]
  · simp [ho]

theorem take_mv (hn : E.st nid = .fresh) (A : Addr) (n : Nat) : Mv E w (E.take q nid i j A n) w where
  sz := Nat.le_refl _
  fz := fun b _ ho => ⟨rfl, by simp [Env.take, ho]⟩
  st := fun k hk => by
    simp only [Env.take]
    split
    · simp
    · exact hk
  ref := fun k hk hal => by
    have hne : k ≠ nid := fun e => hk (by rw [e]; exact hn)
    refine ⟨?_, by simp [Env.take, hne], by simp [Env.take, hne], fun N hN => take_shp hn hne hN⟩
    unfold Alive at hal ⊢
    simpa [Env.take, hne] using hal

theorem take_lab {A : Addr} {n k : Nat} {p : Pth} (h : k ≠ q ∨ ∃ x p', p = x :: p' ∧ x ≠ (i, j)) : Lab E w (E.take q nid i j A n) w k p k p := fun b s _ ho => by
  refine ⟨rfl, ?_⟩
  simp only [Env.take, ho]
  cases hps : p ++ s with
  | nil => rfl
  | cons x t =>
    simp only
    rw [if_neg ?_]
    rintro ⟨rfl, hx⟩
    rcases h with h | ⟨y, p', rfl, hy⟩
    · exact h rfl
    · simp only [List.cons_append, List.cons.injEq] at hps
      exact hy (hps.1.trans hx)

theorem cell_of {w : World} (h : RootRel E w q R) {c : D} (hc : getCells R.xs i j 1 = some [c]) : ∃ x u, R.xs[i]? = some x ∧ j + 1 ≤ x.cells.length ∧ x.cells[j]? = some c ∧ w.cell? ((E.adr q).add (i * R.w + j)) = some u ∧ Rep E w (R.md q i j) c u := by
  obtain ⟨x, hx, hle, _, hg⟩ := getCells_some hc
  have hcj := hg 0 c rfl
  obtain ⟨u, hu, hr⟩ := h.cell i j x c hx hcj
  exact ⟨x, u, hx, hle, hcj, hu, hr⟩

theorem set_cell {x c' : D} (hx : R.xs[i]? = some x) (hle : j + 1 ≤ x.cells.length) (hl : c'.cells = [c']) : 
    (setCells R.xs i j [c']).length = R.xs.length ∧ (∀ y ∈ setCells R.xs i j [c'], y ∈ R.xs ∨ y.cells.length = x.cells.length) ∧
    ∀ (i' j' : Nat) y d, (setCells R.xs i j [c'])[i']? = some y → y.cells[j']? = some d → (i' = i ∧ j' = j ∧ d = c') ∨ ((i' ≠ i ∨ j' ≠ j) ∧ ∃ y0, R.xs[i']? = some y0 ∧ y0.cells[j']? = some d) := by
  obtain ⟨z, e, hz, hg⟩ := setCells_elem (j := j) (cs := [c']) hx hle (by simp) (by simpa using hl)
  rw [e]
  refine ⟨by simp, fun y hy => ?_, fun i' j' y d hy hd => ?_⟩
  · rcases List.mem_or_eq_of_mem_set hy with hy | hy
    · exact .inl hy
    · subst hy; exact .inr hz
  · by_cases hi : i' = i
    · subst hi
      rw [List.getElem?_set_self (List.getElem?_eq_some_iff.1 hx).1] at hy
      cases hy
      rw [hg] at hd
      by_cases hj : j' = j
      · subst hj
        rw [if_pos (by simp)] at hd
        simp at hd
        exact .inl ⟨rfl, rfl, hd.symm⟩
      · rw [if_neg (by simp; omega)] at hd
        exact .inr ⟨.inr hj, x, hx, hd⟩
    · rw [List.getElem?_set_ne (Ne.symm hi)] at hy
      exact .inr ⟨.inl hi, y, hy, hd⟩

theorem take_ext (hn : E.st nid = .fresh) (h : RootRel E w q R) (hf : R.fz = false) {wd n : Nat} {ys : List D} (hwd0 : 0 < wd) (hc : getCells R.xs i j 1 = some [.list true wd n ys]) :
    ∃ E', Ext E w E' w [(q, some { R with box := true, xs := setCells R.xs i j [.ref nid wd none] }), (nid, some ⟨false, false, wd, n, ys⟩)] ∧ (∀ k, k ≠ nid → E'.st k = E.st k) := by
  obtain ⟨x, u, hx, hle, hcj, hu, hr⟩ := cell_of h hc
  have hmd : ∀ i j, R.md q i j = .own q [(i, j)] ∨ R.md q i j = .box q [(i, j)] := fun i j => by cases hb : R.box <;> simp [Root.md, hf, hb]
  have hmd0 := hmd i j
  have hq : E.st q = .own := by rw [h.st, hf]; rfl
  have hne : q ≠ nid := fun e => by rw [e, hn] at hq; cases hq
  generalize hm : R.md q i j = m at hr hmd0
  cases hr with
  | flist m o wd n xs A cap us hm' hn' hcp hw ha hh => rcases hmd0 with g | g <;> rw [g] at hm' <;> rcases hm' with h | h | h <;> cases h
  | olist m r p wd n xs A cap us hm' hnn hcp hw ha hh =>
    obtain ⟨e1, e2⟩ : q = r ∧ [(i, j)] = p := by
      rcases hmd0 with g | g <;> rw [g] at hm' <;> rcases hm' with h' | h' <;> cases h' <;> exact ⟨rfl, rfl⟩
    subst e1
    subst e2
    obtain ⟨E', hE⟩ : ∃ E', E' = E.take q nid i j (A.getD ⟨0, 0, none⟩) n := ⟨_, rfl⟩
    have hmv : Mv E w E' w := by rw [hE]; exact take_mv hn _ _
    have hst : ∀ k, k ≠ nid → E'.st k = E.st k ∧ E'.adr k = E.adr k ∧ E'.len k = E.len k := fun k hk => by rw [hE]; simp [Env.take, hk]
    have hsn : E'.st nid = .own ∧ E'.adr nid = A.getD ⟨0, 0, none⟩ ∧ E'.len nid = n := by rw [hE]; simp [Env.take]
    have hlab : ∀ k p, (k ≠ q ∨ ∃ x p', p = x :: p' ∧ x ≠ (i, j)) → Lab E w E' w k p k p := fun k p hk => by rw [hE]; exact take_lab hk
    have hlabN : ∀ p, Lab E w E' w q ((i, j) :: p) nid p := fun p b s _ ho => ⟨rfl, by rw [hE]; simp [Env.take, ho]⟩
    obtain ⟨sl, sw, sg⟩ := set_cell (R := R) (c' := .ref nid wd none) hx hle rfl
    have hshp : 0 < cap → A = some (E'.adr nid) ∧ Shp E' w nid (cap * wd) := fun h0 => by
      obtain ⟨b, ds, ty, rfl, s1, s2, s3, s4, s5⟩ := ha h0
      rw [hsn.2.1]
      refine ⟨rfl, ?_⟩
      unfold Shp
      rw [hsn.2.1, hsn.1, if_pos rfl]
      refine ⟨s1, ?_, ds, ty, s3, s4⟩
      have := hlabN [] b.block [] (lt_of_get s3) (by simpa using s2)
      simpa using this.2
    refine ⟨E', ⟨Nat.le_refl _, rfl, rfl, ⟨rfl, drw_le (Nat.le_refl _)⟩, fun b _ ho => ⟨rfl, by rw [hE]; simp [Env.take, ho]⟩, fun b _ ho => ⟨rfl, by rw [hE]; simp [Env.take, ho]⟩, fun k hk => (hst k (fun e => hk (by rw [e]; exact hn))).2.1,
      fun d v hd => hd.mv hmv (m' := .slot) trivial, fun k T hk hT => ?_, fun k T hk => ?_, fun k hk hs => ?_, fun b cs ty hh => ⟨cs, hh, rfl⟩, fun k N h1 h2 hN => ?_, fun k hk => ?_⟩, fun k hk => (hst k hk).1⟩
    · have h1 : k ≠ q := fun e => hk _ (List.mem_cons_self ..) e.symm
      have h2 : k ≠ nid := fun e => hk _ (List.mem_cons_of_mem _ (List.mem_singleton.2 rfl)) e.symm
      exact hT.mv hmv (hst k h2).1 (hlab k [] (.inl h1))
    · simp only [List.mem_cons, Prod.mk.injEq, Option.some.injEq, List.not_mem_nil, or_false] at hk
      rcases hk with ⟨rfl, rfl⟩ | ⟨rfl, rfl⟩
      · obtain ⟨t1, t2, t3⟩ := hst k hne
        refine ⟨by rw [t1]; exact h.st, by rw [t3]; exact h.len, by simp only [sl]; exact h.n, fun y hy => ?_, (fun hh => by rw [hf] at hh; cases hh), fun h0 h1 => ?_, fun h0 => absurd h0 (Nat.ne_of_gt (by have := h.wd x (List.mem_of_getElem? hx); simp only; omega)), fun i' j' y d hy hd => ?_⟩
        · rcases sw y hy with hy | hy
          · exact h.wd y hy
          · rw [hy]; exact h.wd x (List.mem_of_getElem? hx)
        · exact (hmv.ref k (by rw [hq]; simp) (.inl (by rw [t1]; exact hq))).2.2.2 _ (h.shp h0 h1)
        · rw [t2]
          have hmd' : ∀ i' j', ({ R with box := true, xs := setCells R.xs i j [.ref nid wd none] } : Root).md k i' j' = .box k [(i', j')] := fun i' j' => by simp [Root.md, hf]
          rw [hmd']
          rcases sg i' j' y d hy hd with ⟨rfl, rfl, rfl⟩ | ⟨hij, y0, hy0, hd0⟩
          · refine ⟨_, hu, .ref _ _ _ _ _ (.inr ⟨_, _, rfl⟩) (by rw [hsn.1]; simp) fun _ => ⟨A, cap, by simp [Vw, hsn.2.2], by simpa [Vw, hsn.2.2] using hcp, by simp [Vw, hsn.2.2], fun h0 => ?_⟩⟩
            obtain ⟨e1, e2⟩ := hshp h0
            exact ⟨by rw [e1]; simp [Vw, Addr.add], by simpa [Vw] using e2⟩
          · obtain ⟨u', hu', hr'⟩ := h.cell i' j' y0 d hy0 hd0
            refine ⟨u', hu', hr'.mv hmv ?_⟩
            rcases hmd i' j' with hm2 | hm2 <;> rw [hm2] <;> exact hlab k _ (.inr ⟨(i', j'), [], rfl, fun e => by simp only [Prod.mk.injEq] at e; omega⟩)
      · refine ⟨by rw [hsn.1]; rfl, hsn.2.2, hnn, hw, (fun hh => by cases hh), fun h0 _ => ?_, fun h0 => absurd h0 (Nat.ne_of_gt hwd0), fun i' j' y d hy hd => ?_⟩
        · simp only at h0
          obtain ⟨_, s1, s2, ds, ty, s3, s4⟩ := hshp (by omega)
          exact ⟨s1, s2, ds, ty, s3, Nat.le_trans (Nat.add_le_add_left (Nat.mul_le_mul_right _ hcp) _) s4⟩
        · have hpos : 0 < n := by
            rw [← hnn]
            exact Nat.lt_of_le_of_lt (Nat.zero_le _) (List.getElem?_eq_some_iff.1 hy).1
          obtain ⟨b, ds, ty, rfl, s1, s2, s3, s4, s5⟩ := ha (by omega)
          refine ⟨us i' j', by rw [hsn.2.1]; exact s5 i' j' y d hy hd, ?_⟩
          have := (hh i' j' y d hy hd).mv hmv (m' := .own k [(i', j')]) (hlabN [(i', j')])
          simpa [Root.md] using this
    · have h1 : k ≠ nid := fun e => hk _ (List.mem_cons_of_mem _ (List.mem_singleton.2 rfl)) e.symm
      rw [(hst k h1).1]; exact hs
    · exact (hmv.ref k (by rw [h1]; simp) (.inl h2)).2.2.2 N hN
    · by_cases hkn : k = nid
      · subst hkn; exact .inl hn
      · rw [(hst k hkn).1] at hk; exact .inr hk

end
def Env.put (E : Env) (q r i j : Nat) : Env :=
  { adr := E.adr
    len := E.len
    ow := fun b => match E.ow b with
      | .own r' p => if r' = r then .own q ((i, j) :: p) else .own r' p
      | y => y
    st := fun k => if k = r then .dead else E.st k }

section
variable {X : Ctx} {E : Env} {w : World} {q r nid i j : Nat} {R K : Root}

theorem put_shp {k N : Nat} (hk : k ≠ r) (h : Shp E w k N) : Shp (E.put q r i j) w k N := by
  obtain ⟨h1, h2, cs, ty, h3, h4⟩ := h
  unfold Shp
  simp only [Env.put, if_neg hk]
  refine ⟨h1, ?_, cs, ty, h3, h4⟩
  rw [h2]
  by_cases ho : E.st k = .own
  · simp [ho, hk]
  · simp [ho]
theorem put_mv : Mv E w (E.put q r i j) w where
  sz := Nat.le_refl _
  fz := fun b _ ho => ⟨rfl, by simp [Env.put, ho]⟩
  st := fun k hk => by
    simp only [Env.put]
    split
    · simp
    · exact hk
  ref := fun k hk hal => by
    have hne : k ≠ r := fun e => by
      unfold Alive at hal
      simp [Env.put, e] at hal
    refine ⟨?_, rfl, rfl, fun N hN => put_shp hne hN⟩
    unfold Alive at hal ⊢
    simpa [Env.put, hne] using hal
theorem put_lab {k : Nat} (hk : k ≠ r) (p : Pth) : Lab E w (E.put q r i j) w k p k p := fun b s _ ho => ⟨rfl, by simp [Env.put, ho, hk]⟩
theorem put_labN (p : Pth) : Lab E w (E.put q r i j) w r p q ((i, j) :: p) := fun b s _ ho => ⟨rfl, by simp [Env.put, ho]⟩

theorem put_ext (h : RootRel E w q R) (hf : R.fz = false) (hb : R.box = true) (hk : RootRel E w r K) (hkf : K.fz = false) (hkb : K.box = false) (hne : q ≠ r) (hc : getCells R.xs i j 1 = some [.ref r K.w none]) :
    Ext E w (E.put q r i j) w [(r, none), (q, some { R with xs := setCells R.xs i j [.list true K.w K.n K.xs] })] := by
  obtain ⟨x, u, hx, hle, hcj, hu, hr⟩ := cell_of h hc
  have hmd : ∀ i j, R.md q i j = .box q [(i, j)] := fun i j => by simp [Root.md, hf, hb]
  rw [hmd] at hr
  have hq : E.st q = .own := by rw [h.st, hf]; rfl
  have hro : E.st r = .own := by rw [hk.st, hkf]; rfl
  have hmv : Mv E w (E.put q r i j) w := put_mv
  obtain ⟨_, _, hal⟩ := hr.ref_inv
  obtain ⟨A, cap, rfl, h1, h2, h3⟩ := hal (.inl hro)
  have hlen : E.len r = K.n := hk.len
  simp only [Vw, hlen, Nat.zero_mul, Nat.zero_add] at h1 h2 h3 hu
  obtain ⟨sl, sw, sg⟩ := set_cell (R := R) (c' := .list true K.w K.n K.xs) hx hle rfl
  have hrow : Rep (E.put q r i j) w (.box q [(i, j)]) (.list true K.w K.n K.xs) (.slice A K.n cap) := by
    obtain ⟨us, hus⟩ : ∃ us : Nat → Nat → Value, ∀ (i' j' : Nat) y c, K.xs[i']? = some y → y.cells[j']? = some c → w.cell? ((E.adr r).add (i' * K.w + j')) = some (us i' j') ∧ Rep E w (.own r [(i', j')]) c (us i' j') := by
      refine ⟨fun i' j' => (w.cell? ((E.adr r).add (i' * K.w + j'))).getD undef, fun i' j' y c hy hcy => ?_⟩
      obtain ⟨u', hu', hr'⟩ := hk.cell i' j' y c hy hcy
      refine ⟨by simp [hu'], ?_⟩
      simp only [hu', Option.getD_some]
      simpa [Root.md, hkf, hkb] using hr'
    refine .olist _ q [(i, j)] _ _ _ _ _ us (.inr rfl) hk.n h1 hk.wd (fun h0 => ?_) (fun i' j' y c hy hcy => ?_)
    · obtain ⟨e1, s1, s2, cs, ty, s3, s4⟩ := h3 h0
      rw [hro, if_pos rfl] at s2
      refine ⟨E.adr r, cs, ty, by rw [e1]; simp [Addr.add], s1, by simp [Env.put, s2], s3, s4, fun i' j' y c hy hcy => (hus i' j' y c hy hcy).1⟩
    · exact (hus i' j' y c hy hcy).2.mv hmv (m' := .own q ([(i, j)] ++ [(i', j')])) (put_labN _)
  refine ⟨Nat.le_refl _, rfl, rfl, ⟨rfl, drw_le (Nat.le_refl _)⟩, fun b _ ho => ⟨rfl, by simp [Env.put, ho]⟩, fun b _ ho => ⟨rfl, by simp [Env.put, ho]⟩, fun _ _ => rfl,
    fun d v hd => hd.mv hmv (m' := .slot) trivial, fun k T hk' hT => ?_, fun k T hk' => ?_, fun k hk' hs => ?_, fun b cs ty hh => ⟨cs, hh, rfl⟩, fun k N h1 h2 hN => ?_, fun k hk' => ?_⟩
  · have h1 : k ≠ r := fun e => hk' _ (List.mem_cons_self ..) e.symm
    exact hT.mv hmv (by simp [Env.put, h1]) (put_lab h1 [])
  · simp only [List.mem_cons, Prod.mk.injEq, List.not_mem_nil, or_false] at hk'
    rcases hk' with ⟨_, hk'⟩ | ⟨rfl, hk'⟩
    · cases hk'
    · cases hk'
      have hst : (E.put k r i j).st k = E.st k := by simp [Env.put, hne]
      refine ⟨by rw [hst]; exact h.st, h.len, by simp only [sl]; exact h.n, fun y hy => ?_, (fun hh => by rw [hf] at hh; cases hh), fun h0 h1 => put_shp hne (h.shp h0 h1), fun h0 => absurd h0 (Nat.ne_of_gt (by have := h.wd x (List.mem_of_getElem? hx); simp only; omega)), fun i' j' y d hy hd => ?_⟩
      · rcases sw y hy with hy | hy
        · exact h.wd y hy
        · rw [hy]; exact h.wd x (List.mem_of_getElem? hx)
      · have hmd' : ∀ i' j', ({ R with xs := setCells R.xs i j [.list true K.w K.n K.xs] } : Root).md k i' j' = .box k [(i', j')] := fun i' j' => by simp [Root.md, hf, hb]
        rw [hmd']
        rcases sg i' j' y d hy hd with ⟨rfl, rfl, rfl⟩ | ⟨hij, y0, hy0, hd0⟩
        · exact ⟨_, hu, hrow⟩
        · obtain ⟨u', hu', hr'⟩ := h.cell i' j' y0 d hy0 hd0
          rw [hmd] at hr'
          exact ⟨u', hu', hr'.mv hmv (m' := .box k [(i', j')]) (put_lab hne _)⟩
  · have h1 : k ≠ r := fun e => hk' _ (List.mem_cons_self ..) e.symm
    simpa [Env.put, h1] using hs
  · exact (hmv.ref k (by rw [h1]; simp) (.inl h2)).2.2.2 N hN
  · simp only [Env.put] at hk'
    split at hk'
    · cases hk'
    · exact .inr hk'

theorem Rep.boxOwn {p : Pth} {d : D} {v : Value} (h : Rep E w (.box q p) d v) (hd : d.ownable = true) : Rep E w (.own q p) d v := by
  generalize hm : Md.box q p = m at h
  cases h with
  | int m k n => exact .int _ _ _
  | bool m b => exact .bool _ _
  | ifc m b v hv => exact .ifc _ _ _ hv
  | str m s => exact .str _ _
  | nil m => exact .nil _
  | flist m o wd n xs A cap us hm' hn hc hw ha h =>
    subst hm
    rcases hm' with h' | h' | rfl
    · cases h'
    · cases h'
    · exact .flist _ _ _ _ _ _ _ us (.inr (.inr rfl)) hn hc hw ha h
  | olist m r p wd n xs A cap us hm' hn hc hw ha h =>
    subst hm
    rcases hm' with h' | h' <;> cases h'
    exact .olist _ _ _ _ _ _ _ _ us (.inl rfl) hn hc hw ha h
  | _ => simp [D.ownable] at hd
theorem own_ext (h : RootRel E w q R) (hf : R.fz = false) (hb : R.box = true) (ho : AllOw R.xs) : Ext E w E w [(q, some { R with box := false })] where
  sz := Nat.le_refl _
  os := rfl
  tape := rfl
  output := ⟨rfl, drw_le (Nat.le_refl _)⟩
  fz := fun _ _ ho => ⟨rfl, ho⟩
  far := fun _ _ ho => ⟨rfl, ho⟩
  adr := fun _ _ => rfl
  keep := fun _ _ hd => hd
  root := fun _ _ _ hR => hR
  new := fun k T hk => by
    simp only [List.mem_singleton, Prod.mk.injEq, Option.some.injEq] at hk
    obtain ⟨rfl, rfl⟩ := hk
    refine ⟨h.st, h.len, h.n, h.wd, fun _ => rfl, h.shp, h.sp, fun i' j' y d hy hd => ?_⟩
    obtain ⟨u', hu', hr'⟩ := h.cell i' j' y d hy hd
    have e1 : R.md k i' j' = .box k [(i', j')] := by simp [Root.md, hf, hb]
    have e2 : ({ R with box := false } : Root).md k i' j' = .own k [(i', j')] := by simp [Root.md, hf]
    rw [e1] at hr'
    rw [e2]
    exact ⟨u', hu', hr'.boxOwn (ho y (List.mem_of_getElem? hy) d (List.mem_of_getElem? hd))⟩
  fresh := fun _ _ hs => hs
  shape := fun b cs ty hh => ⟨cs, hh, rfl⟩
  shp := fun _ _ _ _ hN => hN
  back := fun _ hk => .inr hk

theorem nil_ext {wd : Nat} (h : RootRel E w q R) (hf : R.fz = false) (hc : getCells R.xs i j 1 = some [.nil]) : Ext E w E w [(q, some { R with xs := setCells R.xs i j [.list true wd 0 []] })] where
  sz := Nat.le_refl _
  os := rfl
  tape := rfl
  output := ⟨rfl, drw_le (Nat.le_refl _)⟩
  fz := fun _ _ ho => ⟨rfl, ho⟩
  far := fun _ _ ho => ⟨rfl, ho⟩
  adr := fun _ _ => rfl
  keep := fun _ _ hd => hd
  root := fun _ _ _ hR => hR
  new := fun k T hk => by
    simp only [List.mem_singleton, Prod.mk.injEq, Option.some.injEq] at hk
    obtain ⟨rfl, rfl⟩ := hk
    obtain ⟨x, u, hx, hle, hcj, hu, hr⟩ := cell_of h hc
    obtain ⟨sl, sw, sg⟩ := set_cell (R := R) (c' := .list true wd 0 []) hx hle rfl
    refine ⟨h.st, h.len, by simp only [sl]; exact h.n, fun y hy => ?_, h.nobox, h.shp, fun h0 => absurd h0 (Nat.ne_of_gt (by have := h.wd x (List.mem_of_getElem? hx); simp only; omega)), fun i' j' y d hy hd => ?_⟩
    · rcases sw y hy with hy | hy
      · exact h.wd y hy
      · rw [hy]; exact h.wd x (List.mem_of_getElem? hx)
    · have hmd' : ({ R with xs := setCells R.xs i j [.list true wd 0 []] } : Root).md k i' j' = R.md k i' j' := rfl
      rw [hmd']
      rcases sg i' j' y d hy hd with ⟨rfl, rfl, rfl⟩ | ⟨hij, y0, hy0, hd0⟩
      · refine ⟨u, hu, ?_⟩
        rw [hr.nil_inv]
        refine .olist _ k [(i', j')] _ _ _ none 0 (fun _ _ => .bool true) ?_ rfl (Nat.le_refl _) (fun x hx => by cases hx) (fun h0 => absurd h0 (Nat.lt_irrefl 0)) (fun a b x c hx => by simp at hx)
        simp only [Root.md, hf]
        cases R.box
        · exact .inl rfl
        · exact .inr rfl
      · exact h.cell i' j' y0 d hy0 hd0
  fresh := fun _ _ hs => hs
  shape := fun b cs ty hh => ⟨cs, hh, rfl⟩
  shp := fun _ _ _ _ hN => hN
  back := fun _ hk => .inr hk

theorem NilC.at_ : ∀ {a b : List D}, NilC a b → a.length = b.length ∧ ∀ (j : Nat) d, b[j]? = some d → ∃ c, a[j]? = some c ∧ (d = c ∨ c = .nil ∧ ∃ w, d = .list true w 0 [])
  | [], [], _ => ⟨rfl, fun j d hd => by simp at hd⟩
  | c :: r, e :: s, h => by
    obtain ⟨h1, h2⟩ := NilC.at_ h.2
    refine ⟨by simp [h1], fun j d hd => ?_⟩
    cases j with
    | zero =>
      simp only [List.getElem?_cons_zero, Option.some.injEq] at hd
      subst hd
      exact ⟨c, rfl, h.1⟩
    | succ j => exact h2 j d (by simpa using hd)
  | [], _ :: _, h => h.elim
  | _ :: _, [], h => h.elim
theorem NilOk.at_ : ∀ {a b : List D}, NilOk a b → a.length = b.length ∧ ∀ (i : Nat) y, b[i]? = some y → ∃ x, a[i]? = some x ∧ NilC x.cells y.cells
  | [], [], _ => ⟨rfl, fun j d hd => by simp at hd⟩
  | c :: r, e :: s, h => by
    obtain ⟨h1, h2⟩ := NilOk.at_ h.2
    refine ⟨by simp [h1], fun j d hd => ?_⟩
    cases j with
    | zero =>
      simp only [List.getElem?_cons_zero, Option.some.injEq] at hd
      subst hd
      exact ⟨c, rfl, h.1⟩
    | succ j => exact h2 j d (by simpa using hd)
  | [], _ :: _, h => h.elim
  | _ :: _, [], h => h.elim
theorem nils_ext (h : RootRel E w q R) (hf : R.fz = false) (hw0 : 0 < R.w) {xs : List D} (hn : NilOk R.xs xs) : Ext E w E w [(q, some { R with xs := xs })] where
  sz := Nat.le_refl _
  os := rfl
  tape := rfl
  output := ⟨rfl, drw_le (Nat.le_refl _)⟩
  fz := fun _ _ ho => ⟨rfl, ho⟩
  far := fun _ _ ho => ⟨rfl, ho⟩
  adr := fun _ _ => rfl
  keep := fun _ _ hd => hd
  root := fun _ _ _ hR => hR
  new := fun k T hk => by
    simp only [List.mem_singleton, Prod.mk.injEq, Option.some.injEq] at hk
    obtain ⟨rfl, rfl⟩ := hk
    obtain ⟨n1, n2⟩ := hn.at_
    refine ⟨h.st, h.len, by simp only; rw [← n1]; exact h.n, fun y hy => ?_, h.nobox, h.shp, fun h0 => absurd h0 (Nat.ne_of_gt hw0), fun i' j' y d hy hd => ?_⟩
    · obtain ⟨i, hi⟩ := List.getElem?_of_mem hy
      obtain ⟨x, hx, hc⟩ := n2 i y hi
      rw [← hc.at_.1]
      exact h.wd x (List.mem_of_getElem? hx)
    · have hmd' : ({ R with xs := xs } : Root).md k i' j' = R.md k i' j' := rfl
      rw [hmd']
      obtain ⟨x, hx, hc⟩ := n2 i' y hy
      obtain ⟨c, hc1, hc2⟩ := hc.at_.2 j' d hd
      obtain ⟨u, hu, hr⟩ := h.cell i' j' x c hx hc1
      refine ⟨u, hu, ?_⟩
      rcases hc2 with rfl | ⟨rfl, wd, rfl⟩
      · exact hr
      · rw [hr.nil_inv]
        refine .olist _ k [(i', j')] _ _ _ none 0 (fun _ _ => .bool true) ?_ rfl (Nat.le_refl _) (fun x hx => by cases hx) (fun h0 => absurd h0 (Nat.lt_irrefl 0)) (fun a b x c hx => by simp at hx)
        simp only [Root.md, hf]
        cases R.box
        · exact .inl rfl
        · exact .inr rfl
  fresh := fun _ _ hs => hs
  shape := fun b cs ty hh => ⟨cs, hh, rfl⟩
  shp := fun _ _ _ _ hN => hN
  back := fun _ hk => .inr hk

theorem RootRel.erased (h : RootRel E w q R) (hf : R.fz = true) {xs : List D} (he : erL R.xs = erL xs) : RootRel E w q { R with xs := xs } := by
  refine ⟨h.st, h.len, by rw [← er_len he]; exact h.n, er_widths he h.wd, h.nobox, h.shp, fun h0 d hd => ?_, fun i' j' y d hy hd => ?_⟩
  · by_cases hs : ∃ s, d = .spc s
    · obtain ⟨s, rfl⟩ := hs
      simp only at hd
      subst hd
      obtain ⟨x, hx, hxe⟩ := er_get he (i := 0) rfl
      have hl := er_len he
      have hx2 : R.xs = [x] := by
        match hR : R.xs, hl with
        | [y], _ => rw [hR] at hx; simp at hx; rw [hx]
      refine h.sp h0 _ ?_
      rw [hx2]
      cases x <;> simp [D.er] at hxe
      rw [hxe]
    · exact .of_no fun s e => hs ⟨s, e⟩
  obtain ⟨x, hx, hxe⟩ := er_get he hy
  obtain ⟨c, hc, hce⟩ := er_get (er_cells hxe) hd
  obtain ⟨u, hu, hr⟩ := h.cell i' j' x c hx hc
  have e1 : R.md q i' j' = .fz := by simp [Root.md, hf]
  have e2 : ({ R with xs := xs } : Root).md q i' j' = .fz := by simp [Root.md, hf]
  rw [e1] at hr
  rw [e2]
  exact ⟨u, hu, hr.er rfl d hce⟩
theorem er_ext (h : RootRel E w q R) (hf : R.fz = true) {xs : List D} (he : erL R.xs = erL xs) : Ext E w E w [(q, some { R with xs := xs })] where
  sz := Nat.le_refl _
  os := rfl
  tape := rfl
  output := ⟨rfl, drw_le (Nat.le_refl _)⟩
  fz := fun _ _ ho => ⟨rfl, ho⟩
  far := fun _ _ ho => ⟨rfl, ho⟩
  adr := fun _ _ => rfl
  keep := fun _ _ hd => hd
  root := fun _ _ _ hR => hR
  new := fun k T hk => by
    simp only [List.mem_singleton, Prod.mk.injEq, Option.some.injEq] at hk
    obtain ⟨rfl, rfl⟩ := hk
    exact h.erased hf he
  fresh := fun _ _ hs => hs
  shape := fun b cs ty hh => ⟨cs, hh, rfl⟩
  shp := fun _ _ _ _ hN => hN
  back := fun _ hk => .inr hk

theorem mergeU_key {us vs : List (Nat × Option Root)} {k : Nat} : (∀ u ∈ mergeU us vs, u.1 ≠ k) ↔ (∀ u ∈ us, u.1 ≠ k) ∧ ∀ u ∈ vs, u.1 ≠ k := by
  constructor
  · intro h
    refine ⟨fun u hu e => ?_, fun u hu => h u (List.mem_append_right _ hu)⟩
    by_cases hv : vs.any (fun v => Nat.beq v.1 u.1) = true
    · obtain ⟨v, hv1, hv2⟩ := List.any_eq_true.1 hv
      exact h v (List.mem_append_right _ hv1) ((Nat.eq_of_beq_eq_true hv2).trans e)
    · exact h u (List.mem_append_left _ (List.mem_filter.2 ⟨hu, by rw [Bool.not_eq_true] at hv; rw [hv]; rfl⟩)) e
  · rintro ⟨h1, h2⟩ u hu
    rcases List.mem_append.1 hu with hu | hu
    · exact h1 u (List.mem_filter.1 hu).1
    · exact h2 u hu
theorem Ext.merge {E1 E2 : Env} {w1 w2 : World} {us1 us2 : List (Nat × Option Root)} (h : Ext E w E1 w1 us1) (k : Ext E1 w1 E2 w2 us2) (hs : ∀ r, E1.st r = .fresh → E.st r = .fresh) (hn : ∀ r, E.st r ≠ .fresh → E1.st r ≠ .fresh) : Ext E w E2 w2 (mergeU us1 us2) where
  sz := Nat.le_trans h.sz k.sz
  os := k.os.trans h.os
  tape := k.tape.trans h.tape
  output := ⟨k.output.1.trans h.output.1, drw_trans h.output.2 k.output.2⟩
  fz := fun b hb ho => by
    obtain ⟨h1, h2⟩ := h.fz b hb ho
    obtain ⟨h3, h4⟩ := k.fz b (Nat.lt_of_lt_of_le hb h.sz) h2
    exact ⟨h3.trans h1, h4⟩
  far := fun b hb ho => by
    obtain ⟨h1, h2⟩ := h.far b hb ho
    obtain ⟨h3, h4⟩ := k.far b (Nat.lt_of_lt_of_le hb h.sz) h2
    exact ⟨h3.trans h1, h4⟩
  adr := fun r hr => (k.adr r (hn r hr)).trans (h.adr r hr)
  keep := fun d v hd => k.keep _ _ (h.keep _ _ hd)
  root := fun r R hr hR => k.root r R (mergeU_key.1 hr).2 (h.root r R (mergeU_key.1 hr).1 hR)
  new := fun r R hr => by
    rcases List.mem_append.1 hr with hr | hr
    · obtain ⟨h1, h2⟩ := List.mem_filter.1 hr
      refine k.root r R (fun u hu e => ?_) (h.new r R h1)
      have : us2.any (fun v => Nat.beq v.1 r) = true := List.any_eq_true.2 ⟨u, hu, by rw [e]; exact Nat.beq_refl _⟩
      simp [this] at h2
    · exact k.new r R hr
  fresh := fun r hr hf => k.fresh r (mergeU_key.1 hr).2 (h.fresh r (mergeU_key.1 hr).1 hf)
  shape := fun b cs ty hh => by
    obtain ⟨cs1, h1, h2⟩ := h.shape b cs ty hh
    obtain ⟨cs2, h3, h4⟩ := k.shape b cs1 ty h1
    exact ⟨cs2, h3, h4.trans h2⟩
  shp := fun r N h1 h2 hN => by
    have h3 : E1.st r = .own := by
      rcases k.back r h2 with h3 | h3
      · rw [hs r h3] at h1; cases h1
      · exact h3
    exact k.shp r N h3 h2 (h.shp r N h1 h3 hN)
  back := fun r hr => by
    rcases k.back r hr with h1 | h1
    · exact .inl (hs r h1)
    · exact h.back r h1

theorem Ext.st_ne' {E1 : Env} {w1 : World} {us : List (Nat × Option Root)} (h : Ext E w E1 w1 us) {r : Nat} (hr : E.st r ≠ .fresh) : E1.st r ≠ .fresh := by
  by_cases ha : Alive E r
  · exact fun hf => by
      have := h.keep (.ptr r 0 0 0) (.pointer (some ((E.adr r).add (0 * 0 + 0)))) (.ptr _ _ _ _ _ _ (.inl rfl) hr fun _ => rfl)
      exact this.ptr_inv.2.1 hf
  · have := h.keep (.ptr r 0 0 0) (.bool true) (.ptr _ _ _ _ _ _ (.inl rfl) hr fun h => absurd h ha)
    exact this.ptr_inv.2.1
theorem updG_get {us : List (Nat × Option Root)} {k : Nat} : ∀ {g : Nat → Option Root} {T : Root}, updG us g k = some T → (k, some T) ∈ us ∨ (∀ u ∈ us, u.1 ≠ k) ∧ g k = some T := by
  induction us with
  | nil => intro g T h; exact .inr ⟨(fun u hu => by cases hu), h⟩
  | cons u us ih =>
    intro g T h
    rcases ih (g := fun k => if Nat.beq k u.1 then u.2 else g k) h with h1 | ⟨h1, h2⟩
    · exact .inl (List.mem_cons_of_mem _ h1)
    · split at h2
      · rename_i he
        have := Nat.eq_of_beq_eq_true he
        refine .inl ?_
        rw [← h2, this]
        exact List.mem_cons_self ..
      · rename_i he
        refine .inr ⟨fun v hv => ?_, h2⟩
        rcases List.mem_cons.1 hv with rfl | hv
        · intro e; exact he (by rw [← e]; exact Nat.beq_refl _)
        · exact h1 v hv
theorem rt_upd {E1 : Env} {w1 : World} {g : Nat → Option Root} {us : List (Nat × Option Root)} (hrt : ∀ r R, g r = some R → RootRel E w r R) (h : Ext E w E1 w1 us) : ∀ r R, updG us g r = some R → RootRel E1 w1 r R := fun r R hR => by
  rcases updG_get hR with h1 | ⟨h1, h2⟩
  · exact h.new r R h1
  · exact h.root r R h1 (hrt r R h2)

theorem bmove_ext {g : Nat → Option Root} {m : BM} {ps : List Prop} {us : List (Nat × Option Root)} (hrt : ∀ r R, g r = some R → RootRel E w r R) (h : bmove g nid m = some (ps, us)) (hp : AllP ps) (hn : m.isTake = true → E.st nid = .fresh) :
    ∃ E', Ext E w E' w us ∧ (∀ r, E'.st r = .fresh → E.st r = .fresh) ∧ (∀ r, E.st r ≠ .fresh → E'.st r ≠ .fresh) := by
  cases m with
  | take q i j wd n ys xs =>
    simp only [bmove] at h
    split at h
    · rename_i R hR
      split at h
      · cases h
      · rename_i hfb
        simp only [Bool.or_eq_true, not_or, Bool.not_eq_true, Bool.not_eq_false', Nat.blt, Nat.ble_eq] at hfb
        cases h
        obtain ⟨hc, rfl, _⟩ := hp
        obtain ⟨E', h1, h2⟩ := take_ext (hn rfl) (hrt q R hR) hfb.1 (by omega) hc
        have hown : E'.st nid ≠ .fresh := by
          have := (h1.new nid _ (List.mem_cons_of_mem _ (List.mem_singleton.2 rfl))).st
          rw [this]
          simp
        refine ⟨E', h1, fun r hr => ?_, fun r hr => ?_⟩
        · by_cases e : r = nid
          · subst e; exact absurd hr hown
          · rw [← h2 r e]; exact hr
        · by_cases e : r = nid
          · subst e; exact hown
          · rw [h2 r e]; exact hr
    · cases h
  | put q i j r xs =>
    simp only [bmove] at h
    split at h
    · rename_i R K hR hK
      split at h
      · cases h
      · rename_i hfb
        simp only [Bool.or_eq_true, not_or, Bool.not_eq_true, Bool.not_eq_true', Bool.not_eq_false] at hfb
        cases h
        obtain ⟨hc, rfl, _⟩ := hp
        have hne : q ≠ r := fun e => by
          rw [e, Nat.beq_refl] at hfb
          exact absurd hfb.2 (by simp)
        refine ⟨_, put_ext (hrt q R hR) hfb.1.1.1.1 hfb.1.1.1.2 (hrt r K hK) hfb.1.1.2 hfb.1.2 hne hc, fun k hk => ?_, fun k hk => ?_⟩
        · simp only [Env.put] at hk
          split at hk
          · cases hk
          · exact hk
        · simp only [Env.put]
          split
          · simp
          · exact hk
    · cases h
  | own q n =>
    simp only [bmove] at h
    split at h
    · rename_i R hR
      split at h
      · cases h
      · rename_i hfb
        simp only [Bool.or_eq_true, not_or, Bool.not_eq_true, Bool.not_eq_true', Bool.not_eq_false] at hfb
        cases h
        obtain ⟨ho, rfl, _⟩ := hp
        exact ⟨E, own_ext (hrt q R hR) hfb.1 hfb.2 ho, fun _ h => h, fun _ h => h⟩
    · cases h
  | nil q i j wd xs =>
    simp only [bmove] at h
    split at h
    · rename_i R hR
      split at h
      · cases h
      · rename_i hf
        rw [Bool.not_eq_true] at hf
        cases h
        obtain ⟨hc, rfl, _⟩ := hp
        exact ⟨E, nil_ext (hrt q R hR) hf hc, fun _ h => h, fun _ h => h⟩
    · cases h
  | er q xs =>
    simp only [bmove] at h
    split at h
    · rename_i R hR
      split at h
      · rename_i hf
        cases h
        exact ⟨E, er_ext (hrt q R hR) hf hp.1, fun _ h => h, fun _ h => h⟩
      · cases h
    · cases h
  | nils q xs =>
    simp only [bmove] at h
    split at h
    · rename_i R hR
      split at h
      · cases h
      · rename_i hf
        simp only [Bool.or_eq_true, not_or, Bool.not_eq_true, Bool.not_eq_false', Nat.blt, Nat.ble_eq] at hf
        cases h
        exact ⟨E, nils_ext (hrt q R hR) hf.1 (by omega) hp.1, fun _ h => h, fun _ h => h⟩
    · cases h
theorem bmoves_ext {ms : List BM} : ∀ {E : Env} {g : Nat → Option Root} {ps : List Prop} {us : List (Nat × Option Root)}, (∀ r R, g r = some R → RootRel E w r R) → bmoves g nid ms = some (ps, us) → AllP ps → ms.any BM.isTake = false →
    ∃ E', Ext E w E' w us ∧ (∀ r, E'.st r = .fresh → E.st r = .fresh) ∧ (∀ r, E.st r ≠ .fresh → E'.st r ≠ .fresh) := by
  induction ms with
  | nil =>
    intro E g ps us hrt h hp _
    simp only [bmoves, Option.some.injEq, Prod.mk.injEq] at h
    obtain ⟨rfl, rfl⟩ := h
    exact ⟨E, Ext.refl E w, fun _ h => h, fun _ h => h⟩
  | cons m ms ih =>
    intro E g ps us hrt h hp ht
    simp only [List.any_cons, Bool.or_eq_false_iff] at ht
    simp only [bmoves] at h
    split at h
    · rename_i ps1 us1 h1
      split at h
      · rename_i qs vs h2
        cases h
        obtain ⟨hp1, hp2⟩ := AllP_append hp
        obtain ⟨E1, x1, x2, x3⟩ := bmove_ext hrt h1 hp1 (fun e => by rw [ht.1] at e; cases e)
        obtain ⟨E2, y1, y2, y3⟩ := ih (rt_upd hrt x1) h2 hp2 ht.2
        exact ⟨E2, x1.merge y1 x2 x3, fun r hr => x2 r (y2 r hr), fun r hr => y3 r (x3 r hr)⟩
      · cases h
    · cases h

theorem stepT_ok {a : Act} {ρ : Operand → Option D} {o : Oper} {h : Hint} : ∀ (ms : List BM) {E : Env} {g : Nat → Option Root} {nid : Nat} {out : Out}, Hyp X E w a ρ g nid → (∀ u ∈ out.us, nid ≤ u.1 → E.st u.1 = .fresh) → stepT X o ρ h ms g nid = some out → AllP out.ps → Does X o E w a out
  | [], E, g, nid, out, H, hf, hs, hp => stepC_ok H hf hs hp
  | m :: ms, E, g, nid, out, H, hf, hs, hp => by
    simp only [stepT] at hs
    split at hs
    · rename_i htk
      split at hs
      · rename_i ps us h1
        split at hs
        · rename_i out1 h2
          cases hs
          obtain ⟨hp1, hp2⟩ := AllP_append hp
          have hkeys : ∀ u, (∃ v ∈ us, v.1 = u) ∨ (∃ v ∈ out1.us, v.1 = u) → ∃ v ∈ mergeU us out1.us, v.1 = u := fun u hu => by
            have hk : ¬ ∀ v ∈ mergeU us out1.us, v.1 ≠ u := fun hk => by
              rcases hu with ⟨v, hv, he⟩ | ⟨v, hv, he⟩
              · exact (mergeU_key.1 hk).1 v hv he
              · exact (mergeU_key.1 hk).2 v hv he
            simpa only [Classical.not_forall, Decidable.not_not, exists_prop] using hk
          have hus : ∀ u ∈ us, u.1 ≤ nid := fun u hu => by
            cases m with
            | take q i j wd n ys xs =>
              simp only [bmove] at h1
              split at h1
              · rename_i R hR
                split at h1
                · cases h1
                · cases h1
                  simp only [List.mem_cons, List.not_mem_nil, or_false] at hu
                  rcases hu with rfl | rfl
                  · exact Nat.le_of_lt (H.lt q R hR)
                  · exact Nat.le_refl _
              · cases h1
            | _ => simp [BM.isTake] at htk
          have hnm : ∃ v ∈ us, v.1 = nid := by
            cases m with
            | take q i j wd n ys xs =>
              simp only [bmove] at h1
              split at h1
              · split at h1
                · cases h1
                · cases h1
                  exact ⟨_, List.mem_cons_of_mem _ (List.mem_singleton.2 rfl), rfl⟩
              · cases h1
            | _ => simp [BM.isTake] at htk
          have hfn : E.st nid = .fresh := by
            obtain ⟨v, hv, he⟩ := hkeys nid (.inl hnm)
            have := hf v hv (by rw [he]; exact Nat.le_refl _)
            rwa [he] at this
          obtain ⟨E1, x1, x2, x3⟩ := bmove_ext H.rt h1 hp1 (fun _ => hfn)
          have H1 : Hyp X E1 w a ρ (updG us g) (nid + 1) := by
            refine ⟨H.T, fun x d hd => x1.keep _ _ (H.op x d hd), rt_upd H.rt x1, fun r R hR => ?_, x1.gl H.gl⟩
            rcases updG_get hR with h3 | ⟨_, h3⟩
            · have := hus _ h3
              simp only at this
              omega
            · have := H.lt r R h3
              omega
          have hf1 : ∀ u ∈ out1.us, nid + 1 ≤ u.1 → E1.st u.1 = .fresh := fun u hu hge => by
            obtain ⟨v, hv, he⟩ := hkeys u.1 (.inr ⟨u, hu, rfl⟩)
            have h3 := hf v hv (by omega)
            rw [he] at h3
            exact x1.fresh u.1 (fun u' hu' e => by have := hus u' hu'; omega) h3
          have hd := stepT_ok ms H1 hf1 h2 hp2
          intro K Q hK
          exact hd K Q fun E' w' v hE hv => hK E' w' v (x1.merge hE x2 x3) hv
        · cases hs
      · cases hs
    · cases hs

theorem stepM_ok {a : Act} {ρ : Operand → Option D} {g : Nat → Option Root} {o : Oper} (H : Hyp X E w a ρ g nid) {h : Hint} {out : Out} (hf : ∀ u ∈ out.us, nid ≤ u.1 → E.st u.1 = .fresh) (hs : stepM X o g ρ nid h = some out) (hp : AllP out.ps) : Does X o E w a out := by
  unfold stepM at hs
  split at hs
  · exact stepC_ok H hf hs hp
  · rename_i m ms _ _
    split at hs
    · rename_i out1 h1
      split at hs
      · cases hs
      · rename_i htk
        split at hs
        · rename_i qs vs h2
          cases hs
          obtain ⟨hp1, hp2⟩ := AllP_append hp
          have hf1 : ∀ u ∈ out1.us, nid ≤ u.1 → E.st u.1 = .fresh := fun u hu hge => by
            cases hst : E.st u.1 with
            | fresh => rfl
            | _ =>
              have hk : ¬ ∀ v ∈ mergeU out1.us vs, v.1 ≠ u.1 := fun hk => (mergeU_key.1 hk).1 u hu rfl
              simp only [Classical.not_forall, Decidable.not_not] at hk
              obtain ⟨v, hv, he⟩ := hk
              have := hf v hv (by rw [he]; exact hge)
              rw [he, hst] at this
              cases this
          have hd := stepC_ok H hf1 h1 hp1
          intro K Q hK
          refine hd K Q fun E' w' v hE hv => ?_
          obtain ⟨E2, y1, y2, y3⟩ := bmoves_ext (rt_upd H.rt hE) h2 hp2 (by simpa using htk)
          refine hK E2 w' v ?_ (y1.keep _ _ hv)
          exact hE.merge y1 (fun r hr => Classical.byContradiction fun hne => hE.st_ne' hne hr) (fun r hr => hE.st_ne' hr)
        · cases hs
    · cases hs
  · exact stepT_ok _ H hf hs hp
  · cases hs

end
end Go.Proofs.Ytnfeelacifllmaa.Ab

namespace Go.Proofs.Ytnfeelacifllmaa.Ab

theorem getR_nil (r : Nat) : getR [] r = none := rfl

theorem getR_putR : ∀ (G : List (Option Root)) (k : Nat) (x : Option Root) (r : Nat), getR (putR G k x) r = if k = r then x else getR G r
  | [], 0, x, 0 => by simp [putR, getR]
  | [], 0, x, r + 1 => by simp [putR, getR]
  | [], k + 1, x, 0 => by simp [putR, getR]
  | [], k + 1, x, r + 1 => by
    have := getR_putR [] k x r
    simp only [putR, getR, this, Nat.add_right_cancel_iff]
  | y :: G, 0, x, 0 => by simp [putR, getR]
  | y :: G, 0, x, r + 1 => by simp [putR, getR]
  | y :: G, k + 1, x, 0 => by simp [putR, getR]
  | y :: G, k + 1, x, r + 1 => by
    have := getR_putR G k x r
    simp only [putR, getR, this, Nat.add_right_cancel_iff]

theorem getR_some : ∀ {G : List (Option Root)} {r : Nat} {R : Root}, getR G r = some R → r < G.length
  | [], r, R, h => by simp [getR] at h
  | x :: G, 0, R, h => by simp
  | x :: G, r + 1, R, h => by
    have := getR_some (G := G) (r := r) (R := R) (by simpa [getR] using h)
    simp
    omega

theorem putR_len : ∀ (G : List (Option Root)) (k : Nat) (x : Option Root), G.length ≤ (putR G k x).length ∧ k < (putR G k x).length
  | [], 0, x => by simp [putR]
  | [], k + 1, x => by
    have := putR_len [] k x
    simp [putR] at this ⊢
    omega
  | y :: G, 0, x => by simp [putR]
  | y :: G, k + 1, x => by
    have := putR_len G k x
    simp [putR] at this ⊢
    omega

def upd (r : Nat) : List (Nat × Option Root) → Option Root → Option Root
  | [], x => x
  | u :: us, x => upd r us (if u.1 = r then u.2 else x)

theorem getR_putAll (r : Nat) : ∀ (us : List (Nat × Option Root)) (G : List (Option Root)), getR (putAll G us) r = upd r us (getR G r)
  | [], G => rfl
  | u :: us, G => by rw [putAll, getR_putAll r us, getR_putR]; rfl

theorem putAll_len : ∀ (us : List (Nat × Option Root)) (G : List (Option Root)), G.length ≤ (putAll G us).length ∧ ∀ u ∈ us, u.1 < (putAll G us).length
  | [], G => ⟨Nat.le_refl _, (fun u h => by cases h)⟩
  | u :: us, G => by
    obtain ⟨h1, h2⟩ := putAll_len us (putR G u.1 u.2)
    obtain ⟨h3, h4⟩ := putR_len G u.1 u.2
    refine ⟨Nat.le_trans h3 h1, fun u' hu => ?_⟩
    rcases List.mem_cons.1 hu with rfl | hu
    · exact Nat.lt_of_lt_of_le h4 h1
    · exact h2 _ hu

theorem upd_none {r : Nat} : ∀ {us : List (Nat × Option Root)} {x : Option Root}, (∀ u ∈ us, u.1 ≠ r) → upd r us x = x
  | [], x, _ => rfl
  | u :: us, x, h => by
    have h1 : ¬ u.1 = r := h u (List.mem_cons_self ..)
    simp only [upd, h1, if_false]
    exact upd_none fun u' hu => h u' (List.mem_cons_of_mem _ hu)

theorem upd_some {r : Nat} {R : Root} : ∀ {us : List (Nat × Option Root)} {x : Option Root}, upd r us x = some R → (r, some R) ∈ us ∨ (∀ u ∈ us, u.1 ≠ r) ∧ x = some R
  | [], x, h => .inr ⟨(fun u hu => by cases hu), h⟩
  | u :: us, x, h => by
    simp only [upd] at h
    rcases upd_some h with h' | ⟨h1, h2⟩
    · exact .inl (List.mem_cons_of_mem _ h')
    · split at h2
      · rename_i he
        left
        obtain ⟨k, y⟩ := u
        simp only at he h2
        subst he h2
        exact List.mem_cons_self ..
      · rename_i he
        refine .inr ⟨fun u' hu => ?_, h2⟩
        rcases List.mem_cons.1 hu with rfl | hu
        · exact he
        · exact h1 _ hu

theorem putS_get (sl : List D) (dst : Option Nat) (v : D) (t : Nat) : (putS sl dst v)[t]? = if dst = some t ∧ t < sl.length then some v else sl[t]? := by
  cases dst with
  | none => simp [putS]
  | some k =>
    simp only [putS, List.getElem?_set, Option.some.injEq]
    by_cases hk : k = t
    · subst hk
      by_cases h : k < sl.length
      · simp [h]
      · simp [h, List.getElem?_eq_none (Nat.le_of_not_lt h)]
    · simp [hk]

theorem putS_len (sl : List D) (dst : Option Nat) (v : D) : (putS sl dst v).length = sl.length := by
  cases dst <;> simp [putS]

def stepS (σ : St) (o : Oper) (c : Rc) : St := ⟨putS σ.sl o.dst c.v, putAll σ.G c.us⟩
def foldK : List Oper → List Rc → Nat → St → St
  | o :: os, c :: cs, k + 1, σ => foldK os cs k (stepS σ o c)
  | _, _, _, σ => σ

theorem foldK_zero (os : List Oper) (cs : List Rc) (σ : St) : foldK os cs 0 σ = σ := by
  unfold foldK
  split
  · rename_i h; cases h
  · rfl

theorem foldK_succ : ∀ {os : List Oper} {cs : List Rc} {k : Nat} {σ : St} {o : Oper} {c : Rc}, os[k]? = some o → cs[k]? = some c → foldK os cs (k + 1) σ = stepS (foldK os cs k σ) o c
  | [], _, k, σ, o, c, h, _ => by simp at h
  | _ :: _, [], k, σ, o, c, _, h => by simp at h
  | o' :: os, c' :: cs, 0, σ, o, c, h1, h2 => by
    simp only [List.getElem?_cons_zero, Option.some.injEq] at h1 h2
    subst h1 h2
    rw [foldK, foldK_zero, foldK_zero]
  | o' :: os, c' :: cs, k + 1, σ, o, c, h1, h2 => by
    rw [foldK, foldK]
    exact foldK_succ (by simpa using h1) (by simpa using h2)

theorem execOps_ok {X : Ctx} {ops : Array Oper} : ∀ {os : List Oper} {i : Nat} {σ σ' : St} {hs : List Hint} {cs : List Rc} {ps : List Prop}, execOps X ops os i σ hs = some (cs, ps, σ') → AllP ps →
    cs.length = os.length ∧ σ' = foldK os cs os.length σ ∧
    ∀ (k : Nat) o c, os[k]? = some o → cs[k]? = some c → ∃ h qs, step1 X ops o h (foldK os cs k σ).sl (getR (foldK os cs k σ).G) (foldK os cs k σ).G.length = some (qs, c) ∧ AllP qs
  | [], i, σ, σ', hs, cs, ps, h, _ => by
    simp only [execOps, Option.some.injEq, Prod.mk.injEq] at h
    obtain ⟨rfl, rfl, rfl⟩ := h
    exact ⟨rfl, rfl, fun k o c h => by simp at h⟩
  | o :: os, i, σ, σ', hs, cs, ps, h, hp => by
    simp only [execOps] at h
    split at h
    · cases h
    · rename_i qs c h1
      split at h
      · cases h
      · rename_i cs' qs' σ2 h2
        cases h
        obtain ⟨hp1, hp2⟩ := AllP_append hp
        obtain ⟨hl, he, hk⟩ := execOps_ok h2 hp2
        refine ⟨by simp [hl], by rw [List.length_cons, foldK]; exact he, fun k o' c' ho hc => ?_⟩
        cases k with
        | zero =>
          simp only [List.getElem?_cons_zero, Option.some.injEq] at ho hc
          subst ho hc
          rw [foldK_zero]
          exact ⟨_, qs, h1, hp1⟩
        | succ k =>
          rw [foldK]
          exact hk k o' c' (by simpa using ho) (by simpa using hc)

def slotN (os : List Oper) (cs : List Rc) (σ : St) (D : Nat → Bool) (t : Nat) : Nat → Option Ab.D
  | 0 => σ.sl[t]?
  | n + 1 => match os[n]?, cs[n]? with
    | some o, some c => if D n = true ∧ o.dst = some t ∧ t < σ.sl.length then some c.v else slotN os cs σ D t n
    | _, _ => slotN os cs σ D t n
def rootN (os : List Oper) (cs : List Rc) (σ : St) (D : Nat → Bool) (r : Nat) : Nat → Option Root
  | 0 => getR σ.G r
  | n + 1 => match cs[n]? with
    | some c => if D n = true then upd r c.us (rootN os cs σ D r n) else rootN os cs σ D r n
    | none => rootN os cs σ D r n

section
variable {os : List Oper} {cs : List Rc} {σ : St}

theorem foldK_sl (hl : cs.length = os.length) (t : Nat) : ∀ n, n ≤ os.length → (foldK os cs n σ).sl.length = σ.sl.length ∧ (foldK os cs n σ).sl[t]? = slotN os cs σ (fun _ => true) t n
  | 0, _ => by rw [foldK_zero]; exact ⟨rfl, rfl⟩
  | n + 1, h => by
    obtain ⟨h1, h2⟩ := foldK_sl hl t n (by omega)
    have ho := List.getElem?_eq_getElem (show n < os.length by omega)
    have hc := List.getElem?_eq_getElem (show n < cs.length by omega)
    rw [foldK_succ ho hc]
    simp only [stepS, slotN, ho, hc, true_and]
    rw [putS_len, putS_get, h1, h2]
    exact ⟨rfl, rfl⟩

theorem foldK_rt (hl : cs.length = os.length) (r : Nat) : ∀ n, n ≤ os.length → getR (foldK os cs n σ).G r = rootN os cs σ (fun _ => true) r n
  | 0, _ => by rw [foldK_zero]; rfl
  | n + 1, h => by
    have h2 := foldK_rt hl r n (by omega)
    have ho := List.getElem?_eq_getElem (show n < os.length by omega)
    have hc := List.getElem?_eq_getElem (show n < cs.length by omega)
    rw [foldK_succ ho hc]
    simp only [stepS, rootN, hc, if_true]
    rw [getR_putAll, h2]

theorem foldK_len (hl : cs.length = os.length) : ∀ n, n ≤ os.length → σ.G.length ≤ (foldK os cs n σ).G.length ∧ ∀ (j : Nat) c, j < n → cs[j]? = some c → ∀ u ∈ c.us, u.1 < (foldK os cs n σ).G.length
  | 0, _ => by rw [foldK_zero]; exact ⟨Nat.le_refl _, fun j c h => by omega⟩
  | n + 1, h => by
    obtain ⟨h1, h2⟩ := foldK_len hl n (by omega)
    have ho := List.getElem?_eq_getElem (show n < os.length by omega)
    have hc := List.getElem?_eq_getElem (show n < cs.length by omega)
    rw [foldK_succ ho hc]
    obtain ⟨h3, h4⟩ := putAll_len cs[n].us (foldK os cs n σ).G
    refine ⟨Nat.le_trans h1 h3, fun j c hj hcj u hu => ?_⟩
    by_cases hjn : j = n
    · subst hjn
      rw [hc] at hcj
      cases hcj
      exact h4 u hu
    · exact Nat.lt_of_lt_of_le (h2 j c (by omega) hcj u hu) h3

end

theorem slotN_congr {os : List Oper} {cs : List Rc} {σ : St} {D D' : Nat → Bool} {t : Nat} : ∀ n, (∀ (j : Nat) o, j < n → D j ≠ D' j → os[j]? = some o → o.dst ≠ some t) → slotN os cs σ D t n = slotN os cs σ D' t n
  | 0, _ => rfl
  | n + 1, h => by
    have ih := slotN_congr (cs := cs) (σ := σ) n fun j o hj => h j o (by omega)
    simp only [slotN]
    split
    · rename_i o c ho hc
      by_cases hd : D n = D' n
      · rw [hd, ih]
      · have := h n o (by omega) hd ho
        rw [if_neg (by simp [this]), if_neg (by simp [this]), ih]
    · exact ih

theorem rootN_congr {os : List Oper} {cs : List Rc} {σ : St} {D D' : Nat → Bool} {r : Nat} : ∀ n, (∀ (j : Nat) c, j < n → D j ≠ D' j → cs[j]? = some c → ∀ u ∈ c.us, u.1 ≠ r) → rootN os cs σ D r n = rootN os cs σ D' r n
  | 0, _ => rfl
  | n + 1, h => by
    have ih := rootN_congr (os := os) (σ := σ) n fun j o hj => h j o (by omega)
    simp only [rootN]
    split
    · rename_i c hc
      by_cases hd : D n = D' n
      · rw [hd, ih]
      · have := h n c (by omega) hd hc
        rw [upd_none this, upd_none this, ite_self, ite_self, ih]
    · exact ih

theorem slotN_end {os : List Oper} {cs : List Rc} {σ : St} {D : Nat → Bool} {t m : Nat} : ∀ n, m ≤ n → (∀ j, m ≤ j → j < n → D j = false) → slotN os cs σ D t n = slotN os cs σ D t m
  | 0, h, _ => by rw [Nat.le_zero.1 h]
  | n + 1, h, hd => by
    by_cases he : m = n + 1
    · rw [he]
    · have ih := slotN_end (os := os) (cs := cs) (σ := σ) (t := t) n (by omega) fun j h1 h2 => hd j h1 (by omega)
      simp only [slotN]
      split
      · rw [if_neg (by simp [hd n (by omega) (by omega)]), ih]
      · exact ih

theorem rootN_end {os : List Oper} {cs : List Rc} {σ : St} {D : Nat → Bool} {r m : Nat} : ∀ n, m ≤ n → (∀ j, m ≤ j → j < n → D j = false) → rootN os cs σ D r n = rootN os cs σ D r m
  | 0, h, _ => by rw [Nat.le_zero.1 h]
  | n + 1, h, hd => by
    by_cases he : m = n + 1
    · rw [he]
    · have ih := rootN_end (os := os) (cs := cs) (σ := σ) (r := r) n (by omega) fun j h1 h2 => hd j h1 (by omega)
      simp only [rootN]
      split
      · rw [if_neg (by simp [hd n (by omega) (by omega)]), ih]
      · exact ih

theorem slotN_put {os : List Oper} {cs : List Rc} {σ : St} {D : Nat → Bool} {t i : Nat} {o : Oper} {c : Rc} (ho : os[i]? = some o) (hc : cs[i]? = some c) : ∀ n, i < n → (o.dst = some t → ∀ (j : Nat) o', i < j → j < n → D j = true → os[j]? = some o' → o'.dst ≠ some t) →
    slotN os cs σ (fun j => D j || j == i) t n = if o.dst = some t ∧ t < σ.sl.length then some c.v else slotN os cs σ (fun j => D j || j == i) t n
  | 0, h, _ => by omega
  | n + 1, h, hd => by
    split
    · rename_i hdst
      by_cases he : i = n
      · subst he
        simp only [slotN, ho, hc]
        rw [if_pos (by simp [hdst])]
      · have ih := slotN_put (σ := σ) (D := D) (t := t) ho hc n (by omega) fun h0 j o' h1 h2 => hd h0 j o' h1 (by omega)
        rw [if_pos hdst] at ih
        simp only [slotN]
        split
        · rename_i o' c' ho' hc'
          by_cases hD : D n = true
          · have := hd hdst.1 n o' (by omega) (by omega) hD ho'
            rw [if_neg (by simp [this])]
            exact ih
          · rw [if_neg (by simp [hD]; intro h; omega)]
            exact ih
        · exact ih
    · rfl

theorem slotN_skip {os : List Oper} {cs : List Rc} {σ : St} {D : Nat → Bool} {t i : Nat} {o : Oper} (ho : os[i]? = some o) (hne : ¬ (o.dst = some t ∧ t < σ.sl.length)) : ∀ n, slotN os cs σ (fun j => D j || j == i) t n = slotN os cs σ D t n
  | 0 => rfl
  | n + 1 => by
    have ih := slotN_skip (cs := cs) (D := D) ho hne n
    simp only [slotN]
    split
    · rename_i o' c' ho' hc'
      by_cases he : n = i
      · subst he
        rw [ho] at ho'
        cases ho'
        rw [if_neg (fun h => hne h.2), if_neg (fun h => hne h.2), ih]
      · simp only [show (n == i) = false by simp [he], Bool.or_false, ih]
    · exact ih

theorem rootN_skip {os : List Oper} {cs : List Rc} {σ : St} {D : Nat → Bool} {r i : Nat} {c : Rc} (hc : cs[i]? = some c) (hne : ∀ u ∈ c.us, u.1 ≠ r) : ∀ n, rootN os cs σ (fun j => D j || j == i) r n = rootN os cs σ D r n
  | 0 => rfl
  | n + 1 => by
    have ih := rootN_skip (os := os) (σ := σ) (D := D) hc hne n
    simp only [rootN]
    split
    · rename_i c' hc'
      by_cases he : n = i
      · subst he
        rw [hc] at hc'
        cases hc'
        simp only [beq_self_eq_true, Bool.or_true, if_true]
        rw [upd_none hne, upd_none hne, ite_self, ih]
      · simp only [show (n == i) = false by simp [he], Bool.or_false, ih]
    · exact ih

theorem rootN_put {os : List Oper} {cs : List Rc} {σ : St} {D : Nat → Bool} {r i : Nat} {c : Rc} {R : Root} (hc : cs[i]? = some c) (hin : ∃ u ∈ c.us, u.1 = r) : ∀ n, i < n → (∀ (j : Nat) c', i < j → j < n → D j = true → cs[j]? = some c' → ∀ u ∈ c'.us, u.1 ≠ r) →
    rootN os cs σ (fun j => D j || j == i) r n = some R → (r, some R) ∈ c.us
  | 0, h, _, _ => by omega
  | n + 1, h, hd, hR => by
    by_cases he : i = n
    · subst he
      simp only [rootN, hc] at hR
      rw [if_pos (by simp)] at hR
      rcases upd_some hR with h' | ⟨h1, _⟩
      · exact h'
      · obtain ⟨u, hu, hur⟩ := hin
        exact absurd hur (h1 u hu)
    · refine rootN_put (os := os) (σ := σ) (D := D) hc hin n (by omega) (fun j c' h1 h2 => hd j c' h1 (by omega)) ?_
      simp only [rootN] at hR
      split at hR
      · rename_i c' hc'
        by_cases hD : D n = true
        · rw [upd_none (hd n c' (by omega) (by omega) hD hc'), ite_self] at hR
          exact hR
        · rw [if_neg (by simp [hD]; omega)] at hR
          exact hR
      · exact hR

end Go.Proofs.Ytnfeelacifllmaa.Ab

namespace Go.Proofs.Ytnfeelacifllmaa.Ab

section
variable {ρ ρ' : Operand → Option D}

theorem vals_congr : ∀ {xs : List Operand}, (∀ x ∈ xs, ρ x = ρ' x) → vals ρ xs = vals ρ' xs
  | [], _ => rfl
  | x :: xs, h => by
    simp only [vals, h x (List.mem_cons_self ..), vals_congr fun y hy => h y (List.mem_cons_of_mem _ hy)]

theorem fillD_congr {g : Nat → Option Root} {fs : List FI} : ∀ {ps : List (Nat × Operand)} {cs : List D}, (∀ x ∈ ps, ρ x.2 = ρ' x.2) → fillD g fs ρ cs ps = fillD g fs ρ' cs ps
  | [], _, _ => rfl
  | (i, x) :: ps, cs, h => by
    have h1 := h (i, x) (List.mem_cons_self ..)
    simp only at h1
    simp only [fillD, h1]
    split
    · split
      · exact fillD_congr fun y hy => h y (List.mem_cons_of_mem _ hy)
      · rfl
    · rfl

theorem litD_congr {g : Nat → Option Root} {w : Nat} : ∀ {ps : List (Nat × Operand)} {k : Nat}, (∀ x ∈ ps, ρ x.2 = ρ' x.2) → litD g ρ w k ps = litD g ρ' w k ps
  | [], _, _ => rfl
  | (i, x) :: ps, k, h => by
    have h1 := h (i, x) (List.mem_cons_self ..)
    simp only at h1
    simp only [litD, h1, litD_congr fun y hy => h y (List.mem_cons_of_mem _ hy)]

theorem optV_congr {x : Option Operand} (h : ∀ y, x = some y → ρ y = ρ' y) : optV ρ x = optV ρ' x := by
  cases x with
  | none => rfl
  | some y => simp only [optV, h y rfl]

theorem stepOp_congr {X : Ctx} {o : Oper} {g : Nat → Option Root} {nid : Nat} {hh : Hint} (h : ∀ x ∈ o.op.operands, ρ x = ρ' x) : stepOp X o ρ g nid hh = stepOp X o ρ' g nid hh := by
  obtain ⟨dst, op, type, pos, after, guard⟩ := o
  cases op <;> simp only [Op.operands] at h <;> simp only [stepOp]
  case build t ps =>
    have e : ∀ fs zs, fillD g fs ρ zs ps.toList = fillD g fs ρ' zs ps.toList := fun fs zs => fillD_congr fun x hx => h x.2 (by simp; exact ⟨x.1, by simpa using hx⟩)
    simp only [e]
  case buildSlice t n ps =>
    have e : ∀ w, litD g ρ w 0 ps.toList = litD g ρ' w 0 ps.toList := fun w => litD_congr fun x hx => h x.2 (by simp; exact ⟨x.1, by simpa using hx⟩)
    simp only [e]
  case makeFunc fn first captured =>
    cases fn <;> simp only [stepOp]
    rw [vals_congr (xs := captured.toList) fun x hx => h x (by simp at hx; simp [hx])]
  case slice t x lo hi mx =>
    cases mx <;> simp only [stepOp]
    rw [optV_congr (x := lo) fun y hy => h y (by subst hy; simp), optV_congr (x := hi) fun y hy => h y (by subst hy; simp), h x (by simp)]
  case call c =>
    have ha : ∀ x ∈ c.args.toList, ρ x = ρ' x := fun x hx => h x (by simp at hx; simp [Call.operands, hx])
    cases hc : c.callee with
    | value f =>
      simp only [hc]
      rw [h f (by simp [Call.operands, hc]), vals_congr ha]
    | invoke r m => rfl
    | builtin b =>
      have hmm : ∀ mn, stepOp.minmax mn c ρ = stepOp.minmax mn c ρ' := fun mn => by
        unfold stepOp.minmax
        rw [vals_congr ha]
      cases b <;> first | rfl | exact hmm _ | skip
      case len =>
        dsimp only
        split
        · rename_i ti x h1 h2
          rw [ha x (by rw [h2]; exact List.mem_cons_self ..)]
        · rfl
      case append =>
        dsimp only
        split
        · rename_i t t' s x h1 h2
          rw [ha s (by rw [h2]; simp), ha x (by rw [h2]; simp)]
        · rfl
      case delete =>
        dsimp only
        split
        · rename_i t t' s x h1 h2
          rw [ha s (by rw [h2]; simp), ha x (by rw [h2]; simp)]
        · rfl
  case makeMap t r => cases r <;> rfl
  case mapUpdate t m k x =>
    simp at h
    simp only [h]
  all_goals first
    | rfl
    | (simp at h; simp only [h]; done)

theorem stepF_congr {X : Ctx} {o : Oper} {nid : Nat} {hh : Hint} : ∀ (rs : List Nat) {g : Nat → Option Root} {ρ ρ' : Operand → Option D}, (∀ x ∈ o.op.operands, ρ x = ρ' x) → stepF X o g ρ nid hh rs = stepF X o g ρ' nid hh rs
  | [], g, ρ, ρ', h => stepOp_congr h
  | r :: rs, g, ρ, ρ', h => by
    simp only [stepF]
    split
    · rename_i R _
      rw [stepF_congr rs (ρ := fun x => fzO r R (ρ x)) (ρ' := fun x => fzO r R (ρ' x)) fun x hx => by rw [h x hx]]
    · rfl

theorem stepC_congr {X : Ctx} {o : Oper} {nid : Nat} {hh : Hint} {g : Nat → Option Root} (h : ∀ x ∈ o.op.operands, ρ x = ρ' x) : stepC X o g ρ nid hh = stepC X o g ρ' nid hh := by
  unfold stepC
  split
  · rename_i t x ho
    rw [h x (by rw [ho]; simp [Op.operands]), stepF_congr _ h]
    have e : ∀ h' : Hint, stepOp X o ρ g nid h' = stepOp X o ρ' g nid h' := fun h' => stepOp_congr h
    simp only [e]
  · exact stepF_congr _ h
theorem stepT_congr {X : Ctx} {o : Oper} {hh : Hint} (h : ∀ x ∈ o.op.operands, ρ x = ρ' x) : ∀ (ms : List BM) (g : Nat → Option Root) (nid : Nat), stepT X o ρ hh ms g nid = stepT X o ρ' hh ms g nid
  | [], g, nid => stepC_congr h
  | m :: ms, g, nid => by
    have e : ∀ g' n', stepT X o ρ hh ms g' n' = stepT X o ρ' hh ms g' n' := fun g' n' => stepT_congr h ms g' n'
    simp only [stepT, e]
theorem stepM_congr {X : Ctx} {o : Oper} {nid : Nat} {hh : Hint} {g : Nat → Option Root} (h : ∀ x ∈ o.op.operands, ρ x = ρ' x) : stepM X o g ρ nid hh = stepM X o g ρ' nid hh := by
  unfold stepM
  split
  · exact stepC_congr h
  · rw [stepC_congr h]
  · exact stepT_congr h _ _ _
  · rfl

end

structure SR (X : Ctx) (M : Nat) (E0 : Env) (w0 : World) (σ : St) (a : Act) (w : World) (E : Env) : Prop where
  frm : Frm M E0 w0 E w
  low : ∀ r, r < M → E.st r ≠ .fresh
  gl : GlOK X.gl E w
  df : a.defers = []
  sz : a.tmps.size = σ.sl.length
  sl : ∀ (t : Nat) d, σ.sl[t]? = some d → Rep E w .slot d (a.eval (.tmp t))
  rt : ∀ r R, getR σ.G r = some R → RootRel E w r R
  fresh : ∀ r, σ.G.length ≤ r → E.st r = .fresh

structure Rgn (X : Ctx) (ops : Array Oper) (cs : List Rc) (σ : St) : Prop where
  len : cs.length = ops.toList.length
  st : ∀ (k : Nat) o c, ops.toList[k]? = some o → cs[k]? = some c → ∃ h qs, step1 X ops o h (foldK ops.toList cs k σ).sl (getR (foldK ops.toList cs k σ).G) (foldK ops.toList cs k σ).G.length = some (qs, c) ∧ AllP qs

structure Inv (X : Ctx) (M : Nat) (E0 : Env) (w0 : World) (σ : St) (os : List Oper) (cs : List Rc) (d : Nat → Bool) (a : Act) (w : World) (E : Env) : Prop where
  frm : Frm M E0 w0 E w
  low : ∀ r, r < M → E.st r ≠ .fresh
  gl : GlOK X.gl E w
  df : a.defers = []
  sz : a.tmps.size = σ.sl.length
  sl : ∀ (t : Nat) x, slotN os cs σ d t os.length = some x → Rep E w .slot x (a.eval (.tmp t))
  rt : ∀ r R, rootN os cs σ d r os.length = some R → RootRel E w r R
  fresh : ∀ r, σ.G.length ≤ r → (∀ (j : Nat) c, d j = true → cs[j]? = some c → ∀ u ∈ c.us, u.1 ≠ r) → E.st r = .fresh

section
variable {X : Ctx} {M : Nat} {E0 E E' : Env} {w0 w w' : World} {σ : St} {a : Act} {ops : Array Oper} {os : List Oper} {cs : List Rc} {d : Nat → Bool}

theorem slotN_none {os : List Oper} {cs : List Rc} {σ : St} {t : Nat} : ∀ n, slotN os cs σ (fun _ => false) t n = σ.sl[t]?
  | 0 => rfl
  | n + 1 => by
    simp only [slotN]
    split
    · rw [if_neg (by simp), slotN_none n]
    · exact slotN_none n

theorem rootN_none {os : List Oper} {cs : List Rc} {σ : St} {r : Nat} : ∀ n, rootN os cs σ (fun _ => false) r n = getR σ.G r
  | 0 => rfl
  | n + 1 => by
    simp only [rootN]
    split
    · rw [if_neg (by simp), rootN_none n]
    · exact rootN_none n

theorem SR.inv (h : SR X M E0 w0 σ a w E) : Inv X M E0 w0 σ os cs (fun _ => false) a w E :=
  ⟨h.frm, h.low, h.gl, h.df, h.sz, fun t x hx => h.sl t x (by rw [slotN_none] at hx; exact hx), fun r R hR => h.rt r R (by rw [rootN_none] at hR; exact hR), fun r hr _ => h.fresh r hr⟩

theorem Inv.sr (h : Inv X M E0 w0 σ os cs d a w E) (hl : cs.length = os.length) (hd : ∀ j, j < os.length → d j = true) : SR X M E0 w0 (foldK os cs os.length σ) a w E := by
  refine ⟨h.frm, h.low, h.gl, h.df, by rw [(foldK_sl hl 0 _ (Nat.le_refl _)).1]; exact h.sz, fun t x hx => h.sl t x ?_, fun r R hR => h.rt r R ?_, fun r hr => h.fresh r ?_ ?_⟩
  · rw [(foldK_sl hl t _ (Nat.le_refl _)).2] at hx
    rw [slotN_congr (D' := fun _ => true) _ fun j o hj hne => absurd (hd j hj) hne]
    exact hx
  · rw [foldK_rt hl r _ (Nat.le_refl _)] at hR
    rw [rootN_congr (D' := fun _ => true) _ fun j o hj hne => absurd (hd j hj) hne]
    exact hR
  · exact Nat.le_trans (foldK_len hl _ (Nat.le_refl _)).1 hr
  · intro j c hj hc u hu
    have hlt : j < os.length := by rw [← hl]; exact (List.getElem?_eq_some_iff.1 hc).1
    have := (foldK_len (σ := σ) hl _ (Nat.le_refl _)).2 j c hlt hc u hu
    omega

theorem Ext.st_ne {us : List (Nat × Option Root)} (h : Ext E w E' w' us) {r : Nat} (hr : E.st r ≠ .fresh) : E'.st r ≠ .fresh := by
  have h1 : Rep E w .slot (.ptr r 0 0 0) (.pointer (some ((E.adr r).add (0 * 0 + 0)))) := .ptr _ _ _ _ _ _ (.inl rfl) hr fun _ => rfl
  exact (h.keep _ _ h1).ptr_inv.2.1


theorem Ext.frm {us : List (Nat × Option Root)} (h : Ext E w E' w' us) (hlow : ∀ r, r < M → E.st r ≠ .fresh) : Frm M E w E' w' where
  sz := h.sz
  os := h.os
  tape := h.tape
  output := h.output
  fz := h.fz
  far := h.far
  adr := fun r hr => h.adr r (hlow r hr)
  shape := h.shape
  shp := fun r hr hst => by
    have h1 : E.st r = .own := (h.back r hst).resolve_left (hlow r hr)
    exact ⟨h1, fun N hN => h.shp r N h1 hst hN⟩

theorem apart1_spec {o o' : Oper} {c c' : Rc} (h : apart1 ops o o' c c' = true) : o.apart ops o' = true ∧ (∀ u ∈ c.us, u.1 ∉ c'.foot ∧ ∀ u' ∈ c'.us, u.1 ≠ u'.1) ∧ ∀ u ∈ c'.us, u.1 ∉ c.foot := by
  simp only [apart1, Bool.and_eq_true, List.all_eq_true, Bool.not_eq_true'] at h
  obtain ⟨⟨h1, h2⟩, h3⟩ := h
  refine ⟨h1, fun u hu => ⟨distinct_any (h2 u hu).1, fun u' hu' e => ?_⟩, fun u hu => distinct_any (h3 u hu)⟩
  have := List.any_eq_false.1 (h2 u hu).2 u' hu'
  rw [e] at this
  simp [Nat.beq_refl] at this

theorem glOf_mem : ∀ {gl : List (Nat × D)} {g : Nat} {x : D}, glOf gl g = some x → (g, x) ∈ gl
  | [], g, x, h => by simp [glOf] at h
  | (k, y) :: gl, g, x, h => by
    simp only [glOf] at h
    split at h
    · rename_i hk
      cases h
      rw [Nat.eq_of_beq_eq_true hk]
      exact List.mem_cons_self ..
    · exact List.mem_cons_of_mem _ (glOf_mem h)

theorem put_eval (a : Act) (dst : Option Tmp) (v : Value) (t : Nat) : (a.put dst v).eval (.tmp t) = if dst = some t ∧ t < a.tmps.size then v else a.eval (.tmp t) := by
  cases dst with
  | none => simp [Act.put]
  | some k =>
    simp only [Act.put, Act.eval, Option.some.injEq]
    by_cases hk : k = t
    · subst hk
      by_cases h : k < a.tmps.size
      · simp [h]
      · simp [h]
    · simp [hk]

theorem put_size (a : Act) (dst : Option Tmp) (v : Value) : (a.put dst v).tmps.size = a.tmps.size := by cases dst <;> simp [Act.put]
theorem put_df (a : Act) (dst : Option Tmp) (v : Value) : (a.put dst v).defers = a.defers := by cases dst <;> rfl

theorem Inv.put {i : Nat} {o : Oper} {c : Rc} {v : Value} (hI : Inv X M E0 w0 σ os cs d a w E) (hl : cs.length = os.length) (ho : os[i]? = some o) (hc : cs[i]? = some c)
    (hx : Ext E w E' w' c.us) (hv : Rep E' w' .slot c.v v)
    (hd1 : ∀ (j : Nat) o', i < j → d j = true → os[j]? = some o' → ∀ t, o.dst = some t → o'.dst ≠ some t)
    (hd2 : ∀ (j : Nat) c', i < j → d j = true → cs[j]? = some c' → ∀ u ∈ c.us, ∀ u' ∈ c'.us, u'.1 ≠ u.1) :
    Inv X M E0 w0 σ os cs (fun j => d j || j == i) (a.put o.dst v) w' E' := by
  have hi : i < os.length := (List.getElem?_eq_some_iff.1 ho).1
  refine ⟨hI.frm.trans (hx.frm hI.low), fun r hr => hx.st_ne (hI.low r hr), hx.gl hI.gl, by rw [put_df]; exact hI.df, by rw [put_size]; exact hI.sz, fun t x h => ?_, fun r R h => ?_, fun r hr h => ?_⟩
  · rw [put_eval, hI.sz]
    rw [slotN_put ho hc _ hi fun h0 j o' h1 h2 h3 h4 => hd1 j o' h1 h3 h4 t h0] at h
    split at h
    · rename_i hcnd
      cases h
      rw [if_pos hcnd]
      exact hv
    · rename_i hcnd
      rw [if_neg hcnd]
      rw [slotN_skip ho hcnd] at h
      exact hx.keep _ _ (hI.sl t x h)
  · by_cases hin : ∃ u ∈ c.us, u.1 = r
    · refine hx.new r R (rootN_put hc hin _ hi (fun j c' h1 h2 h3 h4 u' hu' => ?_) h)
      obtain ⟨u, hu, rfl⟩ := hin
      exact hd2 j c' h1 h3 h4 u hu u' hu'
    · have hne : ∀ u ∈ c.us, u.1 ≠ r := fun u hu e => hin ⟨u, hu, e⟩
      rw [rootN_skip hc hne] at h
      exact hx.root r R hne (hI.rt r R h)
  · refine hx.fresh r (fun u hu => h i c (by simp) hc u hu) (hI.fresh r hr fun j c' hj hc' => h j c' (by simp [hj]) hc')

end
end Go.Proofs.Ytnfeelacifllmaa.Ab

namespace Go.Proofs.Ytnfeelacifllmaa.Ab

section
variable {X : Ctx} {M : Nat} {E0 E E' : Env} {w0 w w' : World} {σ : St} {a : Act} {ops : Array Oper} {cs : List Rc} {d : Nat → Bool}

theorem only_some {foot : List Nat} {g : Nat → Option Root} {r : Nat} {R : Root} (h : only foot g r = some R) : r ∈ foot ∧ g r = some R := by
  unfold only at h
  split at h
  · rename_i hc
    obtain ⟨x, hx, he⟩ := List.any_eq_true.1 hc
    rw [Nat.eq_of_beq_eq_true he]
    exact ⟨hx, (Nat.eq_of_beq_eq_true he) ▸ h⟩
  · cases h

open Classical in
theorem Inv.step0 (hm : TabOK X.P X.T) (hl : cs.length = ops.toList.length) {i : Nat} {o : Oper} {c : Rc} (hI : Inv X M E0 w0 σ ops.toList cs d a w E) (ho : ops.toList[i]? = some o) (hc : cs[i]? = some c)
    {sl : List D} {g : Nat → Option Root} {nid : Nat} {h : Hint} {qs : List Prop} (hs : step1 X ops o h sl g nid = some (qs, c)) (hq : AllP qs)
    (hslot : ∀ t, t ∈ o.looksAt ops → ∀ x, sl[t]? = some x → Rep E w .slot x (a.eval (.tmp t)))
    (hroot : ∀ r ∈ c.foot, ∀ R, g r = some R → RootRel E w r R) (hg : ∀ r R, g r = some R → r < nid) (hsz : sl.length = σ.sl.length)
    (hfresh : ∀ u ∈ c.us, nid ≤ u.1 → E.st u.1 = .fresh)
    (hd1 : ∀ (j : Nat) o', i < j → d j = true → ops.toList[j]? = some o' → ∀ t, o.dst = some t → o'.dst ≠ some t)
    (hd2 : ∀ (j : Nat) c', i < j → d j = true → cs[j]? = some c' → ∀ u ∈ c.us, ∀ u' ∈ c'.us, u'.1 ≠ u.1)
    {K : Act → World → Prop} {Q : Exit → Act → World → Prop} (hK : ∀ a' w' E', Inv X M E0 w0 σ ops.toList cs (fun j => d j || j == i) a' w' E' → K a' w') : wpOp X.P ops Q i K a w := by
  have ho2 : ops[i]? = some o := by simpa using ho
  unfold wpOp
  rw [ho2]
  simp only
  -- is it wanted
  have hwant : ∀ b, wants ops sl o = some b → Region.wanted o (yielded ops a.tmps) = b := fun b hb => by
    unfold wants at hb
    unfold Region.wanted
    split at hb
    · rename_i hg
      rw [hg]
      simpa using hb
    · rename_i j want hg
      rw [hg]
      simp only
      split at hb
      · rename_i o' ho'
        split at hb
        · rename_i t ht
          split at hb
          · rename_i b' hb'
            have hlook : t ∈ o.looksAt ops := by
              have ho'' : ops[j]? = some o' := by simpa using ho'
              simp [Oper.looksAt, hg, ho'', ht]
            have hr := (hslot t hlook _ hb').bool_inv
            have hlt : t < a.tmps.size := by
              rw [hI.sz, ← hsz]
              exact (List.getElem?_eq_some_iff.1 hb').1
            have hy : yielded ops a.tmps j = some b' := by
              have ho'' : ops[j]? = some o' := by simpa using ho'
              have hv : a.tmps[t]? = some (.bool b') := by
                simp only [Act.eval] at hr
                rw [Array.getD_eq_getD_getElem?, Array.getElem?_eq_getElem hlt] at hr
                rw [Array.getElem?_eq_getElem hlt]
                simpa using hr
              simp [yielded, ho'', ht, hv]
            rw [hy]
            cases b' <;> cases want <;> simp at hb ⊢ <;> exact hb
          · rename_i vs hb'
            cases hb
            have hlook : t ∈ o.looksAt ops := by
              have ho'' : ops[j]? = some o' := by simpa using ho'
              simp [Oper.looksAt, hg, ho'', ht]
            obtain ⟨us, hr, _⟩ := (hslot t hlook _ hb').tup_inv
            have hlt : t < a.tmps.size := by
              rw [hI.sz, ← hsz]
              exact (List.getElem?_eq_some_iff.1 hb').1
            have hy : yielded ops a.tmps j = none := by
              have ho'' : ops[j]? = some o' := by simpa using ho'
              have hv : a.tmps[t]? = some (.tuple us) := by
                simp only [Act.eval] at hr
                rw [Array.getD_eq_getD_getElem?, Array.getElem?_eq_getElem hlt] at hr
                rw [Array.getElem?_eq_getElem hlt]
                simpa using hr
              simp [yielded, ho'', ht, hv]
            rw [hy]
            rfl
          · cases hb
        · cases hb
      · cases hb
  unfold step1 at hs
  split at hs
  · cases hs
  · -- it is passed over
    rename_i hw
    simp only [Option.some.injEq, Prod.mk.injEq] at hs
    obtain ⟨rfl, rfl⟩ := hs
    rw [hwant _ hw, if_neg (by simp)]
    exact hK _ _ E (hI.put hl ho hc (Ext.refl E w) (.tup [] #[] rfl fun i c u hc => by simp at hc) hd1 hd2)
  · rename_i hw
    rw [hwant _ hw, if_pos rfl]
    left
    dsimp only at hs
    split at hs
    · rename_i out hout
      split at hs
      · rename_i ps x hdec
        simp only [Option.some.injEq, Prod.mk.injEq] at hs
        obtain ⟨rfl, rfl⟩ := hs
        obtain ⟨hq1, hq2⟩ := AllP_append hq
        simp only at hroot hd2
        have hout' : stepM X o (only (footOf X sl o h) g) (fun x => if x ∈ o.op.operands then ev X sl x else none) nid h = some out := by
          rw [← hout]
          exact stepM_congr fun x hx => by rw [if_pos hx]
        have hH : Hyp X E w a (fun x => if x ∈ o.op.operands then ev X sl x else none) (only (footOf X sl o h) g) nid := by
          refine ⟨hm, fun x y hy => ?_, fun r R hr => ?_, fun r R hr => hg _ _ (only_some hr).2, hI.gl⟩
          · split at hy
            · rename_i hx
              cases x with
              | tmp t =>
                refine hslot t ?_ y hy
                exact List.mem_append_left _ (List.mem_filterMap.2 ⟨.tmp t, by simpa using hx, rfl⟩)
              | const v =>
                simp only [ev, Option.some.injEq] at hy
                subst hy
                exact .ofVal v
              | global k => exact (hI.gl _ (glOf_mem hy)).2.1
              | func f =>
                simp only [ev, Option.some.injEq] at hy
                subst hy
                exact .fn _ _ _ rfl fun i c u hc => by simp at hc
            · cases hy
          · obtain ⟨h1, h2⟩ := only_some hr
            exact hroot r h1 R h2
        refine stepM_ok hH hfresh hout' hq1 K Q fun E' w' v hx hv => hK _ _ E' (hI.put hl ho hc hx ?_ hd1 hd2)
        unfold decD at hdec
        split at hdec
        · cases hdec
          exact hv
        · rename_i b e _ hov
          simp only [Option.some.injEq, Prod.mk.injEq] at hdec
          obtain ⟨rfl, rfl⟩ := hdec
          obtain ⟨rfl, _⟩ := hq2
          rw [← hov]
          exact hv
        · cases hdec
      · cases hs
    · cases hs

theorem Inv.slots (hl : cs.length = ops.toList.length) (hI : Inv X M E0 w0 σ ops.toList cs d a w E) {i : Nat} {o : Oper} (hi : i < ops.toList.length) (hdi : d i = false)
    (hlo : ∀ (j : Nat) o', j < i → d j = false → ops.toList[j]? = some o' → ∀ t, o'.dst = some t → t ∉ o.looksAt ops)
    (hhi : ∀ (j : Nat) o', i < j → d j = true → ops.toList[j]? = some o' → ∀ t, o'.dst = some t → t ∉ o.looksAt ops) :
    ∀ t, t ∈ o.looksAt ops → ∀ x, (foldK ops.toList cs i σ).sl[t]? = some x → Rep E w .slot x (a.eval (.tmp t)) := fun t ht x hx => by
  refine hI.sl t x ?_
  rw [(foldK_sl hl t i (by omega)).2] at hx
  rw [slotN_congr (D' := fun j => decide (j < i)) _ fun j o' hj hne ho' => ?_, slotN_end _ (Nat.le_of_lt hi) fun j h1 h2 => by simp; omega,
    slotN_congr (D' := fun _ => true) i fun j o' hj hne => by simp [hj] at hne]
  · exact hx
  · by_cases hji : j < i
    · have hdj : d j = false := by simpa [hji] using hne
      exact fun e => hlo j o' hji hdj ho' t e ht
    · have hdj : d j = true := by simpa [hji] using hne
      have hne' : j ≠ i := fun e => by rw [e, hdi] at hdj; cases hdj
      exact fun e => hhi j o' (by omega) hdj ho' t e ht
theorem Inv.roots (hl : cs.length = ops.toList.length) (hI : Inv X M E0 w0 σ ops.toList cs d a w E) {n : Nat} {foot : List Nat} (hn : n ≤ ops.toList.length)
    (hlo : ∀ (j : Nat) c', j < n → d j = false → cs[j]? = some c' → ∀ u ∈ c'.us, u.1 ∉ foot) (hhi : ∀ (j : Nat) c', n ≤ j → d j = true → cs[j]? = some c' → ∀ u ∈ c'.us, u.1 ∉ foot) :
    ∀ r ∈ foot, ∀ R, getR (foldK ops.toList cs n σ).G r = some R → RootRel E w r R := fun r hr R hR' => by
  refine hI.rt r R ?_
  rw [foldK_rt hl r n hn] at hR'
  rw [rootN_congr (D' := fun j => decide (j < n)) _ fun j c' hj hne hc' => ?_, rootN_end _ hn fun j h1 h2 => by simp; omega,
    rootN_congr (D' := fun _ => true) n fun j o' hj hne => by simp [hj] at hne]
  · exact hR'
  · intro u hu e
    by_cases hji : j < n
    · exact hlo j c' hji (by simpa [hji] using hne) hc' u hu (e ▸ hr)
    · exact hhi j c' (by omega) (by simpa [hji] using hne) hc' u hu (e ▸ hr)

theorem Inv.step (hm : TabOK X.P X.T) (hR : Rgn X ops cs σ) {i : Nat} {o : Oper} {c : Rc} (hI : Inv X M E0 w0 σ ops.toList cs d a w E) (ho : ops.toList[i]? = some o) (hc : cs[i]? = some c) (hdi : d i = false)
    (hlo : ∀ (j : Nat) o' c', j < i → d j = false → ops.toList[j]? = some o' → cs[j]? = some c' → apart1 ops o' o c' c = true)
    (hhi : ∀ (j : Nat) o' c', i < j → d j = true → ops.toList[j]? = some o' → cs[j]? = some c' → apart1 ops o o' c c' = true)
    {K : Act → World → Prop} {Q : Exit → Act → World → Prop} (hK : ∀ a' w' E', Inv X M E0 w0 σ ops.toList cs (fun j => d j || j == i) a' w' E' → K a' w') : wpOp X.P ops Q i K a w := by
  have hi : i < ops.toList.length := (List.getElem?_eq_some_iff.1 ho).1
  have hcat : ∀ j, j < ops.toList.length → ∃ c', cs[j]? = some c' := fun j hj => ⟨_, List.getElem?_eq_getElem (by rw [hR.len]; exact hj)⟩
  obtain ⟨h, qs, hs, hq⟩ := hR.st i o c ho hc
  generalize hσi : foldK ops.toList cs i σ = σi at hs
  -- what it looks at is as it was
  have hslot : ∀ t, t ∈ o.looksAt ops → ∀ x, σi.sl[t]? = some x → Rep E w .slot x (a.eval (.tmp t)) := by
    subst hσi
    exact hI.slots hR.len hi hdi (fun j o' hj hdj ho' t ht => by
      obtain ⟨c', hc'⟩ := hcat j (by omega)
      exact (Oper.apart_spec (apart1_spec (hlo j o' c' hj hdj ho' hc')).1).1 t ht) fun j o' hj hdj ho' t ht => by
      obtain ⟨c', hc'⟩ := hcat j (List.getElem?_eq_some_iff.1 ho').1
      exact (Oper.apart_spec (apart1_spec (hhi j o' c' hj hdj ho' hc')).1).2.2 t ht
  have hroot : ∀ r ∈ c.foot, ∀ R, getR σi.G r = some R → RootRel E w r R := by
    subst hσi
    refine hI.roots hR.len (Nat.le_of_lt hi) (fun j c' hj hdj hc' u hu => ?_) fun j c' hj hdj hc' u hu => ?_
    · exact ((apart1_spec (hlo j _ c' hj hdj (List.getElem?_eq_getElem (by omega)) hc')).2.1 u hu).1
    · have hne' : j ≠ i := fun e => by rw [e, hdi] at hdj; cases hdj
      have hlt : j < ops.toList.length := by rw [← hR.len]; exact (List.getElem?_eq_some_iff.1 hc').1
      exact (apart1_spec (hhi j _ c' (by omega) hdj (List.getElem?_eq_getElem hlt) hc')).2.2 u hu
  have hsz : σi.sl.length = σ.sl.length := by rw [← hσi]; exact (foldK_sl hR.len 0 i (by omega)).1
  have hgl := foldK_len (σ := σ) hR.len i (by omega)
  rw [hσi] at hgl
  -- others that are done
  have hd1 : ∀ (j : Nat) o', i < j → d j = true → ops.toList[j]? = some o' → ∀ t, o.dst = some t → o'.dst ≠ some t := fun j o' hj hdj ho' t ht => by
    obtain ⟨c', hc'⟩ := hcat j (List.getElem?_eq_some_iff.1 ho').1
    exact (Oper.apart_spec (apart1_spec (hhi j o' c' hj hdj ho' hc')).1).2.1 t ht
  have hd2 : ∀ (j : Nat) c', i < j → d j = true → cs[j]? = some c' → ∀ u ∈ c.us, ∀ u' ∈ c'.us, u'.1 ≠ u.1 := fun j c' hj hdj hc' u hu u' hu' e => by
    have hlt : j < ops.toList.length := by rw [← hR.len]; exact (List.getElem?_eq_some_iff.1 hc').1
    exact ((apart1_spec (hhi j _ c' hj hdj (List.getElem?_eq_getElem hlt) hc')).2.1 u hu).2 u' hu' e.symm
  have hfresh : ∀ u ∈ c.us, σi.G.length ≤ u.1 → E.st u.1 = .fresh := fun u hu hge => by
    refine hI.fresh _ (Nat.le_trans hgl.1 hge) fun j c' hdj hc' u' hu' e => ?_
    rcases Nat.lt_trichotomy j i with hji | rfl | hji
    · have := hgl.2 j c' hji hc' u' hu'
      omega
    · rw [hdi] at hdj; cases hdj
    · exact hd2 j c' hji hdj hc' u hu u' hu' e
  exact hI.step0 hm hR.len ho hc hs hq hslot hroot (fun r R => getR_some) hsz hfresh hd1 hd2 hK

theorem Inv.listed (hm : TabOK X.P X.T) (hR : Rgn X ops cs σ) {Q : Exit → Act → World → Prop} (hQ : ∀ a' w' E', SR X M E0 w0 (foldK ops.toList cs ops.toList.length σ) a' w' E' → Q .normal a' w') :
    ∀ (k n : Nat) (a : Act) (w : World) (E : Env), n + k = ops.size → Inv X M E0 w0 σ ops.toList cs (fun j => decide (j < n)) a w E → wpOps X.P ops Q (List.range' n k) a w
  | 0, n, a, w, E, hn, hI => by
    simp only [List.range'_zero, wpOps]
    exact hQ _ _ E (hI.sr hR.len fun j hj => by simp at hj ⊢; omega)
  | k + 1, n, a, w, E, hn, hI => by
    rw [List.range'_succ, wpOps_cons]
    have hlt : n < ops.toList.length := by simp; omega
    have hlt' : n < cs.length := by rw [hR.len]; exact hlt
    refine hI.step hm hR (List.getElem?_eq_getElem hlt) (List.getElem?_eq_getElem hlt') (by simp) (fun j o' c' h1 h2 => by simp at h2; omega) (fun j o' c' h1 h2 => by simp at h2; omega) fun a' w' E' hI' => ?_
    refine Inv.listed hm hR hQ k (n + 1) a' w' E' (by omega) ?_
    have : (fun j => decide (j < n) || j == n) = fun j => decide (j < n + 1) := by
      funext j
      by_cases h : j = n
      · simp [h]
      · have : (j < n) = (j < n + 1) := propext ⟨fun h => by omega, fun h => by omega⟩
        simp [h, this]
    rw [← this]
    exact hI'

end
end Go.Proofs.Ytnfeelacifllmaa.Ab

namespace Go.Proofs.Ytnfeelacifllmaa.Ab

theorem afters_ok : ∀ {os : List Oper} {i : Nat}, afters i os = true → ∀ (k : Nat) o, os[k]? = some o → ∀ e ∈ o.after, Region.binds .any e = true → e.on < i + k
  | [], i, _, k, o, h => by simp at h
  | o :: os, i, h, k, o', ho => by
    simp only [afters, Bool.and_eq_true, List.all_eq_true] at h
    cases k with
    | zero =>
      simp only [List.getElem?_cons_zero, Option.some.injEq] at ho
      subst ho
      intro e he hb
      have := h.1 e (by simpa using he)
      simp [Nat.blt, hb] at this
      omega
    | succ k =>
      intro e he hb
      have := afters_ok h.2 k o' (by simpa using ho) e he hb
      omega

theorem befOf_ok {bs : List Nat} {o : Oper} {j : Nat} (h : (befOf bs o).testBit j = true) : ∃ e ∈ o.after, Region.binds .any e = true ∧ (j = e.on ∨ (bs.getD e.on 0).testBit j = true) := by
  unfold befOf at h
  have key : ∀ (l : List Edge) (s : Nat), (l.foldl (fun s e => if Region.binds .any e then s ||| 2 ^ e.on ||| bs.getD e.on 0 else s) s).testBit j = true → s.testBit j = true ∨ ∃ e ∈ l, Region.binds .any e = true ∧ (j = e.on ∨ (bs.getD e.on 0).testBit j = true) := by
    intro l
    induction l with
    | nil => intro s h; exact .inl h
    | cons e l ih =>
      intro s h
      simp only [List.foldl_cons] at h
      rcases ih _ h with h' | ⟨e', he', h'⟩
      · split at h'
        · rename_i hb
          rw [Nat.testBit_or, Nat.testBit_or, Bool.or_eq_true, Bool.or_eq_true] at h'
          rcases h' with (h' | h') | h'
          · exact .inl h'
          · refine .inr ⟨e, List.mem_cons_self .., hb, .inl ?_⟩
            rw [Nat.testBit_two_pow] at h'
            simpa using (of_decide_eq_true h').symm
          · exact .inr ⟨e, List.mem_cons_self .., hb, .inr h'⟩
        · exact .inl h'
      · exact .inr ⟨e', List.mem_cons_of_mem _ he', h'⟩
  rcases key _ _ h with h | ⟨e, he, h⟩
  · simp at h
  · exact ⟨e, by simpa using he, h⟩

theorem befs_ok : ∀ (os : List Oper) (bs : List Nat), (befs os bs).length = bs.length + os.length ∧ (∀ k, k < bs.length → (befs os bs)[k]? = bs[k]?) ∧
    ∀ (k : Nat) o, os[k]? = some o → (befs os bs)[bs.length + k]? = some (befOf ((befs os bs).take (bs.length + k)) o)
  | [], bs => ⟨rfl, fun _ _ => rfl, fun k o h => by simp at h⟩
  | o :: os, bs => by
    obtain ⟨h1, h2, h3⟩ := befs_ok os (bs ++ [befOf bs o])
    simp only [befs]
    refine ⟨by rw [h1]; simp; omega, fun k hk => ?_, fun k o' ho => ?_⟩
    · rw [h2 k (by simp; omega), List.getElem?_append_left hk]
    · cases k with
      | zero =>
        simp only [List.getElem?_cons_zero, Option.some.injEq] at ho
        subst ho
        rw [Nat.add_zero, h2 _ (by simp)]
        simp only [List.getElem?_append_right (Nat.le_refl _), Nat.sub_self, List.getElem?_cons_zero, Option.some.injEq]
        congr 1
        refine List.ext_getElem? fun m => ?_
        rw [List.getElem?_take]
        split
        · rename_i hm
          rw [h2 m (by simp; omega), List.getElem?_append_left hm]
        · rename_i hm
          rw [List.getElem?_eq_none (by omega)]
      | succ k =>
        have := h3 k o' (by simpa using ho)
        simp only [List.length_append, List.length_cons, List.length_nil] at this
        rw [show bs.length + (k + 1) = bs.length + (0 + 1) + k by omega]
        exact this

theorem safeWith_ok {ops : Array Oper} {bef : Nat} {o : Oper} {c : Rc} : ∀ {dos : List Oper} {dcs : List Rc} {i : Nat}, safeWith ops bef o c i dos dcs = true → ∀ (k : Nat) o' c', dos[k]? = some o' → dcs[k]? = some c' → bef.testBit (i + k) = true ∨ apart1 ops o' o c' c = true
  | [], _, i, _, k, o', c', h, _ => by simp at h
  | _ :: _, [], i, _, k, o', c', _, h => by simp at h
  | o1 :: dos, c1 :: dcs, i, h, k, o', c', ho, hc => by
    simp only [safeWith, Bool.and_eq_true, Bool.or_eq_true] at h
    cases k with
    | zero =>
      simp only [List.getElem?_cons_zero, Option.some.injEq] at ho hc
      subst ho hc
      exact h.1
    | succ k =>
      have := safeWith_ok h.2 k o' c' (by simpa using ho) (by simpa using hc)
      rwa [show i + 1 + k = i + (k + 1) by omega] at this

theorem safe_ok {ops : Array Oper} {bs : List Nat} : ∀ {os : List Oper} {cs : List Rc} {dos : List Oper} {dcs : List Rc}, dcs.length = dos.length → cs.length = os.length → safe ops bs dos dcs os cs = true →
    ∀ (i j : Nat) o c o' c', j < i → dos.length ≤ i → (dos ++ os)[i]? = some o → (dcs ++ cs)[i]? = some c → (dos ++ os)[j]? = some o' → (dcs ++ cs)[j]? = some c' → (∃ b, bs[i]? = some b ∧ b.testBit j = true) ∨ apart1 ops o' o c' c = true
  | [], _, dos, dcs, hl, hl', h, i, j, o, c, o', c', hj, hi, ho, _, _, _ => by
    simp at ho
    have := (List.getElem?_eq_some_iff.1 ho).1
    omega
  | _ :: _, [], dos, dcs, hl, hl', h, i, j, o, c, o', c', hj, hi, ho, _, _, _ => by simp at hl'
  | o1 :: os, c1 :: cs, dos, dcs, hl, hl', h, i, j, o, c, o', c', hj, hi, ho, hc, ho', hc' => by
    simp only [safe] at h
    split at h
    · rename_i b hb
      simp only [Bool.and_eq_true] at h
      by_cases he : i = dos.length
      · subst he
        rw [List.getElem?_append_right (Nat.le_refl _), Nat.sub_self] at ho
        rw [List.getElem?_append_right (by omega), hl, Nat.sub_self] at hc
        rw [List.getElem?_append_left hj] at ho'
        rw [List.getElem?_append_left (by omega)] at hc'
        simp only [List.getElem?_cons_zero, Option.some.injEq] at ho hc
        subst ho hc
        rcases safeWith_ok h.1 j o' c' ho' hc' with h1 | h1
        · rw [Nat.zero_add] at h1
          exact .inl ⟨b, hb, h1⟩
        · exact .inr h1
      · exact safe_ok (by simp [hl]) (by simpa using hl') h.2 i j o c o' c' hj (by simp; omega) (by simpa using ho) (by simpa using hc) (by simpa using ho') (by simpa using hc')
    · cases h

def unl (d : Nat → Bool) : Nat → Nat
  | 0 => 0
  | n + 1 => unl d n + if d n then 0 else 1

theorem unl_zero {d : Nat → Bool} : ∀ {n : Nat}, unl d n = 0 → ∀ j, j < n → d j = true
  | 0, _, j, h => by omega
  | n + 1, h, j, hj => by
    simp only [unl] at h
    by_cases he : j = n
    · subst he
      cases hd : d j with
      | true => rfl
      | false => simp [hd] at h
    · exact unl_zero (n := n) (by omega) j (by omega)

theorem unl_put {d : Nat → Bool} {i : Nat} (hd : d i = false) : ∀ {n : Nat}, unl (fun j => d j || j == i) n + (if i < n then 1 else 0) = unl d n
  | 0 => by simp [unl]
  | n + 1 => by
    have ih := unl_put hd (n := n)
    simp only [unl]
    by_cases he : i = n
    · subst he
      simp [hd] at ih ⊢
      exact ih
    · have h1 : (n == i) = false := by simp; omega
      simp only [h1, Bool.or_false]
      by_cases hlt : i < n
      · simp [hlt, show i < n + 1 by omega] at ih ⊢
        omega
      · simp [hlt, show ¬ i < n + 1 by omega] at ih ⊢
        omega

theorem unl_le {d : Nat → Bool} : ∀ n, unl d n ≤ n
  | 0 => Nat.le_refl _
  | n + 1 => by
    have := unl_le (d := d) n
    simp only [unl]
    split <;> omega

section
variable {X : Ctx} {M : Nat} {E0 E E' : Env} {w0 w w' : World} {σ : St} {a : Act} {ops : Array Oper} {cs : List Rc} {d : Nat → Bool}

theorem getD_b {listed : Array Bool} {j : Nat} (h : j < listed.size) (b : Bool) : listed.getD j b = listed.getD j false := by
  simp [h]

theorem Inv.any0 (hl : cs.length = ops.toList.length)
    (hst : ∀ (i : Nat) o c (d : Nat → Bool) (a : Act) (w : World) (E : Env), ops.toList[i]? = some o → cs[i]? = some c → d i = false →
      (∀ b, (befs ops.toList [])[i]? = some b → ∀ j, b.testBit j = true → d j = true) → (∀ (j b : Nat), d j = true → (befs ops.toList [])[j]? = some b → b.testBit i = true → False) →
      Inv X M E0 w0 σ ops.toList cs d a w E → ∀ {K : Act → World → Prop} {Q : Exit → Act → World → Prop}, (∀ a' w' E', Inv X M E0 w0 σ ops.toList cs (fun j => d j || j == i) a' w' E' → K a' w') → wpOp X.P ops Q i K a w)
    (haf : afters 0 ops.toList = true) {Q : Exit → Act → World → Prop} (hQ : ∀ a' w' E', SR X M E0 w0 (foldK ops.toList cs ops.toList.length σ) a' w' E' → Q .normal a' w') :
    ∀ (fuel : Nat) (listed : Array Bool) (a : Act) (w : World) (E : Env), listed.size = ops.size → unl (fun j => listed.getD j false) ops.size ≤ fuel →
      (∀ (i b : Nat), listed.getD i false = true → (befs ops.toList [])[i]? = some b → ∀ j, b.testBit j = true → listed.getD j false = true) →
      Inv X M E0 w0 σ ops.toList cs (fun j => listed.getD j false) a w E → wpAny X.P .any ops Q fuel listed a w := by
  have hbef : ∀ (i b : Nat) o, ops.toList[i]? = some o → (befs ops.toList [])[i]? = some b → ∀ j, b.testBit j = true → ∃ e ∈ o.after, Region.binds .any e = true ∧ (j = e.on ∨ ∃ b', (befs ops.toList [])[e.on]? = some b' ∧ b'.testBit j = true) := fun i b o ho hb j hj => by
    have h1 := (befs_ok ops.toList []).2.2 i o ho
    simp only [List.length_nil, Nat.zero_add] at h1
    rw [hb] at h1
    cases h1
    obtain ⟨e, he, hbd, h⟩ := befOf_ok hj
    refine ⟨e, he, hbd, h.imp id fun h => ?_⟩
    rw [List.getD_eq_getElem?_getD, List.getElem?_take] at h
    split at h
    · cases hx : (befs ops.toList [])[e.on]? with
      | none => simp [hx] at h
      | some b' => exact ⟨b', rfl, by simpa [hx] using h⟩
    · simp at h
  have hafter : ∀ (i : Nat) o, ops.toList[i]? = some o → ∀ e ∈ o.after, Region.binds .any e = true → e.on < i := fun i o ho e he hb => by simpa using afters_ok haf i o ho e he hb
  intro fuel
  induction fuel with
  | zero =>
    intro listed a w E hsz hu hcl hI
    have hall := unl_zero (Nat.le_zero.1 hu)
    refine ⟨?_, hQ _ _ E (hI.sr hl fun j hj => hall j (by simpa using hj))⟩
    refine List.eq_nil_iff_forall_not_mem.2 fun i hi => ?_
    obtain ⟨h0, o, ho, _⟩ := mem_ready.1 hi
    have hlt : i < ops.size := (Array.getElem?_eq_some_iff.1 ho).1
    rw [getD_b (by omega)] at h0
    rw [hall i hlt] at h0
    cases h0
  | succ fuel ih =>
    intro listed a w E hsz hu hcl hI
    refine ⟨fun hr => ?_, fun i hi => ?_⟩
    · have hall : ∀ n j, j < n → j < ops.size → listed.getD j false = true := by
        intro n
        induction n with
        | zero => intro j h; omega
        | succ n ihn =>
          intro j hj hjs
          cases hd : listed.getD j false with
          | true => rfl
          | false =>
            have ho : ops[j]? = some ops[j] := Array.getElem?_eq_getElem hjs
            have : j ∈ Region.ready .any ops listed := mem_ready.2 ⟨by rw [getD_b (by omega)]; exact hd, _, ho, fun e he hb => by
              have hlt := hafter j _ (by simp) e he hb
              exact ihn e.on (by omega) (by omega)⟩
            rw [hr] at this
            cases this
      exact hQ _ _ E (hI.sr hl fun j hj => hall (j + 1) j (by omega) (by simpa using hj))
    · obtain ⟨h0, o, ho, hready⟩ := mem_ready.1 hi
      have hlt : i < ops.size := (Array.getElem?_eq_some_iff.1 ho).1
      rw [getD_b (by omega)] at h0
      have ho' : ops.toList[i]? = some o := by simpa using ho
      have hltc : i < cs.length := by rw [hl]; simpa using hlt
      have hfut : ∀ b, (befs ops.toList [])[i]? = some b → ∀ j, b.testBit j = true → listed.getD j false = true := fun b hb j hj => by
        obtain ⟨e, he, hbd, h⟩ := hbef i b o ho' hb j hj
        have h1 := hready e he hbd
        rcases h with rfl | ⟨b', hb', hj'⟩
        · exact h1
        · exact hcl e.on b' h1 hb' j hj'
      refine hst i o _ _ a w E ho' (List.getElem?_eq_getElem hltc) h0 hfut (fun j b hd hb hbj => ?_) hI fun a' w' E' hI' => ?_
      · have := hcl j b hd hb i hbj
        rw [h0] at this
        cases this
      · have hfun : (fun j => (listed.setIfInBounds i true).getD j false) = fun j => listed.getD j false || j == i := by
          funext j
          by_cases hji : i = j
          · subst hji
            simp [hsz, hlt]
          · rw [getD_set_ne false hji]
            simp [show (j == i) = false by simp; omega]
        refine ih _ a' w' E' (by simpa using hsz) ?_ (fun k b hk hb j hj => ?_) (by rw [hfun]; exact hI')
        · rw [hfun]
          have := unl_put (d := fun j => listed.getD j false) (i := i) h0 (n := ops.size)
          rw [if_pos hlt] at this
          omega
        · by_cases hki : i = k
          · subst hki
            exact getD_set_true (hfut b hb j hj)
          · rw [getD_set_ne false hki] at hk
            exact getD_set_true (hcl k b hk hb j hj)
theorem Inv.any (hm : TabOK X.P X.T) (hR : Rgn X ops cs σ) (hs : safe ops (befs ops.toList []) [] [] ops.toList cs = true) (haf : afters 0 ops.toList = true) {Q : Exit → Act → World → Prop} (hQ : ∀ a' w' E', SR X M E0 w0 (foldK ops.toList cs ops.toList.length σ) a' w' E' → Q .normal a' w') :
    ∀ (fuel : Nat) (listed : Array Bool) (a : Act) (w : World) (E : Env), listed.size = ops.size → unl (fun j => listed.getD j false) ops.size ≤ fuel →
      (∀ (i b : Nat), listed.getD i false = true → (befs ops.toList [])[i]? = some b → ∀ j, b.testBit j = true → listed.getD j false = true) →
      Inv X M E0 w0 σ ops.toList cs (fun j => listed.getD j false) a w E → wpAny X.P .any ops Q fuel listed a w := by
  have hsafe : ∀ (i j : Nat) o c o' c', j < i → ops.toList[i]? = some o → cs[i]? = some c → ops.toList[j]? = some o' → cs[j]? = some c' → (∃ b, (befs ops.toList [])[i]? = some b ∧ b.testBit j = true) ∨ apart1 ops o' o c' c = true :=
    fun i j o c o' c' h1 h2 h3 h4 h5 => safe_ok rfl hR.len hs i j o c o' c' h1 (Nat.zero_le _) (by simpa using h2) (by simpa using h3) (by simpa using h4) (by simpa using h5)
  refine Inv.any0 hR.len (fun i o c d a w E ho hc h0 hf hp hI K Q hK => ?_) haf hQ
  refine hI.step hm hR ho hc h0 (fun j o' c' hj hd h1 h2 => ?_) (fun j o' c' hj hd h1 h2 => ?_) hK
  · rcases hsafe i j o c o' c' hj ho hc h1 h2 with ⟨b, hb, hbj⟩ | h
    · have := hf b hb j hbj
      rw [hd] at this
      cases this
    · exact h
  · rcases hsafe j i o' c' o c hj h1 h2 ho hc with ⟨b, hb, hbj⟩ | h
    · exact (hp j b hd hb hbj).elim
    · exact h

theorem Mv.drew : Mv E w E { w with drawn := w.drawn + 1 } :=
  ⟨Nat.le_refl _, fun b _ h => ⟨rfl, h⟩, fun r h => h, fun r h hal => ⟨hal, rfl, rfl, fun N h => h⟩⟩

theorem SR.drew (h : SR X M E0 w0 σ a w E) : SR X M E0 w0 σ a { w with drawn := w.drawn + 1 } E := by
  have hmv : Mv E w E { w with drawn := w.drawn + 1 } := .drew
  refine ⟨h.frm.trans ⟨Nat.le_refl _, rfl, rfl, ⟨rfl, drw_le (Nat.le_succ _)⟩, fun b _ h => ⟨rfl, h⟩, fun b _ h => ⟨rfl, h⟩, fun _ _ => rfl, fun b cs ty h => ⟨cs, h, rfl⟩, fun r hr hs => ⟨hs, fun N h => h⟩⟩, h.low, fun x hx => ⟨(h.gl x hx).1, (h.gl x hx).2.1.mv hmv trivial, (h.gl x hx).2.2⟩, h.df, h.sz, fun t x hx => (h.sl t x hx).mv hmv trivial, fun r R hR => (h.rt r R hR).mv hmv rfl (fun b q hb ho => ⟨rfl, ho⟩), h.fresh⟩

theorem region_ok (hm : TabOK X.P X.T) (hmix : X.P.follows .mixedOrders = true) {draw : Bool} {hs : List Hint} {ps : List Prop} {σ' : St} (h : region X ops draw σ hs = some (ps, σ')) (hp : AllP ps) (hS : SR X M E0 w0 σ a w E) {id : Nat} {Q : Exit → Act → World → Prop}
    (hQ : ∀ a' w' E', SR X M E0 w0 σ' a' w' E' → Q .normal a' w') : (Code.region id ops draw).wp X.P Q a w := by
  unfold region at h
  split at h
  · cases h
  · rename_i cs ps' σ2 hx
    cases draw with
    | false =>
      simp only [Option.some.injEq, Prod.mk.injEq] at h
      obtain ⟨rfl, rfl⟩ := h
      obtain ⟨hl, rfl, hst⟩ := execOps_ok hx hp
      refine wp_region ?_
      have := Inv.listed (Q := Q) hm ⟨hl, hst⟩ hQ ops.size 0 a w E (by omega) (by
        have : (fun j => decide (j < 0)) = fun _ => false := by funext j; simp
        rw [this]
        exact hS.inv)
      rwa [← List.range_eq_range'] at this
    | true =>
      simp only at h
      split at h
      · rename_i hc
        simp only [Bool.and_eq_true] at hc
        simp only [Option.some.injEq, Prod.mk.injEq] at h
        obtain ⟨rfl, rfl⟩ := h
        obtain ⟨hl, rfl, hst⟩ := execOps_ok hx hp
        refine wp_region_any hmix ?_
        have hnone : ∀ j, (Array.replicate ops.size false).getD j false = false := fun j => by
          by_cases hj : j < ops.size <;> simp [hj]
        refine Inv.any (Q := Q) hm ⟨hl, hst⟩ hc.1 hc.2 hQ ops.size _ a _ E (by simp) (unl_le _) (fun i b hi => by rw [hnone] at hi; cases hi) ?_
        have : (fun j => (Array.replicate ops.size false).getD j false) = fun _ => false := by funext j; exact hnone j
        rw [this]
        exact hS.drew.inv
      · cases h

end
end Go.Proofs.Ytnfeelacifllmaa.Ab
