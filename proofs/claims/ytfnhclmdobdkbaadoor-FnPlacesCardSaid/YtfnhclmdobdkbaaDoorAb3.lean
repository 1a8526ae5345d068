/- The steps of functions on plain data, part 3: no condition. -/
import Derived.Test.YtfnhclmdobdkbaaDoorAb2
import Derived.Scope
set_option linter.unusedVariables false
set_option linter.unusedSimpArgs false
namespace Go.Proofs.YtfnhclmdobdkbaaDoor.Ab

def Env.frz (E : Env) (r : Nat) : Env :=
  { adr := E.adr
    len := E.len
    ow := fun b => match E.ow b with
      | .own r' p => if r' = r then .fz else .own r' p
      | x => x
    st := fun k => if k = r then .fz else E.st k }

section
variable {X : Ctx} {E : Env} {w : World} {a : Act} {ρ : Operand → Option D} {g : Nat → Option Root} {nid r : Nat} {R : Root} {o : Oper}

theorem Rep.froz {m : Md} {d : D} {v : Value} (h : Rep E w m d v) : (m = .fz ∨ ∃ p, m = .own r p) → Rep (E.frz r) w .fz d v := by
  induction h with
  | int m k n => intro _; exact .int _ _ _
  | bool m b => intro _; exact .bool _ _
  | str m s => intro _; exact .str _ _
  | nil m => intro _; exact .nil _
  | undef m v h => intro hm; rcases hm with rfl | ⟨_, rfl⟩ <;> rcases h with h | ⟨_, _, h⟩ <;> cases h
  | hid m v _ _ h => intro hm; rcases hm with rfl | ⟨_, rfl⟩ <;> rcases h with h | ⟨_, _, h⟩ <;> cases h
  | anyb b => intro hm; rcases hm with hm | ⟨_, hm⟩ <;> cases hm
  | fn f caps vs hl h ih => intro hm; rcases hm with hm | ⟨_, hm⟩ <;> cases hm
  | agg cs vs hl h ih => intro hm; rcases hm with hm | ⟨_, hm⟩ <;> cases hm
  | tup cs vs hl h ih => intro hm; rcases hm with hm | ⟨_, hm⟩ <;> cases hm
  | flist m o wd n xs A cap us hm' hn hc hw ha h ih =>
    intro _
    refine .flist _ _ _ _ _ _ _ us (.inr (.inl rfl)) hn hc hw (fun h0 => ?_) (fun i j x c hx hj => ih i j x c hx hj (.inl rfl))
    obtain ⟨b, hb, h1, h2, h3⟩ := ha h0
    exact ⟨b, hb, by simp [Env.frz, h1], h2, h3⟩
  | olist m r' p wd n xs A cap us hm' hn hc hw ha h ih =>
    intro hm
    have hr : r' = r := by
      rcases hm with rfl | ⟨p', rfl⟩
      · rcases hm' with h | h <;> cases h
      · rcases hm' with h | h <;> cases h
        rfl
    subst hr
    refine .flist _ _ _ _ _ _ _ us (.inr (.inl rfl)) hn hc hw (fun h0 => ?_) (fun i j x c hx hj => ih i j x c hx hj (.inr ⟨_, rfl⟩))
    obtain ⟨b, cs, ty, hb, h1, h2, h3, h4, h5⟩ := ha (by omega)
    exact ⟨b, hb, by simp [Env.frz, h2], lt_of_get h3, h5⟩
  | ref m r wd vw v h' hs h => intro hm; rcases hm with rfl | ⟨_, rfl⟩ <;> rcases h' with h | ⟨_, _, h⟩ <;> cases h
  | ptr m r wd i j v h' hs h => intro hm; rcases hm with rfl | ⟨_, rfl⟩ <;> rcases h' with h | ⟨_, _, h⟩ <;> cases h
  | fptr m wd xs i j a us h' hw ha h ih => intro hm; rcases hm with rfl | ⟨_, rfl⟩ <;> rcases h' with h | ⟨_, _, h⟩ <;> cases h

theorem frz_shp (hst : E.st r = .own) {k N : Nat} (h : Shp E w k N) : Shp (E.frz r) w k N := by
  obtain ⟨h1, h2, h3⟩ := h
  refine ⟨h1, ?_, h3⟩
  by_cases hk : k = r
  · subst hk
    rw [if_pos hst] at h2
    simp [Env.frz, h2]
  · simp only [Env.frz, if_neg hk]
    rw [h2]
    by_cases ho : E.st k = .own
    · simp [ho, hk]
    · simp [ho]

theorem mv_frz (hst : E.st r = .own) : Mv E w (E.frz r) w where
  sz := Nat.le_refl _
  fz := fun b _ ho => ⟨rfl, by simp [Env.frz, ho]⟩
  st := fun k hk => by
    simp only [Env.frz]
    split
    · simp
    · exact hk
  ref := fun k hk hal => by
    refine ⟨?_, rfl, rfl, fun N hN => frz_shp hst hN⟩
    unfold Alive at hal ⊢
    simp only [Env.frz] at hal
    by_cases h : k = r
    · subst h; exact .inl hst
    · simpa [h] using hal

theorem lab_frz {k : Nat} (hk : k ≠ r) (p : Pth) : Lab E w (E.frz r) w k p k p := fun b q _ ho => ⟨rfl, by simp [Env.frz, ho, hk]⟩

theorem frz_root (hst : E.st r = .own) {k : Nat} (hk : k ≠ r) {K : Root} (h : RootRel E w k K) : RootRel (E.frz r) w k K :=
  h.mv (mv_frz hst) (by simp [Env.frz, hk]) (lab_frz hk [])

theorem frz_self (h : RootRel E w r R) (hf : R.fz = false) (hb : R.box = false) : RootRel (E.frz r) w r { R with fz := true } where
  st := by simp [Env.frz]
  len := h.len
  n := h.n
  wd := h.wd
  nobox := fun _ => hb
  shp := fun h0 => frz_shp (by rw [h.st, hf]; rfl) (h.shp h0)
  cell := fun i j x c hx hc => by
    obtain ⟨u, hu, hr⟩ := h.cell i j x c hx hc
    refine ⟨u, hu, ?_⟩
    simp only [Root.md, hf, hb] at hr ⊢
    exact hr.froz (.inr ⟨_, rfl⟩)

theorem frz_ext (h : RootRel E w r R) (hf : R.fz = false) (hb : R.box = false) : Ext E w (E.frz r) w [(r, some { R with fz := true })] := by
  have hst : E.st r = .own := by rw [h.st, hf]; rfl
  exact {
    sz := Nat.le_refl _
    os := rfl
    tape := rfl
    output := rfl
    fz := fun b _ ho => ⟨rfl, by simp [Env.frz, ho]⟩
    far := fun b _ ho => ⟨rfl, by simp [Env.frz, ho]⟩
    adr := fun _ _ => rfl
    keep := fun d v hd => hd.mv (mv_frz hst) (m' := .slot) trivial
    root := fun k K hk hK => frz_root hst (fun e => hk _ (List.mem_singleton.2 rfl) e.symm) hK
    new := fun k K hk => by
      simp only [List.mem_singleton, Prod.mk.injEq, Option.some.injEq] at hk
      obtain ⟨rfl, rfl⟩ := hk
      exact frz_self h hf hb
    fresh := fun k hk hs => by
      have hne : k ≠ r := fun e => hk _ (List.mem_singleton.2 rfl) e.symm
      simpa [Env.frz, hne] using hs
    shape := fun b cs ty hh => ⟨cs, hh, rfl⟩
    shp := fun k N _ _ hN => frz_shp hst hN
    back := fun k hk => by
      simp only [Env.frz] at hk
      split at hk
      · cases hk
      · exact .inr hk }

theorem Ext.then {E1 E2 : Env} {w1 w2 : World} {us1 us2 : List (Nat × Option Root)} (h : Ext E w E1 w1 us1) (k : Ext E1 w1 E2 w2 us2) (hd : ∀ u ∈ us1, ∀ u' ∈ us2, u'.1 ≠ u.1) (hs : ∀ r, E1.st r = .fresh → E.st r = .fresh) (hn : ∀ r, E.st r ≠ .fresh → E1.st r ≠ .fresh) : Ext E w E2 w2 (us2 ++ us1) where
  sz := Nat.le_trans h.sz k.sz
  os := k.os.trans h.os
  tape := k.tape.trans h.tape
  output := k.output.trans h.output
  fz := fun b hb ho => by
    obtain ⟨h1, h2⟩ := h.fz b hb ho
    obtain ⟨h3, h4⟩ := k.fz b (Nat.lt_of_lt_of_le hb h.sz) h2
    exact ⟨h3.trans h1, h4⟩
  far := fun b hb ho => by
    obtain ⟨h1, h2⟩ := h.far b hb ho
    obtain ⟨h3, h4⟩ := k.far b (Nat.lt_of_lt_of_le hb h.sz) h2
    exact ⟨h3.trans h1, h4⟩
  adr := fun r hr => (k.adr r (hn r hr)).trans (h.adr r hr)
  keep := fun d v hd => k.keep _ _ (h.keep _ _ hd)
  root := fun r R hr hR => k.root r R (fun u hu => hr u (List.mem_append_left _ hu)) (h.root r R (fun u hu => hr u (List.mem_append_right _ hu)) hR)
  new := fun r R hr => by
    rcases List.mem_append.1 hr with hr | hr
    · exact k.new r R hr
    · exact k.root r R (fun u hu => hd _ hr u hu) (h.new r R hr)
  fresh := fun r hr hf => k.fresh r (fun u hu => hr u (List.mem_append_left _ hu)) (h.fresh r (fun u hu => hr u (List.mem_append_right _ hu)) hf)
  shape := fun b cs ty hh => by
    obtain ⟨cs1, h1, h2⟩ := h.shape b cs ty hh
    obtain ⟨cs2, h3, h4⟩ := k.shape b cs1 ty h1
    exact ⟨cs2, h3, h4.trans h2⟩
  shp := fun r N h1 h2 hN => by
    have h3 : E1.st r = .own := by
      rcases k.back r h2 with h3 | h3
      · rw [hs r h3] at h1; cases h1
      · exact h3
    exact k.shp r N h3 h2 (h.shp r N h1 h3 hN)
  back := fun r hr => by
    rcases k.back r hr with h1 | h1
    · exact .inl (hs r h1)
    · exact h.back r h1

/-- A frozen root's row, as a list. -/
theorem RootRel.asList (h : RootRel E w r R) (hf : R.fz = true) (hb : R.box = false) {lo n cap : Nat} {A : Option Addr} (hn : lo + n ≤ R.n) (hc : n ≤ cap) (hA : 0 < cap → A = some ((E.adr r).add (lo * R.w)) ∧ Shp E w r ((lo + cap) * R.w)) :
    Rep E w .slot (.list false R.w n ((R.xs.drop lo).take n)) (.slice A n cap) := by
  have hlen : ((R.xs.drop lo).take n).length = n := by simp [h.n]; omega
  obtain ⟨us, hus⟩ : ∃ us : Nat → Nat → Value, ∀ (i j : Nat) x c, ((R.xs.drop lo).take n)[i]? = some x → x.cells[j]? = some c → w.cell? ((E.adr r).add ((lo + i) * R.w + j)) = some (us i j) ∧ Rep E w .fz c (us i j) := by
    refine ⟨fun i j => (w.cell? ((E.adr r).add ((lo + i) * R.w + j))).getD undef, fun i j x c hx hj => ?_⟩
    obtain ⟨u, hu, hr⟩ := h.cell (lo + i) j x c (take_drop_get hx).1 hj
    refine ⟨by simp [hu], ?_⟩
    simp only [hu, Option.getD_some]
    simpa [Root.md, hf] using hr
  refine .flist _ _ _ _ _ _ _ us (.inl rfl) hlen hc (fun x hx => h.wd x (List.mem_of_mem_drop (List.mem_of_mem_take hx))) (fun h0 => ?_) (fun i j x c hx hj => (hus i j x c hx hj).2)
  obtain ⟨hA1, _, hA2, cs, ty, hh, _⟩ := hA (by omega)
  refine ⟨_, hA1, ?_, ?_, fun i j x c hx hj => ?_⟩
  · rw [add_block, hA2, h.st, hf]
    rfl
  · rw [add_block]
    exact lt_of_get hh
  · rw [add_add, show lo * R.w + (i * R.w + j) = (lo + i) * R.w + j by rw [Nat.add_mul]; omega]
    exact (hus i j x c hx hj).1

theorem fz1_ok (h : RootRel E w r R) (hf : R.fz = true) (hb : R.box = false) {d : D} {v : Value} (hd : Rep E w .slot d v) : Rep E w .slot (fz1 r R d) v := by
  unfold fz1
  split
  · rename_i k wd vw
    split
    · rename_i hc
      simp only [Bool.and_eq_true] at hc
      have hk := Nat.eq_of_beq_eq_true hc.1
      have hw := Nat.eq_of_beq_eq_true hc.2
      subst hk hw
      obtain ⟨_, _, hal⟩ := hd.ref_inv
      obtain ⟨A, cap, rfl, h1, h2, h3⟩ := hal h.alive
      have hl : E.len k = R.n := h.len
      split
      · simp only [Vw, hl] at h1 h2 h3 ⊢
        have := h.asList hf hb (lo := 0) (n := R.n) (cap := cap) (A := A) (by omega) h1 (fun h0 => h3 h0)
        have e : (R.xs.drop 0).take R.n = R.xs := by rw [List.drop_zero]; exact List.take_of_length_le (by rw [h.n]; exact Nat.le_refl _)
        rw [e] at this
        exact this
      · rename_i lo n
        simp only [Vw, hl] at h1 h2 h3 ⊢
        exact h.asList hf hb h2 h1 (fun h0 => h3 h0)
    · exact hd
  · exact hd

theorem fzD_ok (h : RootRel E w r R) (hf : R.fz = true) (hb : R.box = false) {d : D} {v : Value} (hd : Rep E w .slot d v) : Rep E w .slot (fzD r R d) v := by
  unfold fzD
  split
  · rename_i cs
    obtain ⟨us, rfl, hl, hr⟩ := hd.agg_inv
    refine .agg _ _ (by simpa using hl) fun i c u hc hu => ?_
    simp only [List.getElem?_map, Option.map_eq_some_iff] at hc
    obtain ⟨c0, hc0, rfl⟩ := hc
    exact fz1_ok h hf hb (hr i c0 u hc0 hu)
  · exact fz1_ok h hf hb hd

theorem stepF_ok : ∀ (rs : List Nat) {E : Env} {g : Nat → Option Root} {ρ : Operand → Option D} {h : Hint} {out : Out}, Hyp X E w a ρ g nid → (∀ u ∈ out.us, nid ≤ u.1 → E.st u.1 = .fresh) → stepF X o g ρ nid h rs = some out → AllP out.ps → Does X o E w a out
  | [], E, g, ρ, h, out, H, hf, hs, hp => stepOp_ok H hf hs hp
  | r :: rs, E, g, ρ, h, out, H, hf, hs, hp => by
    simp only [stepF] at hs
    split at hs
    · rename_i R hR
      split at hs
      · cases hs
      · rename_i hfb
        simp only [Bool.or_eq_true, not_or, Bool.not_eq_true] at hfb
        split at hs
        · rename_i out1 hs1
          split at hs
          · cases hs
          · rename_i hany
            cases hs
            have hrt := H.rt r R hR
            have hst : E.st r = .own := by rw [hrt.st, hfb.1]; rfl
            have hx := frz_ext hrt hfb.1 hfb.2
            have hself := frz_self hrt hfb.1 hfb.2
            have hne : ∀ u ∈ out1.us, u.1 ≠ r := fun u hu e => hany (List.any_eq_true.2 ⟨u, hu, by rw [e]; exact Nat.beq_refl r⟩)
            have hlt := H.lt r R hR
            have H1 : Hyp X (E.frz r) w a (fun x => fzO r R (ρ x)) (putG g r { R with fz := true }) nid := by
              refine ⟨H.T, fun x d hd => ?_, fun k K hK => ?_, fun k K hK => ?_, fun x hx' => ⟨(H.gl x hx').1, hx.keep _ _ (H.gl x hx').2⟩⟩
              · cases hd0 : ρ x with
                | none => rw [hd0] at hd; cases hd
                | some d0 =>
                  rw [hd0] at hd
                  cases hd
                  exact fzD_ok (R := { R with fz := true }) hself rfl hfb.2 (hx.keep _ _ (H.op x d0 hd0))
              · unfold putG at hK
                split at hK
                · rename_i hk
                  have := Nat.eq_of_beq_eq_true hk
                  subst this
                  cases hK
                  exact hself
                · rename_i hk
                  exact frz_root hst (fun e => hk (by rw [e]; exact Nat.beq_refl r)) (H.rt k K hK)
              · unfold putG at hK
                split at hK
                · rename_i hk
                  rw [Nat.eq_of_beq_eq_true hk]
                  exact hlt
                · exact H.lt k K hK
            have hf1 : ∀ u ∈ out1.us, nid ≤ u.1 → (E.frz r).st u.1 = .fresh := fun u hu hge => by
              have := hf u (List.mem_append_left _ hu) hge
              simpa [Env.frz, hne u hu] using this
            have hdo := stepF_ok rs H1 hf1 hs1 hp
            intro K Q hK
            refine hdo K Q fun E' w' v hE hv => hK E' w' v ?_ hv
            refine hx.then hE (fun u hu u' hu' => ?_) (fun k hk => ?_) (fun k hk => ?_)
            · rw [List.mem_singleton] at hu
              subst hu
              exact hne u' hu'
            · simp only [Env.frz] at hk
              split at hk
              · cases hk
              · exact hk
            · simp only [Env.frz]
              split
              · simp
              · exact hk
        · cases hs
    · cases hs

/-- What a load comes to, if its cells are as said. -/
theorem load_ps {h : Hint} {out : Out} {t : Nat} {x : Operand} (ho : o.op = .load t x) (hs : stepOp X o ρ g nid h = some out) {ti : TI} (ht : look t X.T = some ti) :
    (∀ {r wd i j : Nat} {R : Root}, ρ x = some (.ptr r wd i j) → gw g r wd = some R → getCells R.xs i j ti.size = some h.xs → AllP out.ps) ∧
    (∀ {wd i j : Nat} {xs : List D}, ρ x = some (.fptr wd xs i j) → getCells xs i j ti.size = some h.xs → AllP out.ps) := by
  unfold stepOp at hs
  rw [ho] at hs
  simp only [ht] at hs
  constructor
  · intro r wd i j R hx hg hc
    simp only [hx, hg] at hs
    split at hs
    · split at hs
      · cases hs
        exact ⟨hc, trivial⟩
      · cases hs
    · cases hs
  · intro wd i j xs hx hc
    simp only [hx] at hs
    split at hs
    · split at hs
      · cases hs
        exact ⟨hc, trivial⟩
      · cases hs
    · cases hs

theorem getCells_of {xs cs : List D} {e : D} {i j n : Nat} (h : xs[i]? = some e) (hc : getCells [e] 0 j n = some cs) : getCells xs i j n = some cs := by
  unfold getCells at hc ⊢
  rw [h]
  simpa using hc

theorem Does.psv {out out' : Out} (h : Does X o E w a out) (hv : out'.v = out.v) (hu : out'.us = out.us) : Does X o E w a out' := fun K Q hK => h K Q fun E' w' v h1 h2 => hK E' w' v (by rw [hu]; exact h1) (by rw [hv]; exact h2)

theorem stepC_ok (H : Hyp X E w a ρ g nid) {h : Hint} {out : Out} (hf : ∀ u ∈ out.us, nid ≤ u.1 → E.st u.1 = .fresh) (hs : stepC X o g ρ nid h = some out) (hp : AllP out.ps) : Does X o E w a out := by
  unfold stepC at hs
  split at hs
  · rename_i t x ho
    split at hs
    · split at hs
      · rename_i ti ht
        split at hs
        · rename_i r wd i j hx
          split at hs
          · rename_i R hg
            split at hs
            · rename_i e he
              split at hs
              · rename_i cs hcs
                split at hs
                · rename_i out1 hs1
                  cases hs
                  have hps := (load_ps ho hs1 ht).1 hx hg (getCells_of hp.1 hcs)
                  exact (stepOp_ok (out := out1) H hf hs1 hps).psv rfl rfl
                · cases hs
              · cases hs
            · split at hs
              · rename_i cs hcs
                split at hs
                · rename_i out1 hs1
                  cases hs
                  have hps := (load_ps ho hs1 ht).1 hx hg hcs
                  exact (stepOp_ok (out := out1) H hf hs1 hps).psv rfl rfl
                · cases hs
              · cases hs
          · cases hs
        · rename_i wd xs i j hx
          split at hs
          · rename_i e he
            split at hs
            · rename_i cs hcs
              split at hs
              · rename_i out1 hs1
                cases hs
                have hps := (load_ps ho hs1 ht).2 hx (getCells_of hp.1 hcs)
                exact (stepOp_ok (out := out1) H hf hs1 hps).psv rfl rfl
              · cases hs
            · cases hs
          · split at hs
            · rename_i cs hcs
              split at hs
              · rename_i out1 hs1
                cases hs
                have hps := (load_ps ho hs1 ht).2 hx hcs
                exact (stepOp_ok (out := out1) H hf hs1 hps).psv rfl rfl
              · cases hs
            · cases hs
        · cases hs
      · cases hs
    · exact stepF_ok _ H hf hs hp
  · exact stepF_ok _ H hf hs hp

end
end Go.Proofs.YtfnhclmdobdkbaaDoor.Ab

namespace Go.Proofs.YtfnhclmdobdkbaaDoor.Ab

/-! ### Roots and slots that are set -/
theorem getR_nil (r : Nat) : getR [] r = none := rfl

theorem getR_putR : ∀ (G : List (Option Root)) (k : Nat) (x : Option Root) (r : Nat), getR (putR G k x) r = if k = r then x else getR G r
  | [], 0, x, 0 => by simp [putR, getR]
  | [], 0, x, r + 1 => by simp [putR, getR]
  | [], k + 1, x, 0 => by simp [putR, getR]
  | [], k + 1, x, r + 1 => by
    have := getR_putR [] k x r
    simp only [putR, getR, this, Nat.add_right_cancel_iff]
  | y :: G, 0, x, 0 => by simp [putR, getR]
  | y :: G, 0, x, r + 1 => by simp [putR, getR]
  | y :: G, k + 1, x, 0 => by simp [putR, getR]
  | y :: G, k + 1, x, r + 1 => by
    have := getR_putR G k x r
    simp only [putR, getR, this, Nat.add_right_cancel_iff]

theorem getR_some : ∀ {G : List (Option Root)} {r : Nat} {R : Root}, getR G r = some R → r < G.length
  | [], r, R, h => by simp [getR] at h
  | x :: G, 0, R, h => by simp
  | x :: G, r + 1, R, h => by
    have := getR_some (G := G) (r := r) (R := R) (by simpa [getR] using h)
    simp
    omega

theorem putR_len : ∀ (G : List (Option Root)) (k : Nat) (x : Option Root), G.length ≤ (putR G k x).length ∧ k < (putR G k x).length
  | [], 0, x => by simp [putR]
  | [], k + 1, x => by
    have := putR_len [] k x
    simp [putR] at this ⊢
    omega
  | y :: G, 0, x => by simp [putR]
  | y :: G, k + 1, x => by
    have := putR_len G k x
    simp [putR] at this ⊢
    omega

/-- A root, after these have been set. -/
def upd (r : Nat) : List (Nat × Option Root) → Option Root → Option Root
  | [], x => x
  | u :: us, x => upd r us (if u.1 = r then u.2 else x)

theorem getR_putAll (r : Nat) : ∀ (us : List (Nat × Option Root)) (G : List (Option Root)), getR (putAll G us) r = upd r us (getR G r)
  | [], G => rfl
  | u :: us, G => by rw [putAll, getR_putAll r us, getR_putR]; rfl

theorem putAll_len : ∀ (us : List (Nat × Option Root)) (G : List (Option Root)), G.length ≤ (putAll G us).length ∧ ∀ u ∈ us, u.1 < (putAll G us).length
  | [], G => ⟨Nat.le_refl _, (fun u h => by cases h)⟩
  | u :: us, G => by
    obtain ⟨h1, h2⟩ := putAll_len us (putR G u.1 u.2)
    obtain ⟨h3, h4⟩ := putR_len G u.1 u.2
    refine ⟨Nat.le_trans h3 h1, fun u' hu => ?_⟩
    rcases List.mem_cons.1 hu with rfl | hu
    · exact Nat.lt_of_lt_of_le h4 h1
    · exact h2 _ hu

theorem upd_none {r : Nat} : ∀ {us : List (Nat × Option Root)} {x : Option Root}, (∀ u ∈ us, u.1 ≠ r) → upd r us x = x
  | [], x, _ => rfl
  | u :: us, x, h => by
    have h1 : ¬ u.1 = r := h u (List.mem_cons_self ..)
    simp only [upd, h1, if_false]
    exact upd_none fun u' hu => h u' (List.mem_cons_of_mem _ hu)

theorem upd_some {r : Nat} {R : Root} : ∀ {us : List (Nat × Option Root)} {x : Option Root}, upd r us x = some R → (r, some R) ∈ us ∨ (∀ u ∈ us, u.1 ≠ r) ∧ x = some R
  | [], x, h => .inr ⟨(fun u hu => by cases hu), h⟩
  | u :: us, x, h => by
    simp only [upd] at h
    rcases upd_some h with h' | ⟨h1, h2⟩
    · exact .inl (List.mem_cons_of_mem _ h')
    · split at h2
      · rename_i he
        left
        obtain ⟨k, y⟩ := u
        simp only at he h2
        subst he h2
        exact List.mem_cons_self ..
      · rename_i he
        refine .inr ⟨fun u' hu => ?_, h2⟩
        rcases List.mem_cons.1 hu with rfl | hu
        · exact he
        · exact h1 _ hu

theorem putS_get (sl : List D) (dst : Option Nat) (v : D) (t : Nat) : (putS sl dst v)[t]? = if dst = some t ∧ t < sl.length then some v else sl[t]? := by
  cases dst with
  | none => simp [putS]
  | some k =>
    simp only [putS, List.getElem?_set, Option.some.injEq]
    by_cases hk : k = t
    · subst hk
      by_cases h : k < sl.length
      · simp [h]
      · simp [h, List.getElem?_eq_none (Nat.le_of_not_lt h)]
    · simp [hk]

theorem putS_len (sl : List D) (dst : Option Nat) (v : D) : (putS sl dst v).length = sl.length := by
  cases dst <;> simp [putS]

/-! ### The states on the way -/
def stepS (σ : St) (o : Oper) (c : Rc) : St := ⟨putS σ.sl o.dst c.v, putAll σ.G c.us⟩
def foldK : List Oper → List Rc → Nat → St → St
  | o :: os, c :: cs, k + 1, σ => foldK os cs k (stepS σ o c)
  | _, _, _, σ => σ

theorem foldK_zero (os : List Oper) (cs : List Rc) (σ : St) : foldK os cs 0 σ = σ := by
  unfold foldK
  split
  · rename_i h; cases h
  · rfl

theorem foldK_succ : ∀ {os : List Oper} {cs : List Rc} {k : Nat} {σ : St} {o : Oper} {c : Rc}, os[k]? = some o → cs[k]? = some c → foldK os cs (k + 1) σ = stepS (foldK os cs k σ) o c
  | [], _, k, σ, o, c, h, _ => by simp at h
  | _ :: _, [], k, σ, o, c, _, h => by simp at h
  | o' :: os, c' :: cs, 0, σ, o, c, h1, h2 => by
    simp only [List.getElem?_cons_zero, Option.some.injEq] at h1 h2
    subst h1 h2
    rw [foldK, foldK_zero, foldK_zero]
  | o' :: os, c' :: cs, k + 1, σ, o, c, h1, h2 => by
    rw [foldK, foldK]
    exact foldK_succ (by simpa using h1) (by simpa using h2)

theorem execOps_ok {X : Ctx} {ops : Array Oper} : ∀ {os : List Oper} {i : Nat} {σ σ' : St} {hs : List Hint} {cs : List Rc} {ps : List Prop}, execOps X ops os i σ hs = some (cs, ps, σ') → AllP ps →
    cs.length = os.length ∧ σ' = foldK os cs os.length σ ∧
    ∀ (k : Nat) o c, os[k]? = some o → cs[k]? = some c → ∃ h qs, step1 X ops o h (foldK os cs k σ).sl (getR (foldK os cs k σ).G) (foldK os cs k σ).G.length = some (qs, c) ∧ AllP qs
  | [], i, σ, σ', hs, cs, ps, h, _ => by
    simp only [execOps, Option.some.injEq, Prod.mk.injEq] at h
    obtain ⟨rfl, rfl, rfl⟩ := h
    exact ⟨rfl, rfl, fun k o c h => by simp at h⟩
  | o :: os, i, σ, σ', hs, cs, ps, h, hp => by
    simp only [execOps] at h
    split at h
    · cases h
    · rename_i qs c h1
      split at h
      · cases h
      · rename_i cs' qs' σ2 h2
        cases h
        obtain ⟨hp1, hp2⟩ := AllP_append hp
        obtain ⟨hl, he, hk⟩ := execOps_ok h2 hp2
        refine ⟨by simp [hl], by rw [List.length_cons, foldK]; exact he, fun k o' c' ho hc => ?_⟩
        cases k with
        | zero =>
          simp only [List.getElem?_cons_zero, Option.some.injEq] at ho hc
          subst ho hc
          rw [foldK_zero]
          exact ⟨_, qs, h1, hp1⟩
        | succ k =>
          rw [foldK]
          exact hk k o' c' (by simpa using ho) (by simpa using hc)

/-- What stands in slot t, if the first n of D have been done. -/
def slotN (os : List Oper) (cs : List Rc) (σ : St) (D : Nat → Bool) (t : Nat) : Nat → Option Ab.D
  | 0 => σ.sl[t]?
  | n + 1 => match os[n]?, cs[n]? with
    | some o, some c => if D n = true ∧ o.dst = some t ∧ t < σ.sl.length then some c.v else slotN os cs σ D t n
    | _, _ => slotN os cs σ D t n
def rootN (os : List Oper) (cs : List Rc) (σ : St) (D : Nat → Bool) (r : Nat) : Nat → Option Root
  | 0 => getR σ.G r
  | n + 1 => match cs[n]? with
    | some c => if D n = true then upd r c.us (rootN os cs σ D r n) else rootN os cs σ D r n
    | none => rootN os cs σ D r n

section
variable {os : List Oper} {cs : List Rc} {σ : St}

theorem foldK_sl (hl : cs.length = os.length) (t : Nat) : ∀ n, n ≤ os.length → (foldK os cs n σ).sl.length = σ.sl.length ∧ (foldK os cs n σ).sl[t]? = slotN os cs σ (fun _ => true) t n
  | 0, _ => by rw [foldK_zero]; exact ⟨rfl, rfl⟩
  | n + 1, h => by
    obtain ⟨h1, h2⟩ := foldK_sl hl t n (by omega)
    have ho := List.getElem?_eq_getElem (show n < os.length by omega)
    have hc := List.getElem?_eq_getElem (show n < cs.length by omega)
    rw [foldK_succ ho hc]
    simp only [stepS, slotN, ho, hc, true_and]
    rw [putS_len, putS_get, h1, h2]
    exact ⟨rfl, rfl⟩

theorem foldK_rt (hl : cs.length = os.length) (r : Nat) : ∀ n, n ≤ os.length → getR (foldK os cs n σ).G r = rootN os cs σ (fun _ => true) r n
  | 0, _ => by rw [foldK_zero]; rfl
  | n + 1, h => by
    have h2 := foldK_rt hl r n (by omega)
    have ho := List.getElem?_eq_getElem (show n < os.length by omega)
    have hc := List.getElem?_eq_getElem (show n < cs.length by omega)
    rw [foldK_succ ho hc]
    simp only [stepS, rootN, hc, if_true]
    rw [getR_putAll, h2]

theorem foldK_len (hl : cs.length = os.length) : ∀ n, n ≤ os.length → σ.G.length ≤ (foldK os cs n σ).G.length ∧ ∀ (j : Nat) c, j < n → cs[j]? = some c → ∀ u ∈ c.us, u.1 < (foldK os cs n σ).G.length
  | 0, _ => by rw [foldK_zero]; exact ⟨Nat.le_refl _, fun j c h => by omega⟩
  | n + 1, h => by
    obtain ⟨h1, h2⟩ := foldK_len hl n (by omega)
    have ho := List.getElem?_eq_getElem (show n < os.length by omega)
    have hc := List.getElem?_eq_getElem (show n < cs.length by omega)
    rw [foldK_succ ho hc]
    obtain ⟨h3, h4⟩ := putAll_len cs[n].us (foldK os cs n σ).G
    refine ⟨Nat.le_trans h1 h3, fun j c hj hcj u hu => ?_⟩
    by_cases hjn : j = n
    · subst hjn
      rw [hc] at hcj
      cases hcj
      exact h4 u hu
    · exact Nat.lt_of_lt_of_le (h2 j c (by omega) hcj u hu) h3

end

/-- Two sets of which the difference does not touch slot t. -/
theorem slotN_congr {os : List Oper} {cs : List Rc} {σ : St} {D D' : Nat → Bool} {t : Nat} : ∀ n, (∀ (j : Nat) o, j < n → D j ≠ D' j → os[j]? = some o → o.dst ≠ some t) → slotN os cs σ D t n = slotN os cs σ D' t n
  | 0, _ => rfl
  | n + 1, h => by
    have ih := slotN_congr (cs := cs) (σ := σ) n fun j o hj => h j o (by omega)
    simp only [slotN]
    split
    · rename_i o c ho hc
      by_cases hd : D n = D' n
      · rw [hd, ih]
      · have := h n o (by omega) hd ho
        rw [if_neg (by simp [this]), if_neg (by simp [this]), ih]
    · exact ih

theorem rootN_congr {os : List Oper} {cs : List Rc} {σ : St} {D D' : Nat → Bool} {r : Nat} : ∀ n, (∀ (j : Nat) c, j < n → D j ≠ D' j → cs[j]? = some c → ∀ u ∈ c.us, u.1 ≠ r) → rootN os cs σ D r n = rootN os cs σ D' r n
  | 0, _ => rfl
  | n + 1, h => by
    have ih := rootN_congr (os := os) (σ := σ) n fun j o hj => h j o (by omega)
    simp only [rootN]
    split
    · rename_i c hc
      by_cases hd : D n = D' n
      · rw [hd, ih]
      · have := h n c (by omega) hd hc
        rw [upd_none this, upd_none this, ite_self, ite_self, ih]
    · exact ih

/-- From some place on nothing is done. -/
theorem slotN_end {os : List Oper} {cs : List Rc} {σ : St} {D : Nat → Bool} {t m : Nat} : ∀ n, m ≤ n → (∀ j, m ≤ j → j < n → D j = false) → slotN os cs σ D t n = slotN os cs σ D t m
  | 0, h, _ => by rw [Nat.le_zero.1 h]
  | n + 1, h, hd => by
    by_cases he : m = n + 1
    · rw [he]
    · have ih := slotN_end (os := os) (cs := cs) (σ := σ) (t := t) n (by omega) fun j h1 h2 => hd j h1 (by omega)
      simp only [slotN]
      split
      · rw [if_neg (by simp [hd n (by omega) (by omega)]), ih]
      · exact ih

theorem rootN_end {os : List Oper} {cs : List Rc} {σ : St} {D : Nat → Bool} {r m : Nat} : ∀ n, m ≤ n → (∀ j, m ≤ j → j < n → D j = false) → rootN os cs σ D r n = rootN os cs σ D r m
  | 0, h, _ => by rw [Nat.le_zero.1 h]
  | n + 1, h, hd => by
    by_cases he : m = n + 1
    · rw [he]
    · have ih := rootN_end (os := os) (cs := cs) (σ := σ) (r := r) n (by omega) fun j h1 h2 => hd j h1 (by omega)
      simp only [rootN]
      split
      · rw [if_neg (by simp [hd n (by omega) (by omega)]), ih]
      · exact ih

/-- One more is done: the last that touches it. -/
theorem slotN_put {os : List Oper} {cs : List Rc} {σ : St} {D : Nat → Bool} {t i : Nat} {o : Oper} {c : Rc} (ho : os[i]? = some o) (hc : cs[i]? = some c) : ∀ n, i < n → (o.dst = some t → ∀ (j : Nat) o', i < j → j < n → D j = true → os[j]? = some o' → o'.dst ≠ some t) →
    slotN os cs σ (fun j => D j || j == i) t n = if o.dst = some t ∧ t < σ.sl.length then some c.v else slotN os cs σ (fun j => D j || j == i) t n
  | 0, h, _ => by omega
  | n + 1, h, hd => by
    split
    · rename_i hdst
      by_cases he : i = n
      · subst he
        simp only [slotN, ho, hc]
        rw [if_pos (by simp [hdst])]
      · have ih := slotN_put (σ := σ) (D := D) (t := t) ho hc n (by omega) fun h0 j o' h1 h2 => hd h0 j o' h1 (by omega)
        rw [if_pos hdst] at ih
        simp only [slotN]
        split
        · rename_i o' c' ho' hc'
          by_cases hD : D n = true
          · have := hd hdst.1 n o' (by omega) (by omega) hD ho'
            rw [if_neg (by simp [this])]
            exact ih
          · rw [if_neg (by simp [hD]; intro h; omega)]
            exact ih
        · exact ih
    · rfl

theorem slotN_skip {os : List Oper} {cs : List Rc} {σ : St} {D : Nat → Bool} {t i : Nat} {o : Oper} (ho : os[i]? = some o) (hne : ¬ (o.dst = some t ∧ t < σ.sl.length)) : ∀ n, slotN os cs σ (fun j => D j || j == i) t n = slotN os cs σ D t n
  | 0 => rfl
  | n + 1 => by
    have ih := slotN_skip (cs := cs) (D := D) ho hne n
    simp only [slotN]
    split
    · rename_i o' c' ho' hc'
      by_cases he : n = i
      · subst he
        rw [ho] at ho'
        cases ho'
        rw [if_neg (fun h => hne h.2), if_neg (fun h => hne h.2), ih]
      · simp only [show (n == i) = false by simp [he], Bool.or_false, ih]
    · exact ih

theorem rootN_skip {os : List Oper} {cs : List Rc} {σ : St} {D : Nat → Bool} {r i : Nat} {c : Rc} (hc : cs[i]? = some c) (hne : ∀ u ∈ c.us, u.1 ≠ r) : ∀ n, rootN os cs σ (fun j => D j || j == i) r n = rootN os cs σ D r n
  | 0 => rfl
  | n + 1 => by
    have ih := rootN_skip (os := os) (σ := σ) (D := D) hc hne n
    simp only [rootN]
    split
    · rename_i c' hc'
      by_cases he : n = i
      · subst he
        rw [hc] at hc'
        cases hc'
        simp only [beq_self_eq_true, Bool.or_true, if_true]
        rw [upd_none hne, upd_none hne, ite_self, ih]
      · simp only [show (n == i) = false by simp [he], Bool.or_false, ih]
    · exact ih

/-- A root of which the last that touched it is this one. -/
theorem rootN_put {os : List Oper} {cs : List Rc} {σ : St} {D : Nat → Bool} {r i : Nat} {c : Rc} {R : Root} (hc : cs[i]? = some c) (hin : ∃ u ∈ c.us, u.1 = r) : ∀ n, i < n → (∀ (j : Nat) c', i < j → j < n → D j = true → cs[j]? = some c' → ∀ u ∈ c'.us, u.1 ≠ r) →
    rootN os cs σ (fun j => D j || j == i) r n = some R → (r, some R) ∈ c.us
  | 0, h, _, _ => by omega
  | n + 1, h, hd, hR => by
    by_cases he : i = n
    · subst he
      simp only [rootN, hc] at hR
      rw [if_pos (by simp)] at hR
      rcases upd_some hR with h' | ⟨h1, _⟩
      · exact h'
      · obtain ⟨u, hu, hur⟩ := hin
        exact absurd hur (h1 u hu)
    · refine rootN_put (os := os) (σ := σ) (D := D) hc hin n (by omega) (fun j c' h1 h2 => hd j c' h1 (by omega)) ?_
      simp only [rootN] at hR
      split at hR
      · rename_i c' hc'
        by_cases hD : D n = true
        · rw [upd_none (hd n c' (by omega) (by omega) hD hc'), ite_self] at hR
          exact hR
        · rw [if_neg (by simp [hD]; omega)] at hR
          exact hR
      · exact hR

end Go.Proofs.YtfnhclmdobdkbaaDoor.Ab

namespace Go.Proofs.YtfnhclmdobdkbaaDoor.Ab

/-! ### A step looks at its operands alone -/
section
variable {ρ ρ' : Operand → Option D}

theorem vals_congr : ∀ {xs : List Operand}, (∀ x ∈ xs, ρ x = ρ' x) → vals ρ xs = vals ρ' xs
  | [], _ => rfl
  | x :: xs, h => by
    simp only [vals, h x (List.mem_cons_self ..), vals_congr fun y hy => h y (List.mem_cons_of_mem _ hy)]

theorem fillD_congr {g : Nat → Option Root} {fs : List FI} : ∀ {ps : List (Nat × Operand)} {cs : List D}, (∀ x ∈ ps, ρ x.2 = ρ' x.2) → fillD g fs ρ cs ps = fillD g fs ρ' cs ps
  | [], _, _ => rfl
  | (i, x) :: ps, cs, h => by
    have h1 := h (i, x) (List.mem_cons_self ..)
    simp only at h1
    simp only [fillD, h1]
    split
    · split
      · exact fillD_congr fun y hy => h y (List.mem_cons_of_mem _ hy)
      · rfl
    · rfl

theorem litD_congr {g : Nat → Option Root} {w : Nat} : ∀ {ps : List (Nat × Operand)} {k : Nat}, (∀ x ∈ ps, ρ x.2 = ρ' x.2) → litD g ρ w k ps = litD g ρ' w k ps
  | [], _, _ => rfl
  | (i, x) :: ps, k, h => by
    have h1 := h (i, x) (List.mem_cons_self ..)
    simp only at h1
    simp only [litD, h1, litD_congr fun y hy => h y (List.mem_cons_of_mem _ hy)]

theorem optV_congr {x : Option Operand} (h : ∀ y, x = some y → ρ y = ρ' y) : optV ρ x = optV ρ' x := by
  cases x with
  | none => rfl
  | some y => simp only [optV, h y rfl]

theorem stepOp_congr {X : Ctx} {o : Oper} {g : Nat → Option Root} {nid : Nat} {hh : Hint} (h : ∀ x ∈ o.op.operands, ρ x = ρ' x) : stepOp X o ρ g nid hh = stepOp X o ρ' g nid hh := by
  obtain ⟨dst, op, type, pos, after, guard⟩ := o
  cases op <;> simp only [Op.operands] at h <;> simp only [stepOp]
  case build t ps =>
    have e : ∀ fs zs, fillD g fs ρ zs ps.toList = fillD g fs ρ' zs ps.toList := fun fs zs => fillD_congr fun x hx => h x.2 (by simp; exact ⟨x.1, by simpa using hx⟩)
    simp only [e]
  case buildSlice t n ps =>
    have e : ∀ w, litD g ρ w 0 ps.toList = litD g ρ' w 0 ps.toList := fun w => litD_congr fun x hx => h x.2 (by simp; exact ⟨x.1, by simpa using hx⟩)
    simp only [e]
  case makeFunc fn first captured =>
    cases fn <;> simp only [stepOp]
    rw [vals_congr (xs := captured.toList) fun x hx => h x (by simp at hx; simp [hx])]
  case slice t x lo hi mx =>
    cases mx <;> simp only [stepOp]
    rw [optV_congr (x := lo) fun y hy => h y (by subst hy; simp), optV_congr (x := hi) fun y hy => h y (by subst hy; simp), h x (by simp)]
  case call c =>
    have ha : ∀ x ∈ c.args.toList, ρ x = ρ' x := fun x hx => h x (by simp at hx; simp [Call.operands, hx])
    cases hc : c.callee with
    | value f =>
      simp only [hc]
      rw [h f (by simp [Call.operands, hc]), vals_congr ha]
    | invoke r m => rfl
    | builtin b =>
      have hmm : ∀ mn, stepOp.minmax mn c ρ = stepOp.minmax mn c ρ' := fun mn => by
        unfold stepOp.minmax
        rw [vals_congr ha]
      cases b <;> first | rfl | exact hmm _ | skip
      case len =>
        dsimp only
        split
        · rename_i ti x h1 h2
          rw [ha x (by rw [h2]; exact List.mem_cons_self ..)]
        · rfl
      case append =>
        dsimp only
        split
        · rename_i t t' s x h1 h2
          rw [ha s (by rw [h2]; simp), ha x (by rw [h2]; simp)]
        · rfl
  all_goals first
    | rfl
    | (simp at h; simp only [h]; done)

theorem stepF_congr {X : Ctx} {o : Oper} {nid : Nat} {hh : Hint} : ∀ (rs : List Nat) {g : Nat → Option Root} {ρ ρ' : Operand → Option D}, (∀ x ∈ o.op.operands, ρ x = ρ' x) → stepF X o g ρ nid hh rs = stepF X o g ρ' nid hh rs
  | [], g, ρ, ρ', h => stepOp_congr h
  | r :: rs, g, ρ, ρ', h => by
    simp only [stepF]
    split
    · rename_i R _
      rw [stepF_congr rs (ρ := fun x => fzO r R (ρ x)) (ρ' := fun x => fzO r R (ρ' x)) fun x hx => by rw [h x hx]]
    · rfl

theorem stepC_congr {X : Ctx} {o : Oper} {nid : Nat} {hh : Hint} {g : Nat → Option Root} (h : ∀ x ∈ o.op.operands, ρ x = ρ' x) : stepC X o g ρ nid hh = stepC X o g ρ' nid hh := by
  unfold stepC
  split
  · rename_i t x ho
    rw [h x (by rw [ho]; simp [Op.operands]), stepF_congr _ h]
    have e : ∀ h' : Hint, stepOp X o ρ g nid h' = stepOp X o ρ' g nid h' := fun h' => stepOp_congr h
    simp only [e]
  · exact stepF_congr _ h

end

structure SR (X : Ctx) (M : Nat) (E0 : Env) (w0 : World) (σ : St) (a : Act) (w : World) (E : Env) : Prop where
  frm : Frm M E0 w0 E w
  low : ∀ r, r < M → E.st r ≠ .fresh
  gl : GlOK X.gl E w
  df : a.defers = []
  sz : a.tmps.size = σ.sl.length
  sl : ∀ (t : Nat) d, σ.sl[t]? = some d → Rep E w .slot d (a.eval (.tmp t))
  rt : ∀ r R, getR σ.G r = some R → RootRel E w r R
  fresh : ∀ r, σ.G.length ≤ r → E.st r = .fresh

/-- A region, run as it is listed. -/
structure Rgn (X : Ctx) (ops : Array Oper) (cs : List Rc) (σ : St) : Prop where
  len : cs.length = ops.toList.length
  st : ∀ (k : Nat) o c, ops.toList[k]? = some o → cs[k]? = some c → ∃ h qs, step1 X ops o h (foldK ops.toList cs k σ).sl (getR (foldK ops.toList cs k σ).G) (foldK ops.toList cs k σ).G.length = some (qs, c) ∧ AllP qs

/-- When those of D have been done. -/
structure Inv (X : Ctx) (M : Nat) (E0 : Env) (w0 : World) (σ : St) (os : List Oper) (cs : List Rc) (d : Nat → Bool) (a : Act) (w : World) (E : Env) : Prop where
  frm : Frm M E0 w0 E w
  low : ∀ r, r < M → E.st r ≠ .fresh
  gl : GlOK X.gl E w
  df : a.defers = []
  sz : a.tmps.size = σ.sl.length
  sl : ∀ (t : Nat) x, slotN os cs σ d t os.length = some x → Rep E w .slot x (a.eval (.tmp t))
  rt : ∀ r R, rootN os cs σ d r os.length = some R → RootRel E w r R
  fresh : ∀ r, σ.G.length ≤ r → (∀ (j : Nat) c, d j = true → cs[j]? = some c → ∀ u ∈ c.us, u.1 ≠ r) → E.st r = .fresh

section
variable {X : Ctx} {M : Nat} {E0 E E' : Env} {w0 w w' : World} {σ : St} {a : Act} {ops : Array Oper} {os : List Oper} {cs : List Rc} {d : Nat → Bool}

theorem slotN_none {os : List Oper} {cs : List Rc} {σ : St} {t : Nat} : ∀ n, slotN os cs σ (fun _ => false) t n = σ.sl[t]?
  | 0 => rfl
  | n + 1 => by
    simp only [slotN]
    split
    · rw [if_neg (by simp), slotN_none n]
    · exact slotN_none n

theorem rootN_none {os : List Oper} {cs : List Rc} {σ : St} {r : Nat} : ∀ n, rootN os cs σ (fun _ => false) r n = getR σ.G r
  | 0 => rfl
  | n + 1 => by
    simp only [rootN]
    split
    · rw [if_neg (by simp), rootN_none n]
    · exact rootN_none n

theorem SR.inv (h : SR X M E0 w0 σ a w E) : Inv X M E0 w0 σ os cs (fun _ => false) a w E :=
  ⟨h.frm, h.low, h.gl, h.df, h.sz, fun t x hx => h.sl t x (by rw [slotN_none] at hx; exact hx), fun r R hR => h.rt r R (by rw [rootN_none] at hR; exact hR), fun r hr _ => h.fresh r hr⟩

theorem Inv.sr (h : Inv X M E0 w0 σ os cs d a w E) (hl : cs.length = os.length) (hd : ∀ j, j < os.length → d j = true) : SR X M E0 w0 (foldK os cs os.length σ) a w E := by
  refine ⟨h.frm, h.low, h.gl, h.df, by rw [(foldK_sl hl 0 _ (Nat.le_refl _)).1]; exact h.sz, fun t x hx => h.sl t x ?_, fun r R hR => h.rt r R ?_, fun r hr => h.fresh r ?_ ?_⟩
  · rw [(foldK_sl hl t _ (Nat.le_refl _)).2] at hx
    rw [slotN_congr (D' := fun _ => true) _ fun j o hj hne => absurd (hd j hj) hne]
    exact hx
  · rw [foldK_rt hl r _ (Nat.le_refl _)] at hR
    rw [rootN_congr (D' := fun _ => true) _ fun j o hj hne => absurd (hd j hj) hne]
    exact hR
  · exact Nat.le_trans (foldK_len hl _ (Nat.le_refl _)).1 hr
  · intro j c hj hc u hu
    have hlt : j < os.length := by rw [← hl]; exact (List.getElem?_eq_some_iff.1 hc).1
    have := (foldK_len (σ := σ) hl _ (Nat.le_refl _)).2 j c hlt hc u hu
    omega

theorem Ext.st_ne {us : List (Nat × Option Root)} (h : Ext E w E' w' us) {r : Nat} (hr : E.st r ≠ .fresh) : E'.st r ≠ .fresh := by
  have h1 : Rep E w .slot (.ptr r 0 0 0) (.pointer (some ((E.adr r).add (0 * 0 + 0)))) := .ptr _ _ _ _ _ _ (.inl rfl) hr fun _ => rfl
  exact (h.keep _ _ h1).ptr_inv.2.1

theorem Ext.gl {us : List (Nat × Option Root)} (h : Ext E w E' w' us) {gl : List (Nat × D)} (hg : GlOK gl E w) : GlOK gl E' w' := fun x hx => ⟨(hg x hx).1, h.keep _ _ (hg x hx).2⟩

theorem Ext.frm {us : List (Nat × Option Root)} (h : Ext E w E' w' us) (hlow : ∀ r, r < M → E.st r ≠ .fresh) : Frm M E w E' w' where
  sz := h.sz
  os := h.os
  tape := h.tape
  output := h.output
  fz := h.fz
  far := h.far
  adr := fun r hr => h.adr r (hlow r hr)
  shape := h.shape
  shp := fun r hr hst => by
    have h1 : E.st r = .own := (h.back r hst).resolve_left (hlow r hr)
    exact ⟨h1, fun N hN => h.shp r N h1 hst hN⟩

theorem apart1_spec {o o' : Oper} {c c' : Rc} (h : apart1 ops o o' c c' = true) : o.apart ops o' = true ∧ (∀ u ∈ c.us, u.1 ∉ c'.foot ∧ ∀ u' ∈ c'.us, u.1 ≠ u'.1) ∧ ∀ u ∈ c'.us, u.1 ∉ c.foot := by
  simp only [apart1, Bool.and_eq_true, List.all_eq_true, Bool.not_eq_true'] at h
  obtain ⟨⟨h1, h2⟩, h3⟩ := h
  refine ⟨h1, fun u hu => ⟨distinct_any (h2 u hu).1, fun u' hu' e => ?_⟩, fun u hu => distinct_any (h3 u hu)⟩
  have := List.any_eq_false.1 (h2 u hu).2 u' hu'
  rw [e] at this
  simp [Nat.beq_refl] at this

theorem glOf_mem : ∀ {gl : List (Nat × D)} {g : Nat} {x : D}, glOf gl g = some x → (g, x) ∈ gl
  | [], g, x, h => by simp [glOf] at h
  | (k, y) :: gl, g, x, h => by
    simp only [glOf] at h
    split at h
    · rename_i hk
      cases h
      rw [Nat.eq_of_beq_eq_true hk]
      exact List.mem_cons_self ..
    · exact List.mem_cons_of_mem _ (glOf_mem h)

theorem put_eval (a : Act) (dst : Option Tmp) (v : Value) (t : Nat) : (a.put dst v).eval (.tmp t) = if dst = some t ∧ t < a.tmps.size then v else a.eval (.tmp t) := by
  cases dst with
  | none => simp [Act.put]
  | some k =>
    simp only [Act.put, Act.eval, Option.some.injEq]
    by_cases hk : k = t
    · subst hk
      by_cases h : k < a.tmps.size
      · simp [h]
      · simp [h]
    · simp [hk]

theorem put_size (a : Act) (dst : Option Tmp) (v : Value) : (a.put dst v).tmps.size = a.tmps.size := by cases dst <;> simp [Act.put]
theorem put_df (a : Act) (dst : Option Tmp) (v : Value) : (a.put dst v).defers = a.defers := by cases dst <;> rfl

/-- When one more has been done. -/
theorem Inv.put {i : Nat} {o : Oper} {c : Rc} {v : Value} (hI : Inv X M E0 w0 σ os cs d a w E) (hl : cs.length = os.length) (ho : os[i]? = some o) (hc : cs[i]? = some c)
    (hx : Ext E w E' w' c.us) (hv : Rep E' w' .slot c.v v)
    (hd1 : ∀ (j : Nat) o', i < j → d j = true → os[j]? = some o' → ∀ t, o.dst = some t → o'.dst ≠ some t)
    (hd2 : ∀ (j : Nat) c', i < j → d j = true → cs[j]? = some c' → ∀ u ∈ c.us, ∀ u' ∈ c'.us, u'.1 ≠ u.1) :
    Inv X M E0 w0 σ os cs (fun j => d j || j == i) (a.put o.dst v) w' E' := by
  have hi : i < os.length := (List.getElem?_eq_some_iff.1 ho).1
  refine ⟨hI.frm.trans (hx.frm hI.low), fun r hr => hx.st_ne (hI.low r hr), hx.gl hI.gl, by rw [put_df]; exact hI.df, by rw [put_size]; exact hI.sz, fun t x h => ?_, fun r R h => ?_, fun r hr h => ?_⟩
  · rw [put_eval, hI.sz]
    rw [slotN_put ho hc _ hi fun h0 j o' h1 h2 h3 h4 => hd1 j o' h1 h3 h4 t h0] at h
    split at h
    · rename_i hcnd
      cases h
      rw [if_pos hcnd]
      exact hv
    · rename_i hcnd
      rw [if_neg hcnd]
      rw [slotN_skip ho hcnd] at h
      exact hx.keep _ _ (hI.sl t x h)
  · by_cases hin : ∃ u ∈ c.us, u.1 = r
    · refine hx.new r R (rootN_put hc hin _ hi (fun j c' h1 h2 h3 h4 u' hu' => ?_) h)
      obtain ⟨u, hu, rfl⟩ := hin
      exact hd2 j c' h1 h3 h4 u hu u' hu'
    · have hne : ∀ u ∈ c.us, u.1 ≠ r := fun u hu e => hin ⟨u, hu, e⟩
      rw [rootN_skip hc hne] at h
      exact hx.root r R hne (hI.rt r R h)
  · refine hx.fresh r (fun u hu => h i c (by simp) hc u hu) (hI.fresh r hr fun j c' hj hc' => h j c' (by simp [hj]) hc')

end
end Go.Proofs.YtfnhclmdobdkbaaDoor.Ab

namespace Go.Proofs.YtfnhclmdobdkbaaDoor.Ab

section
variable {X : Ctx} {M : Nat} {E0 E E' : Env} {w0 w w' : World} {σ : St} {a : Act} {ops : Array Oper} {cs : List Rc} {d : Nat → Bool}

theorem only_some {foot : List Nat} {g : Nat → Option Root} {r : Nat} {R : Root} (h : only foot g r = some R) : r ∈ foot ∧ g r = some R := by
  unfold only at h
  split at h
  · rename_i hc
    obtain ⟨x, hx, he⟩ := List.any_eq_true.1 hc
    rw [Nat.eq_of_beq_eq_true he]
    exact ⟨hx, (Nat.eq_of_beq_eq_true he) ▸ h⟩
  · cases h

open Classical in
theorem Inv.step (hm : TabOK X.P X.T) (hR : Rgn X ops cs σ) {i : Nat} {o : Oper} {c : Rc} (hI : Inv X M E0 w0 σ ops.toList cs d a w E) (ho : ops.toList[i]? = some o) (hc : cs[i]? = some c) (hdi : d i = false)
    (hlo : ∀ (j : Nat) o' c', j < i → d j = false → ops.toList[j]? = some o' → cs[j]? = some c' → apart1 ops o' o c' c = true)
    (hhi : ∀ (j : Nat) o' c', i < j → d j = true → ops.toList[j]? = some o' → cs[j]? = some c' → apart1 ops o o' c c' = true)
    {K : Act → World → Prop} {Q : Exit → Act → World → Prop} (hK : ∀ a' w' E', Inv X M E0 w0 σ ops.toList cs (fun j => d j || j == i) a' w' E' → K a' w') : wpOp X.P ops Q i K a w := by
  have hi : i < ops.toList.length := (List.getElem?_eq_some_iff.1 ho).1
  have hcat : ∀ j, j < ops.toList.length → ∃ c', cs[j]? = some c' := fun j hj => ⟨_, List.getElem?_eq_getElem (by rw [hR.len]; exact hj)⟩
  obtain ⟨h, qs, hs, hq⟩ := hR.st i o c ho hc
  generalize hσi : foldK ops.toList cs i σ = σi at hs
  -- what it looks at is as it was
  have hslot : ∀ t, t ∈ o.looksAt ops → ∀ x, σi.sl[t]? = some x → Rep E w .slot x (a.eval (.tmp t)) := fun t ht x hx => by
    refine hI.sl t x ?_
    rw [← hσi, (foldK_sl hR.len t i (by omega)).2] at hx
    rw [slotN_congr (D' := fun j => decide (j < i)) _ fun j o' hj hne ho' => ?_, slotN_end _ (Nat.le_of_lt hi) fun j h1 h2 => by simp; omega,
      slotN_congr (D' := fun _ => true) i fun j o' hj hne => by simp [hj] at hne]
    · exact hx
    · obtain ⟨c', hc'⟩ := hcat j hj
      by_cases hji : j < i
      · have hdj : d j = false := by simpa [hji] using hne
        have := (Oper.apart_spec (apart1_spec (hlo j o' c' hji hdj ho' hc')).1).1
        intro e
        exact this t e ht
      · have hdj : d j = true := by simpa [hji] using hne
        have hne' : j ≠ i := fun e => by rw [e, hdi] at hdj; cases hdj
        have := (Oper.apart_spec (apart1_spec (hhi j o' c' (by omega) hdj ho' hc')).1).2.2
        intro e
        exact this t e ht
  have hroot : ∀ r ∈ c.foot, ∀ R, getR σi.G r = some R → RootRel E w r R := fun r hr R hR' => by
    refine hI.rt r R ?_
    rw [← hσi, foldK_rt hR.len r i (by omega)] at hR'
    rw [rootN_congr (D' := fun j => decide (j < i)) _ fun j c' hj hne hc' => ?_, rootN_end _ (Nat.le_of_lt hi) fun j h1 h2 => by simp; omega,
      rootN_congr (D' := fun _ => true) i fun j o' hj hne => by simp [hj] at hne]
    · exact hR'
    · have ho' := List.getElem?_eq_getElem hj
      by_cases hji : j < i
      · have hdj : d j = false := by simpa [hji] using hne
        intro u hu e
        exact ((apart1_spec (hlo j _ c' hji hdj ho' hc')).2.1 u hu).1 (e ▸ hr)
      · have hdj : d j = true := by simpa [hji] using hne
        have hne' : j ≠ i := fun e => by rw [e, hdi] at hdj; cases hdj
        intro u hu e
        exact (apart1_spec (hhi j _ c' (by omega) hdj ho' hc')).2.2 u hu (e ▸ hr)
  have hsz : σi.sl.length = σ.sl.length := by rw [← hσi]; exact (foldK_sl hR.len 0 i (by omega)).1
  have hgl := foldK_len (σ := σ) hR.len i (by omega)
  rw [hσi] at hgl
  -- others that are done
  have hd1 : ∀ (j : Nat) o', i < j → d j = true → ops.toList[j]? = some o' → ∀ t, o.dst = some t → o'.dst ≠ some t := fun j o' hj hdj ho' t ht => by
    obtain ⟨c', hc'⟩ := hcat j (List.getElem?_eq_some_iff.1 ho').1
    exact (Oper.apart_spec (apart1_spec (hhi j o' c' hj hdj ho' hc')).1).2.1 t ht
  have hd2 : ∀ (j : Nat) c', i < j → d j = true → cs[j]? = some c' → ∀ u ∈ c.us, ∀ u' ∈ c'.us, u'.1 ≠ u.1 := fun j c' hj hdj hc' u hu u' hu' e => by
    have hlt : j < ops.toList.length := by rw [← hR.len]; exact (List.getElem?_eq_some_iff.1 hc').1
    exact ((apart1_spec (hhi j _ c' hj hdj (List.getElem?_eq_getElem hlt) hc')).2.1 u hu).2 u' hu' e.symm
  have ho2 : ops[i]? = some o := by simpa using ho
  unfold wpOp
  rw [ho2]
  simp only
  -- is it wanted
  have hwant : ∀ b, wants ops σi.sl o = some b → Region.wanted o (yielded ops a.tmps) = b := fun b hb => by
    unfold wants at hb
    unfold Region.wanted
    split at hb
    · rename_i hg
      rw [hg]
      simpa using hb
    · rename_i j want hg
      rw [hg]
      simp only
      split at hb
      · rename_i o' ho'
        split at hb
        · rename_i t ht
          split at hb
          · rename_i b' hb'
            have hlook : t ∈ o.looksAt ops := by
              have ho'' : ops[j]? = some o' := by simpa using ho'
              simp [Oper.looksAt, hg, ho'', ht]
            have hr := (hslot t hlook _ hb').bool_inv
            have hlt : t < a.tmps.size := by
              rw [hI.sz, ← hsz]
              exact (List.getElem?_eq_some_iff.1 hb').1
            have hy : yielded ops a.tmps j = some b' := by
              have ho'' : ops[j]? = some o' := by simpa using ho'
              have hv : a.tmps[t]? = some (.bool b') := by
                simp only [Act.eval] at hr
                rw [Array.getD_eq_getD_getElem?, Array.getElem?_eq_getElem hlt] at hr
                rw [Array.getElem?_eq_getElem hlt]
                simpa using hr
              simp [yielded, ho'', ht, hv]
            rw [hy]
            cases b' <;> cases want <;> simp at hb ⊢ <;> exact hb
          · rename_i vs hb'
            cases hb
            have hlook : t ∈ o.looksAt ops := by
              have ho'' : ops[j]? = some o' := by simpa using ho'
              simp [Oper.looksAt, hg, ho'', ht]
            obtain ⟨us, hr, _⟩ := (hslot t hlook _ hb').tup_inv
            have hlt : t < a.tmps.size := by
              rw [hI.sz, ← hsz]
              exact (List.getElem?_eq_some_iff.1 hb').1
            have hy : yielded ops a.tmps j = none := by
              have ho'' : ops[j]? = some o' := by simpa using ho'
              have hv : a.tmps[t]? = some (.tuple us) := by
                simp only [Act.eval] at hr
                rw [Array.getD_eq_getD_getElem?, Array.getElem?_eq_getElem hlt] at hr
                rw [Array.getElem?_eq_getElem hlt]
                simpa using hr
              simp [yielded, ho'', ht, hv]
            rw [hy]
            rfl
          · cases hb
        · cases hb
      · cases hb
  unfold step1 at hs
  split at hs
  · cases hs
  · -- it is passed over
    rename_i hw
    simp only [Option.some.injEq, Prod.mk.injEq] at hs
    obtain ⟨rfl, rfl⟩ := hs
    rw [hwant _ hw, if_neg (by simp)]
    exact hK _ _ E (hI.put hR.len ho hc (Ext.refl E w) (.tup [] #[] rfl fun i c u hc => by simp at hc) hd1 hd2)
  · rename_i hw
    rw [hwant _ hw, if_pos rfl]
    left
    dsimp only at hs
    split at hs
    · rename_i out hout
      split at hs
      · rename_i ps x hdec
        simp only [Option.some.injEq, Prod.mk.injEq] at hs
        obtain ⟨rfl, rfl⟩ := hs
        obtain ⟨hq1, hq2⟩ := AllP_append hq
        simp only at hroot hd2
        have hout' : stepC X o (only (footOf X σi.sl o h) (getR σi.G)) (fun x => if x ∈ o.op.operands then ev X σi.sl x else none) σi.G.length h = some out := by
          rw [← hout]
          exact stepC_congr fun x hx => by rw [if_pos hx]
        have hH : Hyp X E w a (fun x => if x ∈ o.op.operands then ev X σi.sl x else none) (only (footOf X σi.sl o h) (getR σi.G)) σi.G.length := by
          refine ⟨hm, fun x y hy => ?_, fun r R hr => ?_, fun r R hr => getR_some (only_some hr).2, hI.gl⟩
          · split at hy
            · rename_i hx
              cases x with
              | tmp t =>
                refine hslot t ?_ y hy
                exact List.mem_append_left _ (List.mem_filterMap.2 ⟨.tmp t, by simpa using hx, rfl⟩)
              | const v =>
                simp only [ev, Option.some.injEq] at hy
                subst hy
                exact .ofVal v
              | global k => exact (hI.gl _ (glOf_mem hy)).2
              | func f =>
                simp only [ev, Option.some.injEq] at hy
                subst hy
                exact .fn _ _ _ rfl fun i c u hc => by simp at hc
            · cases hy
          · obtain ⟨h1, h2⟩ := only_some hr
            exact hroot r h1 R h2
        have hfresh : ∀ u ∈ out.us, σi.G.length ≤ u.1 → E.st u.1 = .fresh := fun u hu hge => by
          refine hI.fresh _ (Nat.le_trans hgl.1 hge) fun j c' hdj hc' u' hu' e => ?_
          rcases Nat.lt_trichotomy j i with hji | rfl | hji
          · have := hgl.2 j c' hji hc' u' hu'
            omega
          · rw [hdi] at hdj; cases hdj
          · exact hd2 j c' hji hdj hc' u hu u' hu' e
        refine stepC_ok hH hfresh hout' hq1 K Q fun E' w' v hx hv => hK _ _ E' (hI.put hR.len ho hc hx ?_ hd1 hd2)
        unfold decD at hdec
        split at hdec
        · cases hdec
          exact hv
        · rename_i b e _ hov
          simp only [Option.some.injEq, Prod.mk.injEq] at hdec
          obtain ⟨rfl, rfl⟩ := hdec
          obtain ⟨rfl, _⟩ := hq2
          rw [← hov]
          exact hv
        · cases hdec
      · cases hs
    · cases hs

/-! ### The order in which they are listed -/
theorem Inv.listed (hm : TabOK X.P X.T) (hR : Rgn X ops cs σ) {Q : Exit → Act → World → Prop} (hQ : ∀ a' w' E', SR X M E0 w0 (foldK ops.toList cs ops.toList.length σ) a' w' E' → Q .normal a' w') :
    ∀ (k n : Nat) (a : Act) (w : World) (E : Env), n + k = ops.size → Inv X M E0 w0 σ ops.toList cs (fun j => decide (j < n)) a w E → wpOps X.P ops Q (List.range' n k) a w
  | 0, n, a, w, E, hn, hI => by
    simp only [List.range'_zero, wpOps]
    exact hQ _ _ E (hI.sr hR.len fun j hj => by simp at hj ⊢; omega)
  | k + 1, n, a, w, E, hn, hI => by
    rw [List.range'_succ, wpOps_cons]
    have hlt : n < ops.toList.length := by simp; omega
    have hlt' : n < cs.length := by rw [hR.len]; exact hlt
    refine hI.step hm hR (List.getElem?_eq_getElem hlt) (List.getElem?_eq_getElem hlt') (by simp) (fun j o' c' h1 h2 => by simp at h2; omega) (fun j o' c' h1 h2 => by simp at h2; omega) fun a' w' E' hI' => ?_
    refine Inv.listed hm hR hQ k (n + 1) a' w' E' (by omega) ?_
    have : (fun j => decide (j < n) || j == n) = fun j => decide (j < n + 1) := by
      funext j
      by_cases h : j = n
      · simp [h]
      · have : (j < n) = (j < n + 1) := propext ⟨fun h => by omega, fun h => by omega⟩
        simp [h, this]
    rw [← this]
    exact hI'

end
end Go.Proofs.YtfnhclmdobdkbaaDoor.Ab

namespace Go.Proofs.YtfnhclmdobdkbaaDoor.Ab

theorem afters_ok : ∀ {os : List Oper} {i : Nat}, afters i os = true → ∀ (k : Nat) o, os[k]? = some o → ∀ e ∈ o.after, Region.binds .any e = true → e.on < i + k
  | [], i, _, k, o, h => by simp at h
  | o :: os, i, h, k, o', ho => by
    simp only [afters, Bool.and_eq_true, List.all_eq_true] at h
    cases k with
    | zero =>
      simp only [List.getElem?_cons_zero, Option.some.injEq] at ho
      subst ho
      intro e he hb
      have := h.1 e (by simpa using he)
      simp [Nat.blt, hb] at this
      omega
    | succ k =>
      intro e he hb
      have := afters_ok h.2 k o' (by simpa using ho) e he hb
      omega

theorem befOf_ok {bs : List Nat} {o : Oper} {j : Nat} (h : (befOf bs o).testBit j = true) : ∃ e ∈ o.after, Region.binds .any e = true ∧ (j = e.on ∨ (bs.getD e.on 0).testBit j = true) := by
  unfold befOf at h
  have key : ∀ (l : List Edge) (s : Nat), (l.foldl (fun s e => if Region.binds .any e then s ||| 2 ^ e.on ||| bs.getD e.on 0 else s) s).testBit j = true → s.testBit j = true ∨ ∃ e ∈ l, Region.binds .any e = true ∧ (j = e.on ∨ (bs.getD e.on 0).testBit j = true) := by
    intro l
    induction l with
    | nil => intro s h; exact .inl h
    | cons e l ih =>
      intro s h
      simp only [List.foldl_cons] at h
      rcases ih _ h with h' | ⟨e', he', h'⟩
      · split at h'
        · rename_i hb
          rw [Nat.testBit_or, Nat.testBit_or, Bool.or_eq_true, Bool.or_eq_true] at h'
          rcases h' with (h' | h') | h'
          · exact .inl h'
          · refine .inr ⟨e, List.mem_cons_self .., hb, .inl ?_⟩
            rw [Nat.testBit_two_pow] at h'
            simpa using (of_decide_eq_true h').symm
          · exact .inr ⟨e, List.mem_cons_self .., hb, .inr h'⟩
        · exact .inl h'
      · exact .inr ⟨e', List.mem_cons_of_mem _ he', h'⟩
  rcases key _ _ h with h | ⟨e, he, h⟩
  · simp at h
  · exact ⟨e, by simpa using he, h⟩

theorem befs_ok : ∀ (os : List Oper) (bs : List Nat), (befs os bs).length = bs.length + os.length ∧ (∀ k, k < bs.length → (befs os bs)[k]? = bs[k]?) ∧
    ∀ (k : Nat) o, os[k]? = some o → (befs os bs)[bs.length + k]? = some (befOf ((befs os bs).take (bs.length + k)) o)
  | [], bs => ⟨rfl, fun _ _ => rfl, fun k o h => by simp at h⟩
  | o :: os, bs => by
    obtain ⟨h1, h2, h3⟩ := befs_ok os (bs ++ [befOf bs o])
    simp only [befs]
    refine ⟨by rw [h1]; simp; omega, fun k hk => ?_, fun k o' ho => ?_⟩
    · rw [h2 k (by simp; omega), List.getElem?_append_left hk]
    · cases k with
      | zero =>
        simp only [List.getElem?_cons_zero, Option.some.injEq] at ho
        subst ho
        rw [Nat.add_zero, h2 _ (by simp)]
        simp only [List.getElem?_append_right (Nat.le_refl _), Nat.sub_self, List.getElem?_cons_zero, Option.some.injEq]
        congr 1
        refine List.ext_getElem? fun m => ?_
        rw [List.getElem?_take]
        split
        · rename_i hm
          rw [h2 m (by simp; omega), List.getElem?_append_left hm]
        · rename_i hm
          rw [List.getElem?_eq_none (by omega)]
      | succ k =>
        have := h3 k o' (by simpa using ho)
        simp only [List.length_append, List.length_cons, List.length_nil] at this
        rw [show bs.length + (k + 1) = bs.length + (0 + 1) + k by omega]
        exact this

theorem safeWith_ok {ops : Array Oper} {bef : Nat} {o : Oper} {c : Rc} : ∀ {dos : List Oper} {dcs : List Rc} {i : Nat}, safeWith ops bef o c i dos dcs = true → ∀ (k : Nat) o' c', dos[k]? = some o' → dcs[k]? = some c' → bef.testBit (i + k) = true ∨ apart1 ops o' o c' c = true
  | [], _, i, _, k, o', c', h, _ => by simp at h
  | _ :: _, [], i, _, k, o', c', _, h => by simp at h
  | o1 :: dos, c1 :: dcs, i, h, k, o', c', ho, hc => by
    simp only [safeWith, Bool.and_eq_true, Bool.or_eq_true] at h
    cases k with
    | zero =>
      simp only [List.getElem?_cons_zero, Option.some.injEq] at ho hc
      subst ho hc
      exact h.1
    | succ k =>
      have := safeWith_ok h.2 k o' c' (by simpa using ho) (by simpa using hc)
      rwa [show i + 1 + k = i + (k + 1) by omega] at this

theorem safe_ok {ops : Array Oper} {bs : List Nat} : ∀ {os : List Oper} {cs : List Rc} {dos : List Oper} {dcs : List Rc}, dcs.length = dos.length → cs.length = os.length → safe ops bs dos dcs os cs = true →
    ∀ (i j : Nat) o c o' c', j < i → dos.length ≤ i → (dos ++ os)[i]? = some o → (dcs ++ cs)[i]? = some c → (dos ++ os)[j]? = some o' → (dcs ++ cs)[j]? = some c' → (∃ b, bs[i]? = some b ∧ b.testBit j = true) ∨ apart1 ops o' o c' c = true
  | [], _, dos, dcs, hl, hl', h, i, j, o, c, o', c', hj, hi, ho, _, _, _ => by
    simp at ho
    have := (List.getElem?_eq_some_iff.1 ho).1
    omega
  | _ :: _, [], dos, dcs, hl, hl', h, i, j, o, c, o', c', hj, hi, ho, _, _, _ => by simp at hl'
  | o1 :: os, c1 :: cs, dos, dcs, hl, hl', h, i, j, o, c, o', c', hj, hi, ho, hc, ho', hc' => by
    simp only [safe] at h
    split at h
    · rename_i b hb
      simp only [Bool.and_eq_true] at h
      by_cases he : i = dos.length
      · subst he
        rw [List.getElem?_append_right (Nat.le_refl _), Nat.sub_self] at ho
        rw [List.getElem?_append_right (by omega), hl, Nat.sub_self] at hc
        rw [List.getElem?_append_left hj] at ho'
        rw [List.getElem?_append_left (by omega)] at hc'
        simp only [List.getElem?_cons_zero, Option.some.injEq] at ho hc
        subst ho hc
        rcases safeWith_ok h.1 j o' c' ho' hc' with h1 | h1
        · rw [Nat.zero_add] at h1
          exact .inl ⟨b, hb, h1⟩
        · exact .inr h1
      · exact safe_ok (by simp [hl]) (by simpa using hl') h.2 i j o c o' c' hj (by simp; omega) (by simpa using ho) (by simpa using hc) (by simpa using ho') (by simpa using hc')
    · cases h

def unl (d : Nat → Bool) : Nat → Nat
  | 0 => 0
  | n + 1 => unl d n + if d n then 0 else 1

theorem unl_zero {d : Nat → Bool} : ∀ {n : Nat}, unl d n = 0 → ∀ j, j < n → d j = true
  | 0, _, j, h => by omega
  | n + 1, h, j, hj => by
    simp only [unl] at h
    by_cases he : j = n
    · subst he
      cases hd : d j with
      | true => rfl
      | false => simp [hd] at h
    · exact unl_zero (n := n) (by omega) j (by omega)

theorem unl_put {d : Nat → Bool} {i : Nat} (hd : d i = false) : ∀ {n : Nat}, unl (fun j => d j || j == i) n + (if i < n then 1 else 0) = unl d n
  | 0 => by simp [unl]
  | n + 1 => by
    have ih := unl_put hd (n := n)
    simp only [unl]
    by_cases he : i = n
    · subst he
      simp [hd] at ih ⊢
      exact ih
    · have h1 : (n == i) = false := by simp; omega
      simp only [h1, Bool.or_false]
      by_cases hlt : i < n
      · simp [hlt, show i < n + 1 by omega] at ih ⊢
        omega
      · simp [hlt, show ¬ i < n + 1 by omega] at ih ⊢
        omega

theorem unl_le {d : Nat → Bool} : ∀ n, unl d n ≤ n
  | 0 => Nat.le_refl _
  | n + 1 => by
    have := unl_le (d := d) n
    simp only [unl]
    split <;> omega

section
variable {X : Ctx} {M : Nat} {E0 E E' : Env} {w0 w w' : World} {σ : St} {a : Act} {ops : Array Oper} {cs : List Rc} {d : Nat → Bool}

theorem getD_b {listed : Array Bool} {j : Nat} (h : j < listed.size) (b : Bool) : listed.getD j b = listed.getD j false := by
  simp [h]

theorem Inv.any (hm : TabOK X.P X.T) (hR : Rgn X ops cs σ) (hs : safe ops (befs ops.toList []) [] [] ops.toList cs = true) (haf : afters 0 ops.toList = true) {Q : Exit → Act → World → Prop} (hQ : ∀ a' w' E', SR X M E0 w0 (foldK ops.toList cs ops.toList.length σ) a' w' E' → Q .normal a' w') :
    ∀ (fuel : Nat) (listed : Array Bool) (a : Act) (w : World) (E : Env), listed.size = ops.size → unl (fun j => listed.getD j false) ops.size ≤ fuel →
      (∀ (i b : Nat), listed.getD i false = true → (befs ops.toList [])[i]? = some b → ∀ j, b.testBit j = true → listed.getD j false = true) →
      Inv X M E0 w0 σ ops.toList cs (fun j => listed.getD j false) a w E → wpAny X.P .any ops Q fuel listed a w := by
  have hsafe : ∀ (i j : Nat) o c o' c', j < i → ops.toList[i]? = some o → cs[i]? = some c → ops.toList[j]? = some o' → cs[j]? = some c' → (∃ b, (befs ops.toList [])[i]? = some b ∧ b.testBit j = true) ∨ apart1 ops o' o c' c = true :=
    fun i j o c o' c' h1 h2 h3 h4 h5 => safe_ok rfl hR.len hs i j o c o' c' h1 (Nat.zero_le _) (by simpa using h2) (by simpa using h3) (by simpa using h4) (by simpa using h5)
  have hbef : ∀ (i b : Nat) o, ops.toList[i]? = some o → (befs ops.toList [])[i]? = some b → ∀ j, b.testBit j = true → ∃ e ∈ o.after, Region.binds .any e = true ∧ (j = e.on ∨ ∃ b', (befs ops.toList [])[e.on]? = some b' ∧ b'.testBit j = true) := fun i b o ho hb j hj => by
    have h1 := (befs_ok ops.toList []).2.2 i o ho
    simp only [List.length_nil, Nat.zero_add] at h1
    rw [hb] at h1
    cases h1
    obtain ⟨e, he, hbd, h⟩ := befOf_ok hj
    refine ⟨e, he, hbd, h.imp id fun h => ?_⟩
    rw [List.getD_eq_getElem?_getD, List.getElem?_take] at h
    split at h
    · cases hx : (befs ops.toList [])[e.on]? with
      | none => simp [hx] at h
      | some b' => exact ⟨b', rfl, by simpa [hx] using h⟩
    · simp at h
  have hafter : ∀ (i : Nat) o, ops.toList[i]? = some o → ∀ e ∈ o.after, Region.binds .any e = true → e.on < i := fun i o ho e he hb => by simpa using afters_ok haf i o ho e he hb
  intro fuel
  induction fuel with
  | zero =>
    intro listed a w E hsz hu hcl hI
    have hall := unl_zero (Nat.le_zero.1 hu)
    refine ⟨?_, hQ _ _ E (hI.sr hR.len fun j hj => hall j (by simpa using hj))⟩
    refine List.eq_nil_iff_forall_not_mem.2 fun i hi => ?_
    obtain ⟨h0, o, ho, _⟩ := mem_ready.1 hi
    have hlt : i < ops.size := (Array.getElem?_eq_some_iff.1 ho).1
    rw [getD_b (by omega)] at h0
    rw [hall i hlt] at h0
    cases h0
  | succ fuel ih =>
    intro listed a w E hsz hu hcl hI
    refine ⟨fun hr => ?_, fun i hi => ?_⟩
    · have hall : ∀ n j, j < n → j < ops.size → listed.getD j false = true := by
        intro n
        induction n with
        | zero => intro j h; omega
        | succ n ihn =>
          intro j hj hjs
          cases hd : listed.getD j false with
          | true => rfl
          | false =>
            have ho : ops[j]? = some ops[j] := Array.getElem?_eq_getElem hjs
            have : j ∈ Region.ready .any ops listed := mem_ready.2 ⟨by rw [getD_b (by omega)]; exact hd, _, ho, fun e he hb => by
              have hlt := hafter j _ (by simp) e he hb
              exact ihn e.on (by omega) (by omega)⟩
            rw [hr] at this
            cases this
      exact hQ _ _ E (hI.sr hR.len fun j hj => hall (j + 1) j (by omega) (by simpa using hj))
    · obtain ⟨h0, o, ho, hready⟩ := mem_ready.1 hi
      have hlt : i < ops.size := (Array.getElem?_eq_some_iff.1 ho).1
      rw [getD_b (by omega)] at h0
      have ho' : ops.toList[i]? = some o := by simpa using ho
      have hltc : i < cs.length := by rw [hR.len]; simpa using hlt
      have hfut : ∀ b, (befs ops.toList [])[i]? = some b → ∀ j, b.testBit j = true → listed.getD j false = true := fun b hb j hj => by
        obtain ⟨e, he, hbd, h⟩ := hbef i b o ho' hb j hj
        have h1 := hready e he hbd
        rcases h with rfl | ⟨b', hb', hj'⟩
        · exact h1
        · exact hcl e.on b' h1 hb' j hj'
      refine hI.step hm hR ho' (List.getElem?_eq_getElem hltc) h0 (fun j o' c' hj hd h1 h2 => ?_) (fun j o' c' hj hd h1 h2 => ?_) fun a' w' E' hI' => ?_
      · rcases hsafe i j o _ o' c' hj ho' (List.getElem?_eq_getElem hltc) h1 h2 with ⟨b, hb, hbj⟩ | h
        · have := hfut b hb j hbj
          rw [hd] at this
          cases this
        · exact h
      · rcases hsafe j i o' c' o _ hj h1 h2 ho' (List.getElem?_eq_getElem hltc) with ⟨b, hb, hbj⟩ | h
        · have := hcl j b hd hb i hbj
          rw [h0] at this
          cases this
        · exact h
      · have hfun : (fun j => (listed.setIfInBounds i true).getD j false) = fun j => listed.getD j false || j == i := by
          funext j
          by_cases hji : i = j
          · subst hji
            simp [hsz, hlt]
          · rw [getD_set_ne false hji]
            simp [show (j == i) = false by simp; omega]
        refine ih _ a' w' E' (by simpa using hsz) ?_ (fun k b hk hb j hj => ?_) (by rw [hfun]; exact hI')
        · rw [hfun]
          have := unl_put (d := fun j => listed.getD j false) (i := i) h0 (n := ops.size)
          rw [if_pos hlt] at this
          omega
        · by_cases hki : i = k
          · subst hki
            exact getD_set_true (hfut b hb j hj)
          · rw [getD_set_ne false hki] at hk
            exact getD_set_true (hcl k b hk hb j hj)

/-! ### A region -/
theorem Mv.drew : Mv E w E { w with drawn := w.drawn + 1 } :=
  ⟨Nat.le_refl _, fun b _ h => ⟨rfl, h⟩, fun r h => h, fun r h hal => ⟨hal, rfl, rfl, fun N h => h⟩⟩

theorem SR.drew (h : SR X M E0 w0 σ a w E) : SR X M E0 w0 σ a { w with drawn := w.drawn + 1 } E := by
  have hmv : Mv E w E { w with drawn := w.drawn + 1 } := .drew
  refine ⟨h.frm.trans ⟨Nat.le_refl _, rfl, rfl, rfl, fun b _ h => ⟨rfl, h⟩, fun b _ h => ⟨rfl, h⟩, fun _ _ => rfl, fun b cs ty h => ⟨cs, h, rfl⟩, fun r hr hs => ⟨hs, fun N h => h⟩⟩, h.low, fun x hx => ⟨(h.gl x hx).1, (h.gl x hx).2.mv hmv trivial⟩, h.df, h.sz, fun t x hx => (h.sl t x hx).mv hmv trivial, fun r R hR => (h.rt r R hR).mv hmv rfl (fun b q hb ho => ⟨rfl, ho⟩), h.fresh⟩

theorem region_ok (hm : TabOK X.P X.T) (hmix : X.P.follows .mixedOrders = true) {draw : Bool} {hs : List Hint} {ps : List Prop} {σ' : St} (h : region X ops draw σ hs = some (ps, σ')) (hp : AllP ps) (hS : SR X M E0 w0 σ a w E) {id : Nat} {Q : Exit → Act → World → Prop}
    (hQ : ∀ a' w' E', SR X M E0 w0 σ' a' w' E' → Q .normal a' w') : (Code.region id ops draw).wp X.P Q a w := by
  unfold region at h
  split at h
  · cases h
  · rename_i cs ps' σ2 hx
    cases draw with
    | false =>
      simp only [Option.some.injEq, Prod.mk.injEq] at h
      obtain ⟨rfl, rfl⟩ := h
      obtain ⟨hl, rfl, hst⟩ := execOps_ok hx hp
      refine wp_region ?_
      have := Inv.listed (Q := Q) hm ⟨hl, hst⟩ hQ ops.size 0 a w E (by omega) (by
        have : (fun j => decide (j < 0)) = fun _ => false := by funext j; simp
        rw [this]
        exact hS.inv)
      rwa [← List.range_eq_range'] at this
    | true =>
      simp only at h
      split at h
      · rename_i hc
        simp only [Bool.and_eq_true] at hc
        simp only [Option.some.injEq, Prod.mk.injEq] at h
        obtain ⟨rfl, rfl⟩ := h
        obtain ⟨hl, rfl, hst⟩ := execOps_ok hx hp
        refine wp_region_any hmix ?_
        have hnone : ∀ j, (Array.replicate ops.size false).getD j false = false := fun j => by
          by_cases hj : j < ops.size <;> simp [hj]
        refine Inv.any (Q := Q) hm ⟨hl, hst⟩ hc.1 hc.2 hQ ops.size _ a _ E (by simp) (unl_le _) (fun i b hi => by rw [hnone] at hi; cases hi) ?_
        have : (fun j => (Array.replicate ops.size false).getD j false) = fun _ => false := by funext j; exact hnone j
        rw [this]
        exact hS.drew.inv
      · cases h

end
end Go.Proofs.YtfnhclmdobdkbaaDoor.Ab

namespace Go.Proofs.YtfnhclmdobdkbaaDoor.Ab

/-- From the place k on, f comes to an end as R says. -/
def W (P : Program) (f : FuncId) (R : Ending → World → Prop) (k : List Item) (a : Act) (w : World) : Prop :=
  ∀ (b : Frame) (cs : List Frame), b.fn = f → b.kind = .normal → ∃ e w' fr, R e w' ∧ Comes P (lone (b.at a k) cs w) (lone fr cs w') e ∧ fr.fn = f ∧ fr.leaving P w' e

section
variable {P : Program} {f : FuncId} {R : Ending → World → Prop} {k k' : List Item} {a : Act} {w w' : World}

theorem W.step (h : ∀ (b : Frame) (cs : List Frame), step P (lone (b.at a k) cs w) = .next (lone (b.at a k') cs w)) (hk : W P f R k' a w) : W P f R k a w := fun b cs hf hn =>
  let ⟨e, w', fr, h1, h2, h3⟩ := hk b cs hf hn
  ⟨e, w', fr, h1, Comes.of_steps (.one (h b cs)) h2, h3⟩

theorem W.code {c : Code} (h : c.wp P (fun e a' w' => e = .normal ∧ W P f R k a' w') a w) : W P f R (.code c :: k) a w := fun b cs hf hn => by
  obtain ⟨e, a', w', ⟨rfl, hk⟩, harr⟩ := h b k cs
  obtain ⟨e, w2, fr, h1, h2, h3⟩ := hk b cs hf hn
  exact ⟨e, w2, fr, h1, Comes.of_steps harr h2, h3⟩

theorem W.ret {fn : Func} {v : Value} (hf : P.funcs[f]? = some fn) (hd : a.defers = []) (hv : (results fn a.tmps).run P w = .ok v w) (hR : R (.returned v) w) : W P f R (.code .ret :: k) a w := fun b cs hb hn =>
  ⟨.returned v, w, { b.at a (.code .ret :: k) with mode := .returning }, hR, Steps.one step_ret, hb, rfl, hd, hn, fn, by rw [show ({ b.at a (.code .ret :: k) with mode := .returning } : Frame).fn = b.fn from rfl, hb]; exact hf, hv⟩

theorem W.done {fn : Func} {v : Value} (hf : P.funcs[f]? = some fn) (hd : a.defers = []) (hv : (results fn a.tmps).run P w = .ok v w) (hR : R (.returned v) w) : W P f R [] a w := fun b cs hb hn =>
  ⟨.returned v, w, { b.at a [] with mode := .returning }, hR, Steps.one step_end, hb, rfl, hd, hn, fn, by rw [show ({ b.at a [] with mode := .returning } : Frame).fn = b.fn from rfl, hb]; exact hf, hv⟩

theorem W.calls {fn : Func} {c : Code} {vs : Array Value} (hf : P.funcs[f]? = some fn) (hb : fn.body = some c)
    (h : W P f R [.code c] { tmps := vs ++ Array.replicate (fn.ntmps - vs.size) undef, defers := [] } w) : Calls P f vs w R := fun cs => by
  have henter : Frame.enter P f vs .normal = ({ (default : Frame) with fn := f, kind := .normal } : Frame).at { tmps := vs ++ Array.replicate (fn.ntmps - vs.size) undef, defers := [] } [.code c] := by
    simp [Frame.enter, Frame.at, hf, hb]
  rw [henter]
  exact h _ cs rfl rfl
end

/-- Whenever f stands at k and holds what σ says, it gives 'res' and leaves what it was lent as G'. -/
def Wc (X : Ctx) (f : FuncId) (M : Nat) (k : List Item) (σ : St) (res : List D) (G' : List Root) : Prop :=
  ∀ (G : List Root) (E0 : Env) (w0 : World) (a : Act) (w : World) (E : Env), G.length = M → SR X M E0 w0 σ a w E → W X.P f (Post E0 w0 G res G') k a w

section
variable {X : Ctx} {f : FuncId} {M : Nat} {k k' : List Item} {σ σ' : St} {res : List D} {G' : List Root} {E0 E : Env} {w0 w : World} {a : Act} {R : Ending → World → Prop}

theorem ev_bool (hS : SR X M E0 w0 σ a w E) {c : Operand} {t : Bool} (h : ev X σ.sl c = some (.bool t)) : a.eval c = .bool t := by
  cases c with
  | tmp n => exact (hS.sl n _ h).bool_inv
  | const v =>
    simp only [ev, Option.some.injEq] at h
    have : Rep E w .slot (.bool t) v := h ▸ .ofVal v
    exact this.bool_inv
  | global g =>
    obtain ⟨⟨_, _, _, _, h1⟩, _⟩ := hS.gl _ (glOf_mem h)
    simp only at h1
    cases h1
  | func f => simp [ev] at h

theorem ctl_ok (hS : SR X M E0 w0 σ a w E) : ∀ (n : Nat) (k : List Item), ctl X σ.sl n k = some k' → W X.P f R k' a w → W X.P f R k a w
  | 0, k, h, _ => by simp [ctl] at h
  | n + 1, k, h, hk => by
    unfold ctl at h
    split at h
    · exact .step (fun b cs => step_skip) (ctl_ok hS n _ h hk)
    · exact .step (fun b cs => step_label) (ctl_ok hS n _ h hk)
    · exact .step (fun b cs => step_inBlock) (ctl_ok hS n _ h hk)
    · exact .step (fun b cs => step_inScope) (ctl_ok hS n _ h hk)
    · exact .step (fun b cs => step_seq) (ctl_ok hS n _ h hk)
    · split at h
      · rename_i t hc
        have he := ev_bool hS hc
        cases t with
        | true => exact .step (fun b cs => step_cond (t := true) he) (ctl_ok hS n _ h hk)
        | false => exact .step (fun b cs => step_cond (t := false) he) (ctl_ok hS n _ h hk)
      · cases h
    · exact .step (fun b cs => step_block) (ctl_ok hS n _ h hk)
    · exact .step (fun b cs => step_loop) (ctl_ok hS n _ h hk)
    · exact .step (fun b cs => step_inLoop) (ctl_ok hS n _ h hk)
    · exact .step (fun b cs => step_scope) (ctl_ok hS n _ h hk)
    · split at h
      · rename_i k2 hx
        exact .step (fun b cs => step_exit hx) (ctl_ok hS n _ h hk)
      · cases h
    · cases h; exact hk
    · cases h; exact hk
    · cases h; exact hk
    · cases h

/-! ### The books, with fewer roots -/
def Env.keep (E : Env) (ks : List Nat) : Env :=
  { adr := fun r => match ks[r]? with | some s => E.adr s | none => ⟨0, 0, none⟩
    len := fun r => match ks[r]? with | some s => E.len s | none => 0
    ow := fun b => match E.ow b with
      | .own r p => (match idx r 0 ks with | some s => .own s p | none => .far)
      | x => x
    st := fun r => match ks[r]? with | some s => E.st s | none => .fresh }

section
variable {ks : List Nat}

theorem keep_at {k r : Nat} (h : ks[k]? = some r) : (E.keep ks).adr k = E.adr r ∧ (E.keep ks).len k = E.len r ∧ (E.keep ks).st k = E.st r := by
  simp [Env.keep, h]

theorem keep_shp (hd : distinct ks = true) {k r N : Nat} (h : ks[k]? = some r) (hs : Shp E w r N) : Shp (E.keep ks) w k N := by
  obtain ⟨h1, h2, h3⟩ := keep_at (E := E) h
  obtain ⟨s1, s2, cs, ty, s3, s4⟩ := hs
  unfold Shp
  rw [h1, h3]
  refine ⟨s1, ?_, cs, ty, s3, s4⟩
  by_cases ho : E.st r = .own
  · rw [ho, if_pos rfl] at s2 ⊢
    simp only [Env.keep, s2, idx_of hd h]
    simp
  · rw [if_neg ho] at s2 ⊢
    simp [Env.keep, s2]

theorem Rep.sub1_eq {m : Md} {d : D} {v : Value} (h : Rep E w m d v) (hm : m = .fz ∨ ∃ r p, m = .own r p) : sub1 ks d = d := by
  cases h with
  | undef m v h => rcases hm with rfl | ⟨_, _, rfl⟩ <;> rcases h with h | ⟨_, _, h⟩ <;> cases h
  | anyb => rcases hm with hm | ⟨_, _, hm⟩ <;> cases hm
  | fn => rcases hm with hm | ⟨_, _, hm⟩ <;> cases hm
  | agg => rcases hm with hm | ⟨_, _, hm⟩ <;> cases hm
  | tup => rcases hm with hm | ⟨_, _, hm⟩ <;> cases hm
  | ref m r wd vw v h' hs h => rcases hm with rfl | ⟨_, _, rfl⟩ <;> rcases h' with h | ⟨_, _, h⟩ <;> cases h
  | ptr m r wd i j v h' hs h => rcases hm with rfl | ⟨_, _, rfl⟩ <;> rcases h' with h | ⟨_, _, h⟩ <;> cases h
  | _ => rfl

def KM (ks : List Nat) (m m' : Md) : Prop := (m = .slot ∧ m' = .slot) ∨ (m = .fz ∧ m' = .fz) ∨ (∃ r k p, ks[k]? = some r ∧ m = .own r p ∧ m' = .own k p) ∨ ∃ r k p, ks[k]? = some r ∧ m = .box r p ∧ m' = .box k p

theorem KM.sb {m m' : Md} (h : KM ks m m') (hm : m = .slot ∨ ∃ r p, m = .box r p) : m' = .slot ∨ ∃ r p, m' = .box r p := by
  rcases h with ⟨_, h⟩ | ⟨rfl, _⟩ | ⟨_, _, _, _, rfl, _⟩ | ⟨_, _, _, _, _, h⟩
  · exact .inl h
  · rcases hm with h | ⟨_, _, h⟩ <;> cases h
  · rcases hm with h | ⟨_, _, h⟩ <;> cases h
  · exact .inr ⟨_, _, h⟩

theorem Rep.kept (hd : distinct ks = true) {m : Md} {d : D} {v : Value} (h : Rep E w m d v) : ∀ {m' : Md}, KM ks m m' → Rep (E.keep ks) w m' (sub1 ks d) v := by
  induction h with
  | int m k n => intro m' _; exact .int _ _ _
  | bool m b => intro m' _; exact .bool _ _
  | str m s => intro m' _; exact .str _ _
  | nil m => intro m' _; exact .nil _
  | undef m v h => intro m' hm; exact .undef _ _ (hm.sb h)
  | hid m v h1 h2 h => intro m' hm; exact .hid _ _ h1 h2 (hm.sb h)
  | anyb b => intro m' hm; exact .undef _ _ (hm.sb (.inl rfl))
  | fn f caps vs hl h ih => intro m' hm; exact .undef _ _ (hm.sb (.inl rfl))
  | agg cs vs hl h ih => intro m' hm; exact .undef _ _ (hm.sb (.inl rfl))
  | tup cs vs hl h ih => intro m' hm; exact .undef _ _ (hm.sb (.inl rfl))
  | flist m o wd n xs A cap us hm' hn hc hw ha h ih =>
    intro m' hm
    refine .flist _ _ _ _ _ _ _ us ?_ hn hc hw (fun h0 => ?_) (fun i j x c hx hj => ?_)
    · rcases hm with ⟨_, rfl⟩ | ⟨_, rfl⟩ | ⟨_, _, _, _, rfl, _⟩ | ⟨_, _, _, _, rfl, _⟩
      · exact .inl rfl
      · exact .inr (.inl rfl)
      · rcases hm' with h | h | h
        · cases h
        · cases h
        · exact .inr (.inr h)
      · rcases hm' with h | h | h
        · cases h
        · cases h
        · exact .inr (.inr h)
    · obtain ⟨b, hb, h1, h2, h3⟩ := ha h0
      exact ⟨b, hb, by simp [Env.keep, h1], h2, h3⟩
    · have := ih i j x c hx hj (m' := .fz) (.inr (.inl ⟨rfl, rfl⟩))
      rwa [(h i j x c hx hj).sub1_eq (.inl rfl)] at this
  | olist m r p wd n xs A cap us hm' hn hc hw ha h ih =>
    intro m' hm
    have key : ∃ k, ks[k]? = some r ∧ (m' = .own k p ∨ m' = .box k p) := by
      rcases hm with ⟨rfl, _⟩ | ⟨rfl, _⟩ | ⟨r0, k, p0, hk, rfl, rfl⟩ | ⟨r0, k, p0, hk, rfl, rfl⟩
      · rcases hm' with h | h <;> cases h
      · rcases hm' with h | h <;> cases h
      · rcases hm' with h | h <;> cases h
        exact ⟨k, hk, .inl rfl⟩
      · rcases hm' with h | h <;> cases h
        exact ⟨k, hk, .inr rfl⟩
    obtain ⟨k, hk, hm2⟩ := key
    refine .olist _ k p _ _ _ _ _ us hm2 hn hc hw (fun h0 => ?_) (fun i j x c hx hj => ?_)
    · obtain ⟨a, cs, ty, rfl, hsp, ho, hh, hz, hcell⟩ := ha h0
      exact ⟨a, cs, ty, rfl, hsp, by simp [Env.keep, ho, idx_of hd hk], hh, hz, hcell⟩
    · have := ih i j x c hx hj (m' := .own k (p ++ [(i, j)])) (.inr (.inr (.inl ⟨r, k, _, hk, rfl, rfl⟩)))
      rwa [(h i j x c hx hj).sub1_eq (.inr ⟨_, _, rfl⟩)] at this
  | ref m r wd vw v h' hs h =>
    intro m' hm
    simp only [sub1]
    split
    · rename_i k hk
      obtain ⟨i, rfl, hi⟩ := idx_some hk
      rw [Nat.zero_add]
      obtain ⟨h1, h2, h3⟩ := keep_at (E := E) hi
      refine .ref _ _ _ _ _ (hm.sb h') (by rw [h3]; exact hs) fun hal => ?_
      have hal' : Alive E r := by unfold Alive at *; rw [h3] at hal; exact hal
      obtain ⟨A, cap, rfl, hcap, hlen, hA⟩ := h hal'
      have hv : Vw (E.keep ks) i vw = Vw E r vw := by cases vw <;> simp [Vw, h2]
      rw [hv, h1, h2]
      exact ⟨A, cap, rfl, hcap, hlen, fun h0 => ⟨(hA h0).1, keep_shp hd hi (hA h0).2⟩⟩
    · exact .undef _ _ (hm.sb h')
  | ptr m r wd i j v h' hs h =>
    intro m' hm
    simp only [sub1]
    split
    · rename_i k hk
      obtain ⟨i', rfl, hi⟩ := idx_some hk
      rw [Nat.zero_add]
      obtain ⟨h1, h2, h3⟩ := keep_at (E := E) hi
      refine .ptr _ _ _ _ _ _ (hm.sb h') (by rw [h3]; exact hs) fun hal => ?_
      have hal' : Alive E r := by unfold Alive at *; rw [h3] at hal; exact hal
      rw [h1]
      exact h hal'
    · exact .undef _ _ (hm.sb h')
  | fptr m wd xs i j a us h' hw ha h ih =>
    intro m' hm
    obtain ⟨h1, h2, h3⟩ := ha
    refine .fptr _ _ _ _ _ _ us (hm.sb h') hw ⟨by simp [Env.keep, h1], h2, h3⟩ (fun i j x c hx hj => ?_)
    have := ih i j x c hx hj (m' := .fz) (.inr (.inl ⟨rfl, rfl⟩))
    rwa [(h i j x c hx hj).sub1_eq (.inl rfl)] at this

theorem Rep.keptS (hd : distinct ks = true) {d : D} {v : Value} (h : Rep E w .slot d v) : Rep (E.keep ks) w .slot (sub ks d) v := by
  have hk := h.kept hd (m' := .slot) (.inl ⟨rfl, rfl⟩)
  cases d <;> try exact hk
  · obtain ⟨vs, rfl, hl, hr⟩ := h.agg_inv
    refine .agg _ _ (by simp [hl]) fun i c u hc hu => ?_
    rw [List.getElem?_map, Option.map_eq_some_iff] at hc
    obtain ⟨c0, hc0, rfl⟩ := hc
    exact (hr i c0 u hc0 hu).kept hd (.inl ⟨rfl, rfl⟩)
  · cases h with
    | fn f caps vs hl hr =>
      refine .fn _ _ _ (by simp [hl]) fun i c u hc hu => ?_
      rw [List.getElem?_map, Option.map_eq_some_iff] at hc
      obtain ⟨c0, hc0, rfl⟩ := hc
      exact (hr i c0 u hc0 hu).kept hd (.inl ⟨rfl, rfl⟩)

theorem sub1_cells (d : D) : (sub1 ks d).cells = [sub1 ks d] := by
  cases d <;> simp only [sub1] <;> first | rfl | (split <;> rfl)

theorem subE_cells (d : D) : (subE ks d).cells = d.cells.map (sub1 ks) := by
  cases d with
  | ref r w vw => exact sub1_cells (.ref r w vw)
  | ptr r w i j => exact sub1_cells (.ptr r w i j)
  | _ => rfl

theorem RootRel.kept (hd : distinct ks = true) {k r : Nat} {R : Root} (hk : ks[k]? = some r) (h : RootRel E w r R) : RootRel (E.keep ks) w k (subR ks R) := by
  obtain ⟨h1, h2, h3⟩ := keep_at (E := E) hk
  have hc : ∀ (i j : Nat) x c, R.xs[i]? = some x → x.cells[j]? = some c → ∃ u, w.cell? ((E.adr r).add (i * R.w + j)) = some u ∧ Rep (E.keep ks) w (R.md k i j) (sub1 ks c) u ∧ (R.box = false → sub1 ks c = c) := fun i j x c hx hj => by
    obtain ⟨u, hu, hr⟩ := h.cell i j x c hx hj
    refine ⟨u, hu, hr.kept hd ?_, fun hb => hr.sub1_eq ?_⟩
    · unfold Root.md
      split
      · exact .inr (.inl ⟨rfl, rfl⟩)
      · split
        · exact .inr (.inr (.inr ⟨r, k, _, hk, rfl, rfl⟩))
        · exact .inr (.inr (.inl ⟨r, k, _, hk, rfl, rfl⟩))
    · unfold Root.md
      split
      · exact .inl rfl
      · rw [hb]
        exact .inr ⟨_, _, rfl⟩
  unfold subR
  split
  · rename_i hb
    refine ⟨by rw [h3]; exact h.st, by rw [h2]; exact h.len, by simp [h.n], fun x hx => ?_, h.nobox, fun h0 => keep_shp hd hk (h.shp h0), fun i j x c hx hj => ?_⟩
    · simp only [List.mem_map] at hx
      obtain ⟨y, hy, rfl⟩ := hx
      rw [subE_cells, List.length_map]
      exact h.wd y hy
    · simp only [List.getElem?_map, Option.map_eq_some_iff] at hx
      obtain ⟨y, hy, rfl⟩ := hx
      rw [subE_cells, List.getElem?_map, Option.map_eq_some_iff] at hj
      obtain ⟨c0, hc0, rfl⟩ := hj
      obtain ⟨u, hu, hr, _⟩ := hc i j y c0 hy hc0
      exact ⟨u, by rw [h1]; exact hu, hr⟩
  · rename_i hb
    refine ⟨by rw [h3]; exact h.st, by rw [h2]; exact h.len, h.n, h.wd, h.nobox, fun h0 => keep_shp hd hk (h.shp h0), fun i j x c hx hj => ?_⟩
    obtain ⟨u, hu, hr, he⟩ := hc i j x c hx hj
    rw [he (by simpa using hb)] at hr
    exact ⟨u, by rw [h1]; exact hu, hr⟩

theorem slots_get {live : List Nat} : ∀ {ds : List D} {b t : Nat} {x : D}, (slots ks live b ds)[t]? = some x → x = .undef ∨ ∃ d, ds[t]? = some d ∧ x = sub ks d
  | [], b, t, x, h => by simp [slots] at h
  | d :: ds, b, t, x, h => by
    cases t with
    | zero =>
      simp only [slots, List.getElem?_cons_zero, Option.some.injEq] at h
      split at h
      · exact .inr ⟨d, rfl, h.symm⟩
      · exact .inl h.symm
    | succ t =>
      simp only [slots, List.getElem?_cons_succ] at h
      have := slots_get (ds := ds) h
      simpa using this

theorem slots_len {live : List Nat} : ∀ (ds : List D) (b : Nat), (slots ks live b ds).length = ds.length
  | [], _ => rfl
  | d :: ds, b => by simp [slots, slots_len ds]

theorem getR_map {α : Type} (F : α → Option Root) : ∀ (l : List α) (k : Nat), getR (l.map F) k = (l[k]?).bind F
  | [], k => by simp [getR]
  | x :: l, 0 => by simp [getR]
  | x :: l, k + 1 => by simp [getR, getR_map F l k]

theorem canon_ok {live : List Nat} (h : canon M ks live σ = some σ') (hS : SR X M E0 w0 σ a w E) : SR X M E0 w0 σ' a w (E.keep ks) := by
  unfold canon at h
  split at h
  · rename_i hc
    simp only [Bool.and_eq_true] at hc
    obtain ⟨hc, hd⟩ := hc
    have hc : ks.take M = List.range M := by simpa using hc
    have hlow : ∀ r, r < M → ks[r]? = some r := fun r hr => by
      have h1 : (ks.take M)[r]? = some r := by rw [hc]; simp [hr]
      rwa [List.getElem?_take, if_pos hr] at h1
    cases h
    refine ⟨⟨hS.frm.sz, hS.frm.os, hS.frm.tape, hS.frm.output, fun b hb ho => ?_, fun b hb ho => ?_, fun r hr => ?_, hS.frm.shape, fun r hr hst => ?_⟩, fun r hr => ?_, fun x hx => ?_, hS.df, by simp only [slots_len]; exact hS.sz, fun t x hx => ?_, fun r R hR => ?_, fun r hr => ?_⟩
    · obtain ⟨h1, h2⟩ := hS.frm.fz b hb ho
      exact ⟨h1, by simp [Env.keep, h2]⟩
    · obtain ⟨h1, h2⟩ := hS.frm.far b hb ho
      exact ⟨h1, by simp [Env.keep, h2]⟩
    · rw [(keep_at (E := E) (hlow r hr)).1]
      exact hS.frm.adr r hr
    · rw [(keep_at (E := E) (hlow r hr)).2.2] at hst
      obtain ⟨h1, h2⟩ := hS.frm.shp r hr hst
      exact ⟨h1, fun N hN => keep_shp hd (hlow r hr) (h2 N hN)⟩
    · rw [(keep_at (E := E) (hlow r hr)).2.2]
      exact hS.low r hr
    · obtain ⟨⟨wd, xs, i, j, he⟩, hr⟩ := hS.gl x hx
      refine ⟨⟨wd, xs, i, j, he⟩, ?_⟩
      rw [he] at hr ⊢
      exact hr.kept hd (m' := .slot) (.inl ⟨rfl, rfl⟩)
    · rcases slots_get hx with rfl | ⟨d, hd', rfl⟩
      · exact .undef _ _ (.inl rfl)
      · exact (hS.sl t d hd').keptS hd
    · rw [getR_map] at hR
      obtain ⟨r0, hr0, hR⟩ := Option.bind_eq_some_iff.1 hR
      obtain ⟨R0, hR0, rfl⟩ := Option.map_eq_some_iff.1 hR
      exact (hS.rt r0 R0 hR0).kept hd hr0
    · have : ks[r]? = none := List.getElem?_eq_none (by simpa using hr)
      simp [Env.keep, this]
  · cases h

def Env.mk0 (E : Env) (n : Nat) : Env := { E with len := fun k => if k = n then 0 else E.len k, st := fun k => if k = n then .own else E.st k }

theorem mk0_shp {n : Nat} (hn : E.st n = .fresh) {r N : Nat} (hr : r ≠ n) (h : Shp E w r N) : Shp (E.mk0 n) w r N := by
  obtain ⟨h1, h2, h3⟩ := h
  exact ⟨h1, by simpa [Env.mk0, hr] using h2, h3⟩

theorem mk0_mv {n : Nat} (hn : E.st n = .fresh) : Mv E w (E.mk0 n) w where
  sz := Nat.le_refl _
  fz := fun b _ ho => ⟨rfl, ho⟩
  st := fun r hr => by
    simp only [Env.mk0]
    split
    · simp
    · exact hr
  ref := fun r hr hal => by
    have hne : r ≠ n := fun e => hr (by rw [e]; exact hn)
    refine ⟨?_, rfl, by simp [Env.mk0, hne], fun N hN => mk0_shp hn hne hN⟩
    unfold Alive at hal ⊢
    simpa [Env.mk0, hne] using hal

theorem mk0_ext {n wd : Nat} (hn : E.st n = .fresh) : Ext E w (E.mk0 n) w [(n, some ⟨false, false, wd, 0, []⟩)] where
  sz := Nat.le_refl _
  os := rfl
  tape := rfl
  output := rfl
  fz := fun b _ ho => ⟨rfl, ho⟩
  far := fun b _ ho => ⟨rfl, ho⟩
  adr := fun _ _ => rfl
  keep := fun d v hd => hd.mv (mk0_mv hn) (m' := .slot) trivial
  root := fun r R hr hR => by
    have hne : r ≠ n := fun e => hr _ (List.mem_singleton.2 rfl) e.symm
    exact hR.mv (mk0_mv hn) (by simp [Env.mk0, hne]) fun b q _ ho => ⟨rfl, ho⟩
  new := fun r R hr => by
    simp only [List.mem_singleton, Prod.mk.injEq, Option.some.injEq] at hr
    obtain ⟨rfl, rfl⟩ := hr
    exact { st := by simp [Env.mk0], len := by simp [Env.mk0], n := rfl, wd := fun x hx => (List.not_mem_nil hx).elim, nobox := fun h => (by cases h), shp := fun h => absurd h (Nat.lt_irrefl 0), cell := fun i j x c hx => by simp at hx }
  fresh := fun r hr hf => by
    have hne : r ≠ n := fun e => hr _ (List.mem_singleton.2 rfl) e.symm
    simpa [Env.mk0, hne] using hf
  shape := fun b cs ty hh => ⟨cs, hh, rfl⟩
  shp := fun r N h1 _ hN => mk0_shp hn (fun e => by rw [e, hn] at h1; cases h1) hN
  back := fun r hr => by
    by_cases hne : r = n
    · subst hne; exact .inl hn
    · exact .inr (by simpa [Env.mk0, hne] using hr)

theorem own_ok {t wd : Nat} (ht : σ.sl[t]? = some .nil) (hS : SR X M E0 w0 σ a w E) : SR X M E0 w0 ⟨σ.sl.set t (.ref σ.G.length wd none), putR σ.G σ.G.length (some ⟨false, false, wd, 0, []⟩)⟩ a w (E.mk0 σ.G.length) := by
  have hn : E.st σ.G.length = .fresh := hS.fresh _ (Nat.le_refl _)
  have hx := mk0_ext (w := w) (wd := wd) hn
  refine ⟨hS.frm.trans (hx.frm hS.low), fun r hr => hx.st_ne (hS.low r hr), hx.gl hS.gl, hS.df, by simpa using hS.sz, fun u d hd => ?_, fun r R hR => ?_, fun r hr => ?_⟩
  · simp only at hd
    rw [List.getElem?_set] at hd
    split at hd
    · rename_i e
      subst e
      split at hd
      · cases hd
        rw [(hS.sl t _ ht).nil_inv]
        exact .ref _ _ _ _ _ (.inl rfl) (by simp [Env.mk0]) fun _ => ⟨none, 0, by simp [Vw, Env.mk0], by simp [Vw, Env.mk0], by simp [Vw, Env.mk0], fun h => by omega⟩
      · cases hd
    · exact hx.keep _ _ (hS.sl u d hd)
  · simp only at hR
    by_cases hr : r = σ.G.length
    · subst hr
      rw [getR_putR, if_pos rfl] at hR
      exact hx.new _ _ (by rw [← hR]; exact List.mem_singleton.2 rfl)
    · rw [getR_putR, if_neg (fun e => hr e.symm)] at hR
      exact hx.root r R (fun u hu => by rw [List.mem_singleton] at hu; subst hu; exact fun e => hr e.symm) (hS.rt r R hR)
  · have hlen := putR_len σ.G σ.G.length (some (⟨false, false, wd, 0, []⟩ : Root))
    simp only at hr
    exact hx.fresh r (fun u hu => by rw [List.mem_singleton] at hu; subst hu; simp only; omega) (hS.fresh r (by omega))

theorem add_none {a : Addr} (h : a.spot = none) (n : Nat) : a.add n = ⟨a.block, a.off + n, none⟩ := by
  obtain ⟨b, o, s⟩ := a
  simp only at h
  subst h
  unfold Addr.add
  split
  · rename_i e; subst e; rfl
  · rfl

def Env.viewAt (E : Env) (r nid o n : Nat) : Env :=
  { adr := fun k => if k = nid then (E.adr r).add o else E.adr k
    len := fun k => if k = nid then n else E.len k
    ow := fun b => match E.ow b with
      | .own r' p => if r' = r then .own nid p else .own r' p
      | x => x
    st := fun k => if k = nid then .own else if k = r then .dead else E.st k }

theorem Rep.plainAny {m m' : Md} {d : D} {v : Value} (h : Rep E w m d v) (hd : d.plain = true) : Rep E w m' d v := by
  cases h with
  | int m k n => exact .int _ _ _
  | bool m b => exact .bool _ _
  | str m s => exact .str _ _
  | nil m => exact .nil _
  | undef m v => simp [D.plain] at hd
  | hid m v => simp [D.plain] at hd
  | anyb b => simp [D.plain] at hd
  | fn f caps vs hl h => simp [D.plain] at hd
  | agg cs vs hl h => simp [D.plain] at hd
  | tup cs vs hl h => simp [D.plain] at hd
  | flist m o wd n xs A cap us hm' hn hc hw ha h =>
    cases o with
    | true => simp [D.plain] at hd
    | false => exact .flist _ _ _ _ _ _ _ us (.inr (.inr rfl)) hn hc hw ha h
  | olist m r p wd n xs A cap us hm' hn hc hw ha h => simp [D.plain] at hd
  | ref m r wd vw v hm' hs h => simp [D.plain] at hd
  | ptr m r wd i j v hm' hs h => simp [D.plain] at hd
  | fptr m wd xs i j a us hm' hw ha h => simp [D.plain] at hd

section
variable {r nid o n lo : Nat} {R : Root}

theorem view_shp (hn : E.st nid = .fresh) {k N : Nat} (hk : k ≠ r) (hk' : k ≠ nid) (h : Shp E w k N) : Shp (E.viewAt r nid o n) w k N := by
  obtain ⟨h1, h2, cs, ty, h3, h4⟩ := h
  unfold Shp
  simp only [Env.viewAt, if_neg hk, if_neg hk']
  refine ⟨h1, ?_, cs, ty, h3, h4⟩
  rw [h2]
  by_cases ho : E.st k = .own
  · simp [ho, hk]
  · simp [ho]

theorem view_mv (hn : E.st nid = .fresh) (hr : E.st r = .own) : Mv E w (E.viewAt r nid o n) w where
  sz := Nat.le_refl _
  fz := fun b _ ho => ⟨rfl, by simp [Env.viewAt, ho]⟩
  st := fun k hk => by
    simp only [Env.viewAt]
    split
    · simp
    · split
      · simp
      · exact hk
  ref := fun k hk hal => by
    have hne : k ≠ nid := fun e => hk (by rw [e]; exact hn)
    have hner : k ≠ r := fun e => by
      unfold Alive at hal
      simp [Env.viewAt, e, show r ≠ nid from fun e' => by rw [e', hn] at hr; cases hr] at hal
    refine ⟨?_, by simp [Env.viewAt, hne], by simp [Env.viewAt, hne], fun N hN => view_shp hn hner hne hN⟩
    unfold Alive at hal ⊢
    simpa [Env.viewAt, hne, hner] using hal

theorem view_ext (hn : E.st nid = .fresh) (h : RootRel E w r R) (hf : R.fz = false) (hb : R.box = false) (hfl : AllFl R.xs) (hlo : lo + n ≤ R.n) :
    Ext E w (E.viewAt r nid (lo * R.w) n) w [(r, none), (nid, some ⟨false, false, R.w, n, (R.xs.drop lo).take n⟩)] := by
  have hr : E.st r = .own := by rw [h.st, hf]; rfl
  have hne : r ≠ nid := fun e => by rw [e, hn] at hr; cases hr
  have hmv := view_mv (w := w) (o := lo * R.w) (n := n) hn hr
  have hlen : ((R.xs.drop lo).take n).length = n := by simp [h.n]; omega
  refine
    { sz := Nat.le_refl _, os := rfl, tape := rfl, output := rfl
      fz := fun b _ ho => ⟨rfl, by simp [Env.viewAt, ho]⟩
      far := fun b _ ho => ⟨rfl, by simp [Env.viewAt, ho]⟩
      adr := fun k hk => by simp [Env.viewAt, show k ≠ nid from fun e => hk (by rw [e]; exact hn)]
      keep := fun d v hd => hd.mv hmv (m' := .slot) trivial
      root := fun k K hk hK => ?_
      new := fun k K hk => ?_
      fresh := fun k hk hs => ?_
      shape := fun b cs ty hh => ⟨cs, hh, rfl⟩
      shp := fun k N h1 h2 hN => ?_
      back := fun k hk => ?_ }
  · have h1 : k ≠ r := fun e => hk _ (List.mem_cons_self ..) e.symm
    have h2 : k ≠ nid := fun e => hk _ (List.mem_cons_of_mem _ (List.mem_singleton.2 rfl)) e.symm
    exact hK.mv hmv (by simp [Env.viewAt, h1, h2]) fun b q _ ho => ⟨rfl, by simp [Env.viewAt, ho, h1]⟩
  · simp only [List.mem_cons, Prod.mk.injEq, List.not_mem_nil, or_false] at hk
    rcases hk with ⟨_, hk⟩ | ⟨rfl, hk⟩
    · cases hk
    · cases hk
      refine ⟨by simp [Env.viewAt], by simp [Env.viewAt], hlen, fun x hx => h.wd x (List.mem_of_mem_drop (List.mem_of_mem_take hx)), fun h => (by cases h), fun h0 => ?_, fun i j x c hx hc => ?_⟩
      · obtain ⟨s1, s2, cs, ty, s3, s4⟩ := h.shp (show 0 < R.n by simp only at h0; omega)
        rw [hr, if_pos rfl] at s2
        have hadd : (E.adr r).add (lo * R.w) = ⟨(E.adr r).block, (E.adr r).off + lo * R.w, none⟩ := add_none s1 _
        refine ⟨by simp [Env.viewAt, hadd], by simp [Env.viewAt, hadd, s2], cs, ty, by simp [Env.viewAt, hadd, s3], ?_⟩
        simp only [Env.viewAt, if_true, hadd]
        have : lo * R.w + n * R.w ≤ R.n * R.w := by rw [← Nat.add_mul]; exact Nat.mul_le_mul_right _ hlo
        omega
      · obtain ⟨h1, _⟩ := take_drop_get hx
        obtain ⟨u, hu, hrep⟩ := h.cell (lo + i) j x c h1 hc
        refine ⟨u, ?_, ?_⟩
        · simp only [Env.viewAt, if_true]
          rw [add_add, show lo * R.w + (i * R.w + j) = (lo + i) * R.w + j by rw [Nat.add_mul]; omega]
          exact hu
        · have hp : c.plain = true := hfl x (List.mem_of_getElem? h1) c (List.mem_of_getElem? hc)
          exact ((hrep.plainAny (m' := .slot) hp).mv hmv (m' := .slot) trivial).plainAny hp
  · have h1 : k ≠ r := fun e => hk _ (List.mem_cons_self ..) e.symm
    have h2 : k ≠ nid := fun e => hk _ (List.mem_cons_of_mem _ (List.mem_singleton.2 rfl)) e.symm
    simpa [Env.viewAt, h1, h2] using hs
  · have hk1 : k ≠ nid := fun e => by rw [e, hn] at h1; cases h1
    have hk2 : k ≠ r := fun e => by subst e; simp [Env.viewAt, hne] at h2
    exact view_shp hn hk2 hk1 hN
  · simp only [Env.viewAt] at hk
    split at hk
    · rename_i e; rw [e]; exact .inl hn
    · split at hk
      · cases hk
      · exact .inr hk
end

theorem view_ok {t r wd lo n : Nat} {vw : Option (Nat × Nat)} {R : Root} (ht : σ.sl[t]? = some (.ref r wd vw)) (hvw : vw = some (lo, n) ∨ vw = none ∧ lo = 0 ∧ n = R.n) (hR : getR σ.G r = some R) (hf : R.fz = false) (hb : R.box = false) (hw : R.w = wd) (hfl : AllFl R.xs) (hS : SR X M E0 w0 σ a w E) :
    SR X M E0 w0 ⟨σ.sl.set t (.ref σ.G.length wd none), putR (putR σ.G r none) σ.G.length (some ⟨false, false, wd, n, (R.xs.drop lo).take n⟩)⟩ a w (E.viewAt r σ.G.length (lo * wd) n) := by
  subst hw
  have hn : E.st σ.G.length = .fresh := hS.fresh _ (Nat.le_refl _)
  have hrt := hS.rt r R hR
  have hrs : E.st r = .own := by rw [hrt.st, hf]; rfl
  have hne : r ≠ σ.G.length := fun e => by rw [e, hn] at hrs; cases hrs
  obtain ⟨_, _, hal⟩ := (hS.sl t _ ht).ref_inv
  obtain ⟨A, cap, hv, hcap, hlen, hA⟩ := hal (.inl hrs)
  have hl : E.len r = R.n := hrt.len
  have hVw : Vw E r vw = (lo, n) := by
    rcases hvw with rfl | ⟨rfl, rfl, rfl⟩
    · rfl
    · simp [Vw, hl]
  simp only [hVw] at hv hcap hlen hA
  rw [hl] at hlen
  have hx := view_ext (lo := lo) (n := n) hn hrt hf hb hfl hlen
  refine ⟨hS.frm.trans (hx.frm hS.low), fun k hk => hx.st_ne (hS.low k hk), hx.gl hS.gl, hS.df, by simpa using hS.sz, fun u d hd => ?_, fun k K hK => ?_, fun k hk => ?_⟩
  · simp only at hd
    rw [List.getElem?_set] at hd
    split at hd
    · rename_i e
      subst e
      split at hd
      · cases hd
        rw [hv]
        refine .ref _ _ _ _ _ (.inl rfl) (by simp [Env.viewAt]) fun _ => ⟨A, cap, by simp [Vw, Env.viewAt], by simp [Vw, Env.viewAt]; exact hcap, by simp [Vw, Env.viewAt], fun h0 => ?_⟩
        obtain ⟨hA1, s1, s2, cs, ty, s3, s4⟩ := hA h0
        rw [hrs, if_pos rfl] at s2
        have hadd : (E.adr r).add (lo * R.w) = ⟨(E.adr r).block, (E.adr r).off + lo * R.w, none⟩ := add_none s1 _
        refine ⟨by rw [hA1]; simp [Vw, Env.viewAt, hadd, Addr.add], by simp [Env.viewAt, hadd], by simp [Env.viewAt, hadd, s2], cs, ty, by simp [Env.viewAt, hadd, s3], ?_⟩
        simp only [Env.viewAt, Vw, if_true, hadd, Nat.zero_add]
        rw [Nat.add_mul] at s4
        omega
      · cases hd
    · exact hx.keep _ _ (hS.sl u d hd)
  · simp only at hK
    rw [getR_putR] at hK
    split at hK
    · rename_i e
      subst e
      exact hx.new _ _ (by rw [← hK]; exact List.mem_cons_of_mem _ (List.mem_singleton.2 rfl))
    · rename_i hk1
      rw [getR_putR] at hK
      split at hK
      · cases hK
      · rename_i hk2
        refine hx.root k K (fun u hu => ?_) (hS.rt k K hK)
        simp only [List.mem_cons, List.not_mem_nil, or_false] at hu
        rcases hu with rfl | rfl
        · exact hk2
        · exact hk1
  · simp only at hk
    have h1 := putR_len (putR σ.G r none) σ.G.length (some (⟨false, false, R.w, n, (R.xs.drop lo).take n⟩ : Root))
    have h2 := putR_len σ.G r none
    refine hx.fresh k (fun u hu => ?_) (hS.fresh k (by omega))
    simp only [List.mem_cons, List.not_mem_nil, or_false] at hu
    rcases hu with rfl | rfl
    · simp only; omega
    · simp only; omega

theorem frz_ok {r : Nat} {R : Root} (hR : getR σ.G r = some R) (hf : R.fz = false) (hb : R.box = false) (hS : SR X M E0 w0 σ a w E) : SR X M E0 w0 ⟨σ.sl, putR σ.G r (some { R with fz := true })⟩ a w (E.frz r) := by
  have hx := frz_ext (hS.rt r R hR) hf hb
  have hlt := getR_some hR
  refine ⟨hS.frm.trans (hx.frm hS.low), fun k hk => hx.st_ne (hS.low k hk), hx.gl hS.gl, hS.df, hS.sz, fun u d hd => hx.keep _ _ (hS.sl u d hd), fun k K hK => ?_, fun k hk => ?_⟩
  · simp only at hK
    rw [getR_putR] at hK
    split at hK
    · rename_i e
      subst e
      exact hx.new _ _ (by rw [← hK]; exact List.mem_singleton.2 rfl)
    · rename_i hk1
      exact hx.root k K (fun u hu => by rw [List.mem_singleton] at hu; subst hu; exact hk1) (hS.rt k K hK)
  · simp only at hk
    have h1 := putR_len σ.G r (some ({ R with fz := true } : Root))
    exact hx.fresh k (fun u hu => by rw [List.mem_singleton] at hu; subst hu; simp only; omega) (hS.fresh k (by omega))

theorem run_ok (hm : TabOK X.P X.T) (hmix : X.P.follows .mixedOrders = true) : ∀ {cmds : List Cmd} {k : List Item} {σ : St} {ps : List Prop}, run X M cmds k σ = some (ps, k', σ') → AllP ps → Wc X f M k' σ' res G' → Wc X f M k σ res G'
  | [], k, σ, ps, h, hp, hk => by
    simp only [run] at h
    split at h
    · rename_i k2 hc
      cases h
      exact fun G E0 w0 a w E hG hS => ctl_ok hS _ _ hc (hk G E0 w0 a w E hG hS)
    · cases h
  | .stop :: cs, k, σ, ps, h, hp, hk => by
    simp only [run, Option.some.injEq, Prod.mk.injEq] at h
    obtain ⟨rfl, rfl, rfl⟩ := h
    exact hk
  | .view t n' xs' :: cs, k, σ, ps, h, hp, hk => by
    simp only [run] at h
    split at h
    · rename_i k2 r wd lo n hc ht
      split at h
      · rename_i R hR
        split at h
        · cases h
        · rename_i hfb
          simp only [Bool.or_eq_true, not_or, Bool.not_eq_true, Bool.not_eq_true', Bool.not_eq_false] at hfb
          split at h
          · rename_i qs x hrun
            simp only [Option.some.injEq, Prod.mk.injEq] at h
            obtain ⟨rfl, rfl⟩ := h
            obtain ⟨⟨hfl, rfl, rfl, _⟩, hp2⟩ := AllP_append hp
            have ih := run_ok hm hmix hrun hp2 hk
            exact fun G E0 w0 a w E hG hS => ctl_ok hS _ _ hc (ih G E0 w0 a w _ hG (view_ok ht (.inl rfl) hR hfb.1.1 hfb.1.2 (Nat.eq_of_beq_eq_true hfb.2) hfl hS))
          · cases h
      · cases h
    · cases h
  | .whole t :: cs, k, σ, ps, h, hp, hk => by
    simp only [run] at h
    split at h
    · rename_i k2 r wd hc ht
      split at h
      · rename_i R hR
        split at h
        · cases h
        · rename_i hfb
          simp only [Bool.or_eq_true, not_or, Bool.not_eq_true, Bool.not_eq_true', Bool.not_eq_false] at hfb
          split at h
          · rename_i qs x hrun
            simp only [Option.some.injEq, Prod.mk.injEq] at h
            obtain ⟨rfl, rfl⟩ := h
            obtain ⟨⟨hfl, _⟩, hp2⟩ := AllP_append hp
            have ih := run_ok hm hmix hrun hp2 hk
            refine fun G E0 w0 a w E hG hS => ctl_ok hS _ _ hc (ih G E0 w0 a w (E.viewAt r σ.G.length (0 * wd) R.n) hG ?_)
            have hv := view_ok ht (.inr ⟨rfl, rfl, rfl⟩) hR hfb.1.1 hfb.1.2 (Nat.eq_of_beq_eq_true hfb.2) hfl hS
            have e : (R.xs.drop 0).take R.n = R.xs := by
              rw [List.drop_zero, ← (hS.rt r R hR).n]
              exact List.take_length
            rw [e] at hv
            exact hv
          · cases h
      · cases h
    · cases h
  | .frz r :: cs, k, σ, ps, h, hp, hk => by
    simp only [run] at h
    split at h
    · rename_i k2 R hc hR
      split at h
      · cases h
      · rename_i hfb
        simp only [Bool.or_eq_true, not_or, Bool.not_eq_true] at hfb
        have ih := run_ok hm hmix h hp hk
        exact fun G E0 w0 a w E hG hS => ctl_ok hS _ _ hc (ih G E0 w0 a w _ hG (frz_ok hR hfb.1 hfb.2 hS))
    · cases h
  | .own t wd :: cs, k, σ, ps, h, hp, hk => by
    simp only [run] at h
    split at h
    · rename_i k2 hc ht
      have ih := run_ok hm hmix h hp hk
      exact fun G E0 w0 a w E hG hS => ctl_ok hS _ _ hc (ih G E0 w0 a w _ hG (own_ok ht hS))
    · cases h
  | .canon keep live :: cs, k, σ, ps, h, hp, hk => by
    simp only [run] at h
    split at h
    · rename_i k2 σ2 hc hcan
      have ih := run_ok hm hmix h hp hk
      exact fun G E0 w0 a w E hG hS => ctl_ok hS _ _ hc (ih G E0 w0 a w _ hG (canon_ok hcan hS))
    · cases h
  | .reg hs :: cs, k, σ, ps, h, hp, hk => by
    simp only [run] at h
    split at h
    · rename_i id ops draw k2 hc
      split at h
      · rename_i ps1 σ2 hr
        split at h
        · rename_i qs r hrun
          cases h
          obtain ⟨hp1, hp2⟩ := AllP_append hp
          have ih := run_ok hm hmix hrun hp2 hk
          exact fun G E0 w0 a w E hG hS => ctl_ok hS _ _ hc (.code (region_ok hm hmix hr hp1 hS fun a' w' E' hS' => ⟨rfl, ih G E0 w0 a' w' E' hG hS'⟩))
        · cases h
      · cases h
    · cases h

end
end
end Go.Proofs.YtfnhclmdobdkbaaDoor.Ab
