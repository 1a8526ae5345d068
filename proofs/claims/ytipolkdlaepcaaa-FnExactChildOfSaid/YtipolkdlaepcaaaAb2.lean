/- The steps of functions on plain data, part 2: no condition. -/
import Derived.Test.YtipolkdlaepcaaaAb1
set_option linter.unusedVariables false
set_option linter.unusedSimpArgs false
namespace Go.Proofs.Ytipolkdlaepcaaa.Ab

section
variable {E : Env} {w : World} {g : Nat → Option Root} {cl : Bool} {ins : List Nat}

theorem Rep.fzc {d : D} {v : Value} (h : Rep E w .slot d v) (hd : d.fzc = true) : Rep E w .fz d v := by
  cases h with
  | int m k n => exact .int _ _ _
  | bool m b => exact .bool _ _
  | str m s => exact .str _ _
  | nil m => exact .nil _
  | flist m o wd n xs A cap us hm hn hc hw ha h => exact .flist _ _ _ _ _ _ _ us (.inr (.inl rfl)) hn hc hw ha h
  | olist m r p wd n xs A cap us hm hn hc hw ha h => rcases hm with h | h <;> cases h
  | _ => simp [D.fzc] at hd

theorem sub_at (cl : Bool) {k r : Nat} (h : ins[k]? = some r) : (E.sub cl ins).adr k = E.adr r ∧ (E.sub cl ins).len k = E.len r ∧ (E.sub cl ins).st k = .own := by
  simp [Env.sub, h]

theorem sub_shp (hd : distinct ins = true) {k r : Nat} (h : ins[k]? = some r) (hst : E.st r = .own) {N : Nat} (hs : Shp E w r N) : Shp (E.sub cl ins) w k N := by
  obtain ⟨h1, h2, h3⟩ := sub_at (E := E) cl h
  obtain ⟨s1, s2, cs, ty, s3, s4⟩ := hs
  unfold Shp
  rw [h1, h3, if_pos rfl]
  rw [hst, if_pos rfl] at s2
  refine ⟨s1, ?_, cs, ty, s3, s4⟩
  simp only [Env.sub, s2, idx_of hd h]
  simp

/-- A cell of what is lent. -/
theorem Rep.lent {m : Md} {d : D} {v : Value} (h : Rep E w m d v) (hd : distinct ins = true) {k r : Nat} (hk : ins[k]? = some r) : ∀ {m' : Md}, (m = .fz ∧ m' = .fz) ∨ (∃ p, m = .own r p ∧ m' = .own k p) ∨ (∃ p, m = .box r p ∧ m' = .box k p ∧ d.fzc = true) → Rep (E.sub cl ins) w m' d v := by
  induction h with
  | int m k n => intro m' _; exact .int _ _ _
  | bool m b => intro m' _; exact .bool _ _
  | str m s => intro m' _; exact .str _ _
  | nil m => intro m' _; exact .nil _
  | undef m v h =>
    intro m' hm
    rcases hm with ⟨rfl, _⟩ | ⟨_, rfl, _⟩ | ⟨_, _, _, hf⟩
    · rcases h with h | ⟨_, _, h⟩ <;> cases h
    · rcases h with h | ⟨_, _, h⟩ <;> cases h
    · simp [D.fzc] at hf
  | anyb b => intro m' hm; rcases hm with ⟨hm, _⟩ | ⟨_, hm, _⟩ | ⟨_, hm, _⟩ <;> cases hm
  | fn f caps vs hl h ih => intro m' hm; rcases hm with ⟨hm, _⟩ | ⟨_, hm, _⟩ | ⟨_, hm, _⟩ <;> cases hm
  | agg cs vs hl h ih => intro m' hm; rcases hm with ⟨hm, _⟩ | ⟨_, hm, _⟩ | ⟨_, hm, _⟩ <;> cases hm
  | tup cs vs hl h ih => intro m' hm; rcases hm with ⟨hm, _⟩ | ⟨_, hm, _⟩ | ⟨_, hm, _⟩ <;> cases hm
  | flist m o wd n xs A cap us hm' hn hc hw ha h ih =>
    intro m' hm
    refine .flist _ _ _ _ _ _ _ us ?_ hn hc hw (fun h0 => ?_) (fun i j x c hx hj => ih i j x c hx hj (.inl ⟨rfl, rfl⟩))
    · rcases hm' with rfl | rfl | rfl
      · rcases hm with ⟨hm, _⟩ | ⟨_, hm, _⟩ | ⟨_, hm, _⟩ <;> cases hm
      · rcases hm with ⟨_, rfl⟩ | ⟨_, hm, _⟩ | ⟨_, hm, _⟩
        · exact .inr (.inl rfl)
        · cases hm
        · cases hm
      · exact .inr (.inr rfl)
    · obtain ⟨b, hb, h1, h2, h3⟩ := ha h0
      exact ⟨b, hb, by simp [Env.sub, h1], h2, h3⟩
  | olist m r0 p wd n xs A cap us hm' hn hc hw ha h ih =>
    intro m' hm
    have key : r0 = r ∧ (m' = .own k p ∨ m' = .box k p) := by
      rcases hm with ⟨rfl, _⟩ | ⟨p0, rfl, rfl⟩ | ⟨p0, rfl, rfl, _⟩
      · rcases hm' with h | h <;> cases h
      · rcases hm' with h | h <;> cases h
        exact ⟨rfl, .inl rfl⟩
      · rcases hm' with h | h <;> cases h
        exact ⟨rfl, .inr rfl⟩
    obtain ⟨rfl, hm2⟩ := key
    refine .olist _ k p _ _ _ _ _ us hm2 hn hc hw (fun h0 => ?_) (fun i j x c hx hj => ih i j x c hx hj (.inr (.inl ⟨_, rfl, rfl⟩)))
    obtain ⟨a, cs, ty, rfl, hsp, ho, hh, hz, hcell⟩ := ha h0
    exact ⟨a, cs, ty, rfl, hsp, by simp [Env.sub, ho, idx_of hd hk], hh, hz, hcell⟩
  | ref m r wd vw v h' hs h => intro m' hm; rcases hm with ⟨rfl, _⟩ | ⟨_, rfl, _⟩ | ⟨_, _, _, hf⟩ <;> first | (rcases h' with h | ⟨_, _, h⟩ <;> cases h; done) | simp [D.fzc] at hf
  | ptr m r wd i j v h' hs h => intro m' hm; rcases hm with ⟨rfl, _⟩ | ⟨_, rfl, _⟩ | ⟨_, _, _, hf⟩ <;> first | (rcases h' with h | ⟨_, _, h⟩ <;> cases h; done) | simp [D.fzc] at hf
  | fptr m wd xs i j a us h' hw ha h ih => intro m' hm; rcases hm with ⟨rfl, _⟩ | ⟨_, rfl, _⟩ | ⟨_, _, _, hf⟩ <;> first | (rcases h' with h | ⟨_, _, h⟩ <;> cases h; done) | simp [D.fzc] at hf

/-- A pointer into rows that are only read. -/
theorem fptr_seen {wd : Nat} {xs xs' : List D} {i j : Nat} {v : Value} (h : Rep E w .slot (.fptr wd xs i j) v) (he : erL xs = erL xs') : Rep (E.sub cl ins) w .slot (.fptr wd xs' i j) v := by
  cases h with
  | fptr m wd xs i j a us hm hw ha h =>
    obtain ⟨h1, h2, h3⟩ := ha
    refine .fptr _ _ _ _ _ _ us (.inl rfl) (er_widths he hw) ⟨by simp [Env.sub, h1], h2, fun i j y c hy hc => ?_⟩ (fun i j y c hy hc => ?_)
    · obtain ⟨x, hx, hxe⟩ := er_get he hy
      obtain ⟨c0, hc0, _⟩ := er_get (er_cells hxe) hc
      exact h3 i j x c0 hx hc0
    · obtain ⟨x, hx, hxe⟩ := er_get he hy
      obtain ⟨c0, hc0, hce⟩ := er_get (er_cells hxe) hc
      exact ((h i j x c0 hx hc0).seen (.inl rfl)).er rfl c hce

theorem list_seen {o : Bool} {wd n : Nat} {xs xs' : List D} {v : Value} (h : Rep E w .slot (.list o wd n xs) v) (he : erL xs = erL xs') : Rep (E.sub cl ins) w .slot (.list false wd n xs') v := by
  have h1 : Rep E w .fz (.list o wd n xs) v := h.fzc rfl
  exact ((h1.seen (.inl rfl)).er rfl (.list false wd n xs') (by simp [D.er, he])).lift (.inl rfl)

/-- A pointer to a root, as a pointer to what is only read. -/
theorem ptr_seen {r : Nat} {R : Root} (h : RootRel E w r R) (hv : R.fz = true ∨ cl = false) (h0 : 0 < R.n) (hi : idx r 0 ins = none) {xs : List D} (hw : ∀ x ∈ xs, x.cells.length = R.w)
    (hx : ∀ (i j : Nat) y c, xs[i]? = some y → y.cells[j]? = some c → ∃ u, w.cell? ((E.adr r).add (i * R.w + j)) = some u ∧ Rep (E.sub cl ins) w .fz c u) (i j : Nat) :
    Rep (E.sub cl ins) w .slot (.fptr R.w xs i j) (.pointer (some ((E.adr r).add (i * R.w + j)))) := by
  have h1 : ∃ us : Nat → Nat → Value, ∀ (i j : Nat) x c, xs[i]? = some x → x.cells[j]? = some c → w.cell? ((E.adr r).add (i * R.w + j)) = some (us i j) ∧ Rep (E.sub cl ins) w .fz c (us i j) := by
    refine ⟨fun i j => (w.cell? ((E.adr r).add (i * R.w + j))).getD undef, fun i j x c hx' hj => ?_⟩
    obtain ⟨u, hu, hr⟩ := hx i j x c hx' hj
    refine ⟨by simp [hu], ?_⟩
    simp only [hu, Option.getD_some]
    exact hr
  obtain ⟨us, hus⟩ := h1
  obtain ⟨_, how, cs, ty, hh, _⟩ := h.shp h0
  exact .fptr _ _ _ _ _ _ us (.inl rfl) hw ⟨h.seen_ow hv hi h0, lt_of_get hh, fun i j x c hx' hj => (hus i j x c hx' hj).1⟩ (fun i j x c hx' hj => (hus i j x c hx' hj).2)

theorem arr_seen {r : Nat} {R : Root} (h : RootRel E w r R) (hv : R.fz = true ∨ cl = false) (hbox : R.box = false) (hi : idx r 0 ins = none) {xs : List D} (he : erL R.xs = erL xs) : ∀ (i j : Nat) y c, xs[i]? = some y → y.cells[j]? = some c →
    ∃ u, w.cell? ((E.adr r).add (i * R.w + j)) = some u ∧ Rep (E.sub cl ins) w .fz c u := fun i j y c hy hc => by
  obtain ⟨x, hx, hxe⟩ := er_get he hy
  obtain ⟨c0, hc0, hce⟩ := er_get (er_cells hxe) hc
  obtain ⟨u, hu, hr⟩ := h.cell i j x c0 hx hc0
  refine ⟨u, hu, (hr.seen ?_).er rfl c hce⟩
  unfold Root.md
  split
  · exact .inl rfl
  · rename_i hfz
    rw [hbox]
    exact .inr ⟨r, _, rfl, hi, hv.resolve_left hfz⟩

theorem lend_ok (hd : distinct ins = true) (hins : ∀ (k : Nat) r, ins[k]? = some r → E.st r = .own) (hg : ∀ r R, g r = some R → RootRel E w r R) : ∀ fuel : Nat,
    (∀ d d' ps v, lend cl g ins fuel d d' = some ps → AllP ps → Rep E w .slot d v → Rep (E.sub cl ins) w .slot d' v) ∧
    (∀ ds ds' ps, lendL cl g ins fuel ds ds' = some ps → AllP ps → ds.length = ds'.length ∧ ∀ (i : Nat) d d' v, ds[i]? = some d → ds'[i]? = some d' → Rep E w .slot d v → Rep (E.sub cl ins) w .slot d' v) := by
  intro fuel
  induction fuel with
  | zero =>
    refine ⟨fun d d' ps v h => by simp [lend] at h, fun ds ds' ps h hp => ?_⟩
    cases ds <;> cases ds' <;> simp [lendL] at h
    exact ⟨rfl, fun i d d' v h => by simp at h⟩
  | succ fuel ih =>
    obtain ⟨ih1, ih2⟩ := ih
    refine ⟨fun d d' ps v h hp hr => ?_, fun ds ds' ps h hp => ?_⟩
    · have noidx : ∀ {r w1 w2 : Nat}, ¬ (ins.any (Nat.beq r) || !Nat.beq w1 w2) = true → idx r 0 ins = none ∧ w1 = w2 := fun hn => by
        simp only [Bool.or_eq_true, Bool.not_eq_true', not_or, Bool.not_eq_true, Bool.not_eq_false] at hn
        exact ⟨idx_none hn.1, Nat.eq_of_beq_eq_true hn.2⟩
      have see : ∀ {R : Root}, ¬ (cl && !R.fz) = true → R.fz = true ∨ cl = false := fun {R} hn => by
        cases hc : cl <;> cases hf : R.fz <;> simp [hc, hf] at hn ⊢
      unfold lend at h
      split at h
      · -- a slice that is lent
        split at h
        · rename_i r' hr'
          split at h
          · rename_i hb
            simp only [Bool.and_eq_true] at hb
            cases h
            obtain ⟨rfl, _⟩ := hp
            have e1 := Nat.eq_of_beq_eq_true hb.1
            have e2 := Nat.eq_of_beq_eq_true hb.2
            subst e1 e2
            have hst := hins _ _ hr'
            obtain ⟨s1, s2, s3⟩ := sub_at (E := E) cl hr'
            obtain ⟨_, _, hal⟩ := hr.ref_inv
            obtain ⟨A, cap, rfl, hcap, hlen, hA⟩ := hal (.inl hst)
            have hV : ∀ vw, Vw (E.sub cl ins) _ vw = Vw E _ vw := fun vw => by cases vw with
              | none => exact congrArg (Prod.mk 0) s2
              | some x => rfl
            refine .ref _ _ _ _ _ (.inl rfl) (by rw [s3]; simp) fun _ => ⟨A, cap, by rw [hV], by rw [hV]; exact hcap, by rw [hV, s2]; exact hlen, fun h0 => ?_⟩
            rw [hV, s1]
            exact ⟨(hA h0).1, sub_shp hd hr' hst (hA h0).2⟩
          · cases h
        · cases h
      · -- a pointer that is lent
        split at h
        · rename_i r' hr'
          split at h
          · rename_i hb
            simp only [Bool.and_eq_true] at hb
            cases h
            obtain ⟨rfl, rfl, _⟩ := hp
            have e1 := Nat.eq_of_beq_eq_true hb.1
            have e2 := Nat.eq_of_beq_eq_true hb.2
            subst e1 e2
            have hst := hins _ _ hr'
            obtain ⟨s1, s2, s3⟩ := sub_at (E := E) cl hr'
            obtain ⟨_, _, hal⟩ := hr.ptr_inv
            refine .ptr _ _ _ _ _ _ (.inl rfl) (by rw [s3]; simp) fun _ => ?_
            rw [s1]
            exact hal (.inl hst)
          · cases h
        · cases h
      · split at h
        · cases h
        · rename_i hn
          obtain ⟨hi, rfl⟩ := noidx hn
          split at h
          · rename_i R hgw
            obtain ⟨hg', hRw⟩ := gw_some hgw
            split at h
            · cases h
            · rename_i hbox
              simp only [Bool.or_eq_true, not_or] at hbox
              obtain ⟨hbox, hsee⟩ := hbox
              cases h
              obtain ⟨rfl, he, _⟩ := hp
              have hR := hg _ _ hg'
              obtain ⟨_, _, hal⟩ := hr.ref_inv
              obtain ⟨A, cap, rfl, hcap, hlen, hA⟩ := hal hR.alive
              rw [vw_eq hR none] at *
              simp only [vlo, vln] at *
              subst hRw
              refine hR.seen (lo := 0) (see hsee) (by simpa using hbox) hi (by omega) hcap (fun h0 => (hA h0).1) ?_
              rw [List.drop_zero, List.take_of_length_le (by rw [hR.n]; exact Nat.le_refl _)]
              exact he
          · cases h
      · split at h
        · cases h
        · rename_i hn
          obtain ⟨hi, rfl⟩ := noidx hn
          split at h
          · rename_i R hgw
            obtain ⟨hg', hRw⟩ := gw_some hgw
            split at h
            · cases h
            · rename_i hbox
              simp only [Bool.or_eq_true, not_or] at hbox
              obtain ⟨hbox, hsee⟩ := hbox
              cases h
              obtain ⟨rfl, he, _⟩ := hp
              have hR := hg _ _ hg'
              obtain ⟨_, _, hal⟩ := hr.ref_inv
              obtain ⟨A, cap, rfl, hcap, hlen, hA⟩ := hal hR.alive
              simp only [Vw] at *
              subst hRw
              exact hR.seen (see hsee) (by simpa using hbox) hi (by rw [← hR.len]; exact hlen) hcap (fun h0 => (hA h0).1) he
          · cases h
      · split at h
        · cases h
        · rename_i hn
          obtain ⟨hi, rfl⟩ := noidx hn
          split at h
          · rename_i R hgw
            obtain ⟨hg', hRw⟩ := gw_some hgw
            have hR := hg _ _ hg'
            have hv := hr.ptr_inv.2.2 hR.alive
            subst hv hRw
            split at h
            · cases h
            rename_i hsee
            split at h
            · rename_i hbox
              split at h
              · rename_i cs cs' hxs
                split at h
                · rename_i hfz
                  simp only [Bool.and_eq_true] at hfz
                  split at h
                  · rename_i qs hq
                    cases h
                    obtain ⟨hp1, hp2⟩ := AllP_append hp
                    obtain ⟨rfl, rfl, _⟩ := hp1
                    obtain ⟨hl, hcells⟩ := ih2 _ _ _ hq hp2
                    have hn1 : R.n = 1 := by rw [← hR.n, hxs]; rfl
                    have hwd : cs.length = R.w := hR.wd (.agg cs) (by rw [hxs]; exact List.mem_singleton.2 rfl)
                    refine ptr_seen hR (see hsee) (by omega) hi (fun x hx => by simp only [List.mem_cons, List.not_mem_nil, or_false] at hx; subst hx; simp only [D.cells]; omega) (fun i j y c hy hc => ?_) _ _
                    cases i with
                    | succ i => simp at hy
                    | zero =>
                      simp only [List.getElem?_cons_zero, Option.some.injEq] at hy
                      subst hy
                      simp only [D.cells] at hc
                      have hlt : j < cs.length := by rw [hl]; exact (List.getElem?_eq_some_iff.1 hc).1
                      have hc0 : cs[j]? = some cs[j] := List.getElem?_eq_getElem hlt
                      obtain ⟨u, hu, hr'⟩ := hR.cell 0 j (.agg cs) _ (by rw [hxs]; rfl) hc0
                      exact ⟨u, hu, (hcells j _ c u hc0 hc (hr'.lift (.inr (List.all_eq_true.1 hfz.1 _ (List.mem_of_getElem? hc0))))).fzc (List.all_eq_true.1 hfz.2 _ (List.mem_of_getElem? hc))⟩
                  · cases h
                · cases h
              · cases h
            · rename_i hbox
              cases h
              obtain ⟨h0, he, rfl, rfl, _⟩ := hp
              exact ptr_seen hR (see hsee) h0 hi (er_widths he hR.wd) (arr_seen hR (see hsee) (by simpa using hbox) hi he) _ _
          · cases h
      · split at h
        · rename_i hb
          cases h
          obtain ⟨he, rfl, rfl, _⟩ := hp
          have := Nat.eq_of_beq_eq_true hb
          subst this
          exact fptr_seen hr he
        · cases h
      · split at h
        · rename_i hb
          have := Nat.eq_of_beq_eq_true hb
          subst this
          obtain ⟨hl, hcells⟩ := ih2 _ _ _ h hp
          cases hr with
          | fn f caps vs hl' h' =>
            refine .fn _ _ _ (by omega) (fun i c u hc hu => ?_)
            have hlt := (List.getElem?_eq_some_iff.1 hc).1
            rw [← hl] at hlt
            exact hcells i _ c u (List.getElem?_eq_getElem hlt) hc (h' i _ u (List.getElem?_eq_getElem hlt) hu)
        · cases h
      · obtain ⟨hl, hcells⟩ := ih2 _ _ _ h hp
        cases hr with
        | agg cs vs hl' h' =>
          refine .agg _ _ (by omega) (fun i c u hc hu => ?_)
          have hlt := (List.getElem?_eq_some_iff.1 hc).1
          rw [← hl] at hlt
          exact hcells i _ c u (List.getElem?_eq_getElem hlt) hc (h' i _ u (List.getElem?_eq_getElem hlt) hu)
      · split at h
        · rename_i hb
          cases h
          obtain ⟨rfl, he, _⟩ := hp
          have := Nat.eq_of_beq_eq_true hb
          subst this
          exact list_seen hr he
        · cases h
      · cases h
        obtain ⟨rfl, rfl, _⟩ := hp
        rw [hr.nil_inv]
        exact .flist _ _ _ _ _ _ _ (fun _ _ => undef) (.inl rfl) rfl (Nat.le_refl _) (by simp) (fun h => by omega) (fun i j x c h => by simp at h)
      · split at h
        · rename_i hk
          cases h
          obtain ⟨rfl, _⟩ := hp
          subst hk
          rw [hr.int_inv]
          exact .int _ _ _
        · cases h
      · cases h
        obtain ⟨rfl, _⟩ := hp
        rw [hr.bool_inv]
        exact .bool _ _
      · cases h
        obtain ⟨rfl, _⟩ := hp
        rw [hr.str_inv]
        exact .str _ _
      · cases h
        rw [hr.nil_inv]
        exact .nil _
      · cases h
    · cases ds <;> cases ds' <;> simp [lendL] at h
      · subst h
        exact ⟨rfl, fun i d d' v h => by simp at h⟩
      · rename_i d r d' r'
        split at h
        · rename_i p q h1 h2
          cases h
          obtain ⟨hp1, hp2⟩ := AllP_append hp
          obtain ⟨hl, hc⟩ := ih2 _ _ _ h2 hp2
          refine ⟨by simp [hl], fun i x x' v hx hx' hr => ?_⟩
          cases i with
          | zero =>
            simp only [List.getElem?_cons_zero, Option.some.injEq] at hx hx'
            subst hx hx'
            exact ih1 _ _ _ v h1 hp1 hr
          | succ i => exact hc i x x' v (by simpa using hx) (by simpa using hx') hr
        · cases h

end
end Go.Proofs.Ytipolkdlaepcaaa.Ab

namespace Go.Proofs.Ytipolkdlaepcaaa.Ab

/-! ### The books after a call -/
def newAt (nid : Nat) (cs : List D) (vs : List Value) (r : Nat) : Option (Addr × Nat) :=
  if nid ≤ r then match cs[r - nid]?, vs[r - nid]? with
    | some (.list true _ _ _), some (.slice A n _) => some (A.getD ⟨0, 0, none⟩, n)
    | _, _ => none
  else none
def bring (ins : List Nat) (nid : Nat) (cs : List D) : Bk → Bk
  | .own k p => match ins[k]? with
    | some r => .own r p
    | none => if k = ins.length then (match p with
      | (q, 0) :: p' => (match cs[q]? with
        | some (.list true _ _ _) => .own (nid + q) p'
        | _ => .far)
      | _ => .far) else .far
  | x => x
def Env.back (E E' : Env) (w : World) (ins : List Nat) (nid : Nat) (cs : List D) (vs : List Value) : Env :=
  { adr := fun r => match newAt nid cs vs r with | some x => x.1 | none => E.adr r
    len := fun r => match newAt nid cs vs r with | some x => x.2 | none => E.len r
    ow := fun b => if b < w.heap.size then (match E.ow b with
      | .own r p => (match idx r 0 ins with | none => .own r p | some _ => bring ins nid cs (E'.ow b))
      | x => x) else bring ins nid cs (E'.ow b)
    st := fun r => match newAt nid cs vs r with | some _ => .own | none => E.st r }

section
variable {E E' E2 : Env} {w w' : World}

theorem nfL_mem : ∀ {xs : List D}, nfL xs → ∀ x ∈ xs, x.nf
  | [], _, x, hx => by cases hx
  | y :: ys, h, x, hx => by
    simp only [nfL] at h
    rcases List.mem_cons.1 hx with rfl | hx
    · exact h.1
    · exact nfL_mem h.2 x hx

theorem nf_cells {x c : D} (h : x.nf) (hc : c ∈ x.cells) : c.nf := by
  cases x <;> simp [D.cells] at hc <;> first | (subst hc; exact h) | skip
  simp only [D.nf] at h
  exact nfL_mem h c hc

theorem Rep.back {cl : Prop} (hfz : cl → ∀ b, b < w.heap.size → E.ow b = .fz → E2.ow b = .fz) : ∀ {m : Md} {d : D} {v : Value}, Rep E w m d v → ∀ {m' : Md},
    (m = .fz ∧ m' = .fz ∧ cl) ∨ (∃ k p r p', m = .own k p ∧ m' = .own r p' ∧ Lab E w E2 w k p r p' ∧ (cl ∨ d.nf)) ∨ (∃ k p r p', m = .box k p ∧ m' = .box r p' ∧ Lab E w E2 w k p r p' ∧ (cl ∨ d.nf) ∧ d.fzc = true) → Rep E2 w m' d v := by
  intro m d v h
  induction h with
  | int m k n => intro m' _; exact .int _ _ _
  | bool m b => intro m' _; exact .bool _ _
  | str m s => intro m' _; exact .str _ _
  | nil m => intro m' _; exact .nil _
  | undef m v h =>
    intro m' hm
    rcases hm with ⟨rfl, _⟩ | ⟨_, _, _, _, rfl, _⟩ | ⟨_, _, _, _, _, _, _, _, hf⟩
    · rcases h with h | ⟨_, _, h⟩ <;> cases h
    · rcases h with h | ⟨_, _, h⟩ <;> cases h
    · simp [D.fzc] at hf
  | anyb b => intro m' hm; rcases hm with ⟨hm, _⟩ | ⟨_, _, _, _, hm, _⟩ | ⟨_, _, _, _, hm, _⟩ <;> cases hm
  | fn f caps vs hl h ih => intro m' hm; rcases hm with ⟨hm, _⟩ | ⟨_, _, _, _, hm, _⟩ | ⟨_, _, _, _, hm, _⟩ <;> cases hm
  | agg cs vs hl h ih => intro m' hm; rcases hm with ⟨hm, _⟩ | ⟨_, _, _, _, hm, _⟩ | ⟨_, _, _, _, hm, _⟩ <;> cases hm
  | tup cs vs hl h ih => intro m' hm; rcases hm with ⟨hm, _⟩ | ⟨_, _, _, _, hm, _⟩ | ⟨_, _, _, _, hm, _⟩ <;> cases hm
  | flist m o wd n xs A cap us hm' hn hc hw ha h ih =>
    intro m' hm
    have hcl : cl := by
      rcases hm with ⟨_, _, h⟩ | ⟨_, _, _, _, rfl, _, _, h⟩ | ⟨_, _, _, _, rfl, _, _, h, _⟩
      · exact h
      · rcases hm' with h' | h' | rfl
        · cases h'
        · cases h'
        · rcases h with h | h
          · exact h
          · simp [D.nf] at h
      · rcases hm' with h' | h' | rfl
        · cases h'
        · cases h'
        · rcases h with h | h
          · exact h
          · simp [D.nf] at h
    refine .flist _ _ _ _ _ _ _ us ?_ hn hc hw (fun h0 => ?_) (fun i j x c hx hj => ih i j x c hx hj (.inl ⟨rfl, rfl, hcl⟩))
    · rcases hm with ⟨_, rfl, _⟩ | ⟨_, _, _, _, rfl, _⟩ | ⟨_, _, _, _, rfl, _⟩
      · exact .inr (.inl rfl)
      · rcases hm' with h' | h' | rfl
        · cases h'
        · cases h'
        · exact .inr (.inr rfl)
      · rcases hm' with h' | h' | rfl
        · cases h'
        · cases h'
        · exact .inr (.inr rfl)
    · obtain ⟨b, hb, h1, h2, h3⟩ := ha h0
      exact ⟨b, hb, hfz hcl _ h2 h1, h2, h3⟩
  | olist m k p wd n xs A cap us hm' hn hc hw ha h ih =>
    intro m' hm
    have key : ∃ r p', (m' = .own r p' ∨ m' = .box r p') ∧ Lab E w E2 w k p r p' ∧ (cl ∨ nfL xs) := by
      rcases hm with ⟨rfl, _⟩ | ⟨k', p0, r, p', rfl, rfl, hL, hc⟩ | ⟨k', p0, r, p', rfl, rfl, hL, hc, _⟩
      · rcases hm' with h | h <;> cases h
      · rcases hm' with h | h <;> cases h
        exact ⟨_, _, .inl rfl, hL, hc.imp id (fun h => by simpa [D.nf] using h)⟩
      · rcases hm' with h | h <;> cases h
        exact ⟨_, _, .inr rfl, hL, hc.imp id (fun h => by simpa [D.nf] using h)⟩
    obtain ⟨r, p', hm2, hL, hcl⟩ := key
    refine .olist _ r p' _ _ _ _ _ us hm2 hn hc hw (fun h0 => ?_) (fun i j x c hx hj => ih i j x c hx hj (.inr (.inl ⟨_, _, _, _, rfl, rfl, hL.kid _, hcl.imp id fun h => nf_cells (nfL_mem h x (List.mem_of_getElem? hx)) (List.mem_of_getElem? hj)⟩)))
    obtain ⟨a, cs, ty, rfl, hsp, ho, hh, hz, hcell⟩ := ha h0
    exact ⟨a, cs, ty, rfl, hsp, by simpa using (hL a.block [] (lt_of_get hh) (by simpa using ho)).2, hh, hz, hcell⟩
  | ref m r wd vw v h' hs h => intro m' hm; rcases hm with ⟨rfl, _⟩ | ⟨_, _, _, _, rfl, _⟩ | ⟨_, _, _, _, _, _, _, _, hf⟩ <;> first | (rcases h' with h | ⟨_, _, h⟩ <;> cases h; done) | simp [D.fzc] at hf
  | ptr m r wd i j v h' hs h => intro m' hm; rcases hm with ⟨rfl, _⟩ | ⟨_, _, _, _, rfl, _⟩ | ⟨_, _, _, _, _, _, _, _, hf⟩ <;> first | (rcases h' with h | ⟨_, _, h⟩ <;> cases h; done) | simp [D.fzc] at hf
  | fptr m wd xs i j a us h' hw ha h ih => intro m' hm; rcases hm with ⟨rfl, _⟩ | ⟨_, _, _, _, rfl, _⟩ | ⟨_, _, _, _, _, _, _, _, hf⟩ <;> first | (rcases h' with h | ⟨_, _, h⟩ <;> cases h; done) | simp [D.fzc] at hf

/-! ### The results, cell by cell -/
def flatV : List D → List Value → List Value
  | .agg _ :: ds, .agg vs :: us => vs.toList ++ flatV ds us
  | _ :: ds, u :: us => u :: flatV ds us
  | _, _ => []

theorem ResAll.flat {M : Nat} : ∀ {res : List D} {us : List Value} {q : Nat}, ResAll E w M q res us → (flatV res us).length = (res.flatMap D.cells).length ∧
    ∀ (j : Nat) c x, (res.flatMap D.cells)[j]? = some c → (flatV res us)[j]? = some x → Rep E w (.own M [(q + j, 0)]) c x
  | [], [], q, _ => ⟨rfl, fun j c x h => by simp at h⟩
  | [], _ :: _, q, h => h.elim
  | _ :: _, [], q, h => h.elim
  | d :: ds, u :: us, q, h => by
    obtain ⟨h1, h2⟩ := h
    obtain ⟨hl, hr⟩ := ResAll.flat h2
    by_cases hd : ∃ cs, d = .agg cs
    · obtain ⟨cs, rfl⟩ := hd
      obtain ⟨vs, rfl, hvl, hv⟩ := h1
      simp only [flatV, List.flatMap_cons, D.cells] at *
      refine ⟨by simp [hl, hvl], fun j c x hc hx => ?_⟩
      by_cases hj : j < cs.length
      · rw [List.getElem?_append_left hj] at hc
        rw [List.getElem?_append_left (by simp; omega)] at hx
        exact hv j c x hc (by simpa using hx)
      · rw [List.getElem?_append_right (by omega)] at hc
        rw [List.getElem?_append_right (by simp; omega)] at hx
        have := hr (j - cs.length) c x hc (by rw [hvl]; simpa using hx)
        rwa [show q + cs.length + (j - cs.length) = q + j by omega] at this
    · have e1 : d.cells = [d] := by cases d <;> first | rfl | exact absurd ⟨_, rfl⟩ hd
      have e2 : flatV (d :: ds) (u :: us) = u :: flatV ds us := by cases d <;> first | rfl | exact absurd ⟨_, rfl⟩ hd
      have e3 : Rep E w (.own M [(q, 0)]) d u := by cases d <;> first | exact h1 | exact absurd ⟨_, rfl⟩ hd
      rw [e1] at hr
      rw [e2, List.flatMap_cons, e1]
      refine ⟨by simp [hl], fun j c x hc hx => ?_⟩
      cases j with
      | zero =>
        simp only [List.cons_append, List.getElem?_cons_zero, Option.some.injEq] at hc hx
        subst hc hx
        exact e3
      | succ j =>
        have := hr j c x (by simpa using hc) (by simpa using hx)
        rwa [show q + [d].length + j = q + (j + 1) by simp; omega] at this

theorem takeL_get : ∀ {cs : List D} {id j : Nat} {d : D}, (takeL id cs)[j]? = some d → ∃ c, cs[j]? = some c ∧ d = take1 (id + j) c
  | [], id, j, d, h => by simp [takeL] at h
  | c :: cs, id, j, d, h => by
    cases j with
    | zero =>
      simp only [takeL, List.getElem?_cons_zero, Option.some.injEq] at h
      exact ⟨c, rfl, h.symm⟩
    | succ j =>
      simp only [takeL, List.getElem?_cons_succ] at h
      obtain ⟨c', h1, h2⟩ := takeL_get h
      exact ⟨c', by simpa using h1, by rw [h2]; congr 1; omega⟩

theorem takeL_len : ∀ (cs : List D) (id : Nat), (takeL id cs).length = cs.length
  | [], _ => rfl
  | c :: cs, id => by simp [takeL, takeL_len cs]

theorem ResAll.take {M : Nat} : ∀ {res : List D} {us : List Value} {q id : Nat}, ResAll E w M q res us →
    (∀ (j : Nat) c x, (res.flatMap D.cells)[j]? = some c → (flatV res us)[j]? = some x → Rep E2 w' .slot (take1 (id + j) c) x) →
    us.length = (takeVs id res).length ∧ ∀ (i : Nat) d u, (takeVs id res)[i]? = some d → us[i]? = some u → Rep E2 w' .slot d u
  | [], [], q, id, _, _ => ⟨rfl, fun j c x h => by simp [takeVs] at h⟩
  | [], _ :: _, q, id, h, _ => h.elim
  | _ :: _, [], q, id, h, _ => h.elim
  | d :: ds, u :: us, q, id, h, hr => by
    obtain ⟨h1, h2⟩ := h
    by_cases hd : ∃ cs, d = .agg cs
    · obtain ⟨cs, rfl⟩ := hd
      obtain ⟨vs, rfl, hvl, hv⟩ := h1
      simp only [flatV, List.flatMap_cons, D.cells] at hr
      obtain ⟨hl, hh⟩ := ResAll.take (id := id + cs.length) h2 (fun j c x hc hx => by
        have := hr (cs.length + j) c x (by rw [List.getElem?_append_right (by omega)]; simpa using hc) (by rw [List.getElem?_append_right (by simp; omega)]; simpa [hvl] using hx)
        rwa [← Nat.add_assoc] at this)
      refine ⟨by simp [takeVs, hl, D.cells], fun i d' u' hd' hu' => ?_⟩
      cases i with
      | zero =>
        simp only [takeVs, takeV, List.getElem?_cons_zero, Option.some.injEq] at hd' hu'
        subst hd' hu'
        refine .agg _ _ (by rw [takeL_len]; exact hvl) (fun j c x hc hx => ?_)
        obtain ⟨c', hc', rfl⟩ := takeL_get hc
        have hlt := (List.getElem?_eq_some_iff.1 hc').1
        exact hr j c' x (by rw [List.getElem?_append_left hlt]; exact hc') (by rw [List.getElem?_append_left (by simp; omega)]; simpa using hx)
      | succ i => exact hh i d' u' (by simpa [takeVs, D.cells] using hd') (by simpa using hu')
    · have e1 : d.cells = [d] := by cases d <;> first | rfl | exact absurd ⟨_, rfl⟩ hd
      have e2 : flatV (d :: ds) (u :: us) = u :: flatV ds us := by cases d <;> first | rfl | exact absurd ⟨_, rfl⟩ hd
      have e4 : takeV id d = take1 id d := by cases d <;> first | rfl | exact absurd ⟨_, rfl⟩ hd
      rw [e2, List.flatMap_cons, e1] at hr
      obtain ⟨hl, hh⟩ := ResAll.take (id := id + 1) h2 (fun j c x hc hx => by
        have := hr (j + 1) c x (by simpa using hc) (by simpa using hx)
        rwa [show id + (j + 1) = id + 1 + j by omega] at this)
      refine ⟨by simp [takeVs, e1, hl], fun i d' u' hd' hu' => ?_⟩
      cases i with
      | zero =>
        simp only [takeVs, e4, List.getElem?_cons_zero, Option.some.injEq] at hd' hu'
        subst hd' hu'
        exact hr 0 d u rfl rfl
      | succ i => exact hh i d' u' (by simpa [takeVs, e1] using hd') (by simpa using hu')

theorem pack_rep {ds : List D} {us : List Value} (hl : us.length = ds.length) (h : ∀ (i : Nat) d u, ds[i]? = some d → us[i]? = some u → Rep E w .slot d u) : Rep E w .slot (oneOrTup ds) (pack us) := by
  match ds, us, hl with
  | [], [], _ => exact .tup _ _ rfl (fun i c u hc => by simp at hc)
  | [d], [u], _ => exact h 0 d u rfl rfl
  | d :: d' :: ds, u :: u' :: us, hl =>
    refine .tup _ _ (by simp at hl ⊢; omega) (fun i c x hc hx => h i c x hc (by simpa using hx))

/-! ### What is lent and what comes back, in lists -/
theorem rootsOf_ok {g : Nat → Option Root} : ∀ {ins : List Nat} {G : List Root}, rootsOf g ins = some G → G.length = ins.length ∧ ∀ (k : Nat) r, ins[k]? = some r → ∃ R, g r = some R ∧ G[k]? = some R ∧ R.fz = false ∧ rless R = true
  | [], G, h => by
    simp only [rootsOf, Option.some.injEq] at h
    subst h
    exact ⟨rfl, fun k r h => by simp at h⟩
  | r :: rs, G, h => by
    simp only [rootsOf] at h
    split at h
    · rename_i R Rs h1 h2
      split at h
      · cases h
      · rename_i hc
        cases h
        simp only [Bool.or_eq_true, Bool.not_eq_true', not_or, Bool.not_eq_true, Bool.not_eq_false] at hc
        obtain ⟨hl, hh⟩ := rootsOf_ok h2
        refine ⟨by simp [hl], fun k r' hk => ?_⟩
        cases k with
        | zero =>
          simp only [List.getElem?_cons_zero, Option.some.injEq] at hk
          subst hk
          exact ⟨R, h1, rfl, hc.1, hc.2⟩
        | succ k => simpa using hh k r' (by simpa using hk)
    · cases h

theorem sameB_eq {a b : Bool} (h : sameB a b = true) : a = b := by cases a <;> cases b <;> simp [sameB] at h <;> rfl

theorem updAt_ok : ∀ {ins : List Nat} {G G' : List Root} {ps : List Prop} {us : List (Nat × Option Root)}, updAt ins G G' = some (ps, us) → AllP ps → G'.length = ins.length ∧
    (∀ (k : Nat) r, ins[k]? = some r → ∃ R R', G[k]? = some R ∧ G'[k]? = some R' ∧ R'.n = R.n ∧ R.w = R'.w ∧ R.box = R'.box ∧ R'.fz = false ∧ rless R' = true ∧ (r, some R') ∈ us) ∧
    ∀ u ∈ us, ∃ (k : Nat) (R' : Root), ins[k]? = some u.1 ∧ G'[k]? = some R' ∧ u.2 = some R'
  | [], [], [], ps, us, h, hp => by
    simp only [updAt, Option.some.injEq, Prod.mk.injEq] at h
    obtain ⟨rfl, rfl⟩ := h
    exact ⟨rfl, fun k r h => by simp at h, fun u h => by cases h⟩
  | r :: rs, R :: Rs, R' :: Rs', ps, us, h, hp => by
    simp only [updAt] at h
    split at h
    · rename_i ps' u' hu
      split at h
      · rename_i hc
        cases h
        simp only [Bool.and_eq_true, Bool.not_eq_true'] at hc
        obtain ⟨⟨⟨hw, hb⟩, hf⟩, hr⟩ := hc
        obtain ⟨hl, h1, h2⟩ := updAt_ok hu hp.2
        refine ⟨by simp [hl], fun k r' hk => ?_, fun u hu' => ?_⟩
        · cases k with
          | zero =>
            simp only [List.getElem?_cons_zero, Option.some.injEq] at hk
            subst hk
            exact ⟨R, R', rfl, rfl, hp.1, Nat.eq_of_beq_eq_true hw, sameB_eq hb, hf, hr, List.mem_cons_self ..⟩
          | succ k =>
            obtain ⟨R1, R1', a1, a2, a3, a4, a5, a6, a7, a8⟩ := h1 k r' (by simpa using hk)
            exact ⟨R1, R1', by simpa using a1, by simpa using a2, a3, a4, a5, a6, a7, List.mem_cons_of_mem _ a8⟩
        · rcases List.mem_cons.1 hu' with rfl | hu'
          · exact ⟨0, R', rfl, rfl, rfl⟩
          · obtain ⟨k, R1, a1, a2, a3⟩ := h2 u hu'
            exact ⟨k + 1, R1, by simpa using a1, by simpa using a2, a3⟩
      · cases h
    · cases h
  | [], [], _ :: _, _, _, h, _ => by simp [updAt] at h
  | [], _ :: _, _, _, _, h, _ => by simp [updAt] at h
  | _ :: _, [], _, _, _, h, _ => by simp [updAt] at h
  | _ :: _, _ :: _, [], _, _, h, _ => by simp [updAt] at h

theorem news_mem : ∀ {cs : List D} {id : Nat} {u : Nat × Option Root}, u ∈ news id cs → ∃ j wd n xs, cs[j]? = some (.list true wd n xs) ∧ u = (id + j, some ⟨false, false, wd, n, xs⟩)
  | [], id, u, h => by simp [news] at h
  | c :: cs, id, u, h => by
    simp only [news] at h
    have tail : u ∈ news (id + 1) cs → ∃ j wd n xs, (c :: cs)[j]? = some (.list true wd n xs) ∧ u = (id + j, some ⟨false, false, wd, n, xs⟩) := fun h => by
      obtain ⟨j, wd, n, xs, h1, rfl⟩ := news_mem h
      exact ⟨j + 1, wd, n, xs, by simpa using h1, by congr 1; omega⟩
    split at h
    · rename_i R hR
      rcases List.mem_cons.1 h with rfl | h
      · unfold newR at hR
        split at hR
        · cases hR
          exact ⟨0, _, _, _, rfl, rfl⟩
        · cases hR
      · exact tail h
    · exact tail h

theorem mem_news : ∀ {cs : List D} {id j wd n : Nat} {xs : List D}, cs[j]? = some (.list true wd n xs) → (id + j, some ⟨false, false, wd, n, xs⟩) ∈ news id cs
  | [], id, j, wd, n, xs, h => by simp at h
  | c :: cs, id, j, wd, n, xs, h => by
    cases j with
    | zero =>
      simp only [List.getElem?_cons_zero, Option.some.injEq] at h
      subst h
      simp only [news, newR]
      exact List.mem_cons_self ..
    | succ j =>
      have h1 := mem_news (id := id + 1) (by simpa using h : cs[j]? = some (.list true wd n xs))
      rw [show id + 1 + j = id + (j + 1) by omega] at h1
      simp only [news]
      split
      · exact List.mem_cons_of_mem _ h1
      · exact h1

end
end Go.Proofs.Ytipolkdlaepcaaa.Ab

namespace Go.Proofs.Ytipolkdlaepcaaa.Ab

section
variable {X : Ctx} {o : Oper} {E E' Ec : Env} {w w' : World} {a : Act} {ρ : Operand → Option D} {g : Nat → Option Root} {nid : Nat}

theorem newAt_some {cs : List D} {vs : List Value} {r : Nat} {x : Addr × Nat} (h : newAt nid cs vs r = some x) : ∃ j wd n xs A m cap, r = nid + j ∧ cs[j]? = some (.list true wd n xs) ∧ vs[j]? = some (.slice A m cap) ∧ x = (A.getD ⟨0, 0, none⟩, m) := by
  unfold newAt at h
  split at h
  · rename_i hle
    split at h
    · rename_i wd n xs A m cap h1 h2
      cases h
      exact ⟨r - nid, wd, n, xs, A, m, cap, by omega, h1, h2, rfl⟩
    · cases h
  · cases h

theorem newAt_at {cs : List D} {vs : List Value} {j wd n m cap : Nat} {xs : List D} {A : Option Addr} (h : cs[j]? = some (.list true wd n xs)) (h' : vs[j]? = some (.slice A m cap)) : newAt nid cs vs (nid + j) = some (A.getD ⟨0, 0, none⟩, m) := by
  unfold newAt
  rw [if_pos (by omega), show nid + j - nid = j by omega, h, h']

theorem nfG_mem : ∀ {G : List Root}, nfG G → ∀ R ∈ G, nfL R.xs
  | [], _, R, h => by cases h
  | R' :: G, h, R, hm => by
    simp only [nfG] at h
    rcases List.mem_cons.1 hm with rfl | hm
    · exact h.1
    · exact nfG_mem h.2 R hm

theorem ext_back {cl : Bool} {ins : List Nat} {G G' : List Root} {res : List D} {qs : List Prop} {us : List (Nat × Option Root)} {rv : List Value}
    (hd : distinct ins = true) (hg : ∀ r R, g r = some R → RootRel E w r R) (hlt : ∀ r R, g r = some R → r < nid) (hG : rootsOf g ins = some G) (hU : updAt ins G G' = some (qs, us)) (hqs : AllP qs)
    (hnf : cl = true ∨ nfL (res.flatMap D.cells) ∧ nfG G') (hfresh : ∀ u ∈ us ++ news nid (res.flatMap D.cells), nid ≤ u.1 → E.st u.1 = .fresh) (hres : res.all resOk = true)
    (hF : Frm G.length (E.sub cl ins) w E' w') (hRR : ∀ (k : Nat) R, G'[k]? = some R → RootRel E' w' k R) (hRes : ResAll E' w' G.length 0 res rv) :
    ∃ E2, Ext E w E2 w' (us ++ news nid (res.flatMap D.cells)) ∧ Rep E2 w' .slot (oneOrTup (takeVs nid res)) (pack rv) := by
  obtain ⟨hGl, hGr⟩ := rootsOf_ok hG
  obtain ⟨hGl', hUr, hUu⟩ := updAt_ok hU hqs
  obtain ⟨hfl, hflat⟩ := hRes.flat
  generalize hcs : res.flatMap D.cells = cs at *
  generalize hvs : flatV res rv = vs at *
  have hE2 : ∃ E2, E2 = E.back E' w ins nid cs vs := ⟨_, rfl⟩
  obtain ⟨E2, hE2⟩ := hE2
  -- lent roots are owned
  have hown : ∀ (k : Nat) r, ins[k]? = some r → E.st r = .own := fun k r hk => by
    obtain ⟨R, h1, _, h3, _⟩ := hGr k r hk
    have := (hg _ _ h1).st
    rw [h3] at this
    exact this
  have hinlt : ∀ (k : Nat) r, ins[k]? = some r → r < nid := fun k r hk => by
    obtain ⟨R, h1, _⟩ := hGr k r hk
    exact hlt _ _ h1
  -- the new ones
  have hnewf : ∀ r x, newAt nid cs vs r = some x → E.st r = .fresh := fun r x h => by
    obtain ⟨j, wd, n, xs, A, m, cap, rfl, h1, _⟩ := newAt_some h
    exact hfresh _ (List.mem_append_right _ (mem_news h1)) (by simp)
  have hst : ∀ r, newAt nid cs vs r = none → E2.st r = E.st r ∧ E2.adr r = E.adr r ∧ E2.len r = E.len r := fun r h => by
    subst hE2
    simp [Env.back, h]
  have hold : ∀ r, E.st r ≠ .fresh → newAt nid cs vs r = none := fun r h => by
    cases hn : newAt nid cs vs r with
    | none => rfl
    | some x => exact absurd (hnewf _ _ hn) h
  -- blocks
  have how_in : ∀ b r p k, b < w.heap.size → E.ow b = .own r p → idx r 0 ins = some k → E2.ow b = bring ins nid cs (E'.ow b) := fun b r p k hb h1 h2 => by
    subst hE2
    simp [Env.back, hb, h1, h2]
  have how_out : ∀ b r p, b < w.heap.size → E.ow b = .own r p → idx r 0 ins = none → E2.ow b = .own r p := fun b r p hb h1 h2 => by
    subst hE2
    simp [Env.back, hb, h1, h2]
  have how_new : ∀ b, ¬ b < w.heap.size → E2.ow b = bring ins nid cs (E'.ow b) := fun b hb => by
    subst hE2
    simp [Env.back, hb]
  have how_fz : ∀ b, b < w.heap.size → E.ow b = .fz → w'.heap[b]? = w.heap[b]? ∧ E'.ow b = .fz ∧ E2.ow b = .fz := fun b hb h => by
    obtain ⟨h1, h2⟩ := hF.fz b hb (by simp [Env.sub, h])
    refine ⟨h1, h2, ?_⟩
    subst hE2
    simp [Env.back, hb, h]
  have how_far : ∀ b, b < w.heap.size → E.ow b = .far → w'.heap[b]? = w.heap[b]? ∧ E'.ow b = .far ∧ E2.ow b = .far := fun b hb h => by
    obtain ⟨h1, h2⟩ := hF.far b hb (by simp [Env.sub, h])
    refine ⟨h1, h2, ?_⟩
    subst hE2
    simp [Env.back, hb, h]
  have how_own : ∀ b r p, b < w.heap.size → E.ow b = .own r p → idx r 0 ins = none → w'.heap[b]? = w.heap[b]? ∧ E'.ow b = (if cl then .far else .fz) := fun b r p hb h hi => by
    cases cl with
    | true => exact hF.far b hb (by simp [Env.sub, h, hi])
    | false => exact hF.fz b hb (by simp [Env.sub, h, hi])
  -- what the callee owns, at the end
  have hbring : ∀ b k p, E'.ow b = .own k p → E2.ow b = bring ins nid cs (.own k p) := fun b k p h => by
    by_cases hb : b < w.heap.size
    · cases ho : E.ow b with
      | fz => have := (how_fz b hb ho).2.1; rw [h] at this; cases this
      | far => have := (how_far b hb ho).2.1; rw [h] at this; cases this
      | own r p0 =>
        cases hi : idx r 0 ins with
        | none => have := (how_own b r p0 hb ho hi).2; rw [h] at this; split at this <;> cases this
        | some k0 => rw [how_in b r p0 k0 hb ho hi, h]
    · rw [how_new b hb, h]
  have hLab : ∀ (k : Nat) r p, ins[k]? = some r → Lab E' w' E2 w' k p r p := fun k r p hk b q hb ho => ⟨rfl, by rw [hbring b k _ ho]; simp [bring, hk]⟩
  have hLabM : ∀ (q wd n : Nat) xs, cs[q]? = some (.list true wd n xs) → Lab E' w' E2 w' G.length [(q, 0)] (nid + q) [] := fun q wd n xs hq b p hb ho => ⟨rfl, by
    rw [hbring b _ _ ho]
    have h1 : ins[G.length]? = none := List.getElem?_eq_none (by omega)
    simp [bring, h1, hGl, hq]⟩
  have hfzc : cl = true → ∀ b, b < w'.heap.size → E'.ow b = .fz → E2.ow b = .fz := fun hc b _ h => by
    by_cases hb : b < w.heap.size
    · cases ho : E.ow b with
      | fz => exact (how_fz b hb ho).2.2
      | far => have := (how_far b hb ho).2.1; rw [h] at this; cases this
      | own r p0 =>
        cases hi : idx r 0 ins with
        | none => have := (how_own b r p0 hb ho hi).2; rw [h, hc] at this; cases this
        | some k0 => rw [how_in b r p0 k0 hb ho hi, h]; rfl
    · rw [how_new b hb, h]; rfl
  -- addresses of what was lent
  have hadr : ∀ (k : Nat) r, ins[k]? = some r → E'.adr k = E.adr r := fun k r hk => by
    have hlt' : k < G.length := by rw [hGl]; exact (List.getElem?_eq_some_iff.1 hk).1
    rw [hF.adr k hlt']
    exact (sub_at cl hk).1
  have hst' : ∀ (k : Nat) r, ins[k]? = some r → E'.st k = .own := fun k r hk => by
    obtain ⟨R, R', _, h2, _, _, _, hf, _⟩ := hUr k r hk
    have := (hRR k R' h2).st
    rw [hf] at this
    exact this
  have hshpin : ∀ (k : Nat) r N, ins[k]? = some r → Shp E' w' k N → Shp E2 w' r N := fun k r N hk h => by
    obtain ⟨s1, s2, ds, ty, s3, s4⟩ := h
    rw [hst' k r hk, if_pos rfl] at s2
    rw [hadr k r hk] at s1 s2 s3 s4
    have hr := hst r (hold r (by rw [hown k r hk]; simp))
    unfold Shp
    rw [hr.2.1, hr.1, hown k r hk, if_pos rfl]
    exact ⟨s1, by rw [hbring _ _ _ s2]; simp [bring, hk], ds, ty, s3, s4⟩
  have hM : Mv E w E2 w' := by
    refine ⟨hF.sz, fun b hb h => ⟨(how_fz b hb h).1, (how_fz b hb h).2.2⟩, fun r h => ?_, fun r h hal => ?_⟩
    · rw [(hst r (hold r h)).1]; exact h
    · obtain ⟨h1, h2, h3⟩ := hst r (hold r h)
      refine ⟨?_, h2, h3, fun N hs => ?_⟩
      · unfold Alive at *
        rw [h1] at hal
        exact hal
      · cases hi : idx r 0 ins with
        | some k =>
          obtain ⟨i, rfl, hk⟩ := idx_some hi
          simp only [Nat.zero_add] at hi
          refine hshpin i r N hk ?_
          exact (hF.shp i (by rw [hGl]; exact (List.getElem?_eq_some_iff.1 hk).1) (hst' i r hk)).2 N (sub_shp hd hk (hown i r hk) hs)
        | none =>
          obtain ⟨s1, s2, ds, ty, s3, s4⟩ := hs
          have hb := lt_of_get s3
          unfold Shp
          rw [h2, h1]
          cases hs : E.st r with
          | own =>
            rw [hs, if_pos rfl] at s2
            exact ⟨s1, how_out _ _ _ hb s2 hi, ds, ty, (how_own _ _ _ hb s2 hi).1.trans s3, s4⟩
          | fz =>
            simp only [hs] at s2
            exact ⟨s1, (how_fz _ hb (by simpa using s2)).2.2, ds, ty, (how_fz _ hb (by simpa using s2)).1.trans s3, s4⟩
          | dead =>
            simp only [hs] at s2
            exact ⟨s1, (how_fz _ hb (by simpa using s2)).2.2, ds, ty, (how_fz _ hb (by simpa using s2)).1.trans s3, s4⟩
          | fresh => exact absurd hs h
  have hcellin : ∀ u ∈ us, u.1 < nid := fun u hu => by
    obtain ⟨k, R', h1, _⟩ := hUu u hu
    exact hinlt k _ h1
  -- a result
  have hone : ∀ (j : Nat) c x, cs[j]? = some c → vs[j]? = some x → Rep E2 w' .slot (take1 (nid + j) c) x ∧ ∀ wd n xs, c = .list true wd n xs → RootRel E2 w' (nid + j) ⟨false, false, wd, n, xs⟩ := fun j c x hc hx => by
    have hr := hflat j c x hc hx
    rw [Nat.zero_add] at hr
    have hok : resOk1 c = true := by
      have hm := List.mem_of_getElem? hc
      rw [← hcs] at hm
      obtain ⟨d, hd1, hd2⟩ := List.mem_flatMap.1 hm
      have hr := List.all_eq_true.1 hres d hd1
      cases d <;> simp [resOk, resOk1] at hr <;> simp [D.cells] at hd2 <;> first | (subst hd2; rfl) | exact hr c hd2
    have hnfc : cl = true ∨ c.nf := hnf.imp id fun h => nfL_mem h.1 c (List.mem_of_getElem? hc)
    by_cases hl : ∃ wd n xs, c = .list true wd n xs
    · obtain ⟨wd, n, xs, rfl⟩ := hl
      have hL := hLabM j wd n xs hc
      have hr2 : Rep E2 w' (.own (nid + j) []) (.list true wd n xs) x := hr.back (cl := cl = true) hfzc (.inr (.inl ⟨_, _, _, _, rfl, rfl, hL, hnfc⟩))
      generalize hm : Md.own (nid + j) [] = m at hr2
      cases hr2 with
      | flist m o wd n xs A cap us0 hm' hn hcp hw ha h => subst hm; rcases hm' with h | h | h <;> cases h
      | olist m r p wd n xs A cap us0 hm' hn hcp hw ha h =>
        rcases hm' with h' | h' <;> rw [← hm] at h' <;> cases h'
        have hnew := newAt_at (nid := nid) hc hx
        have hE : E2.st (nid + j) = .own ∧ E2.adr (nid + j) = A.getD ⟨0, 0, none⟩ ∧ E2.len (nid + j) = n := by
          subst hE2
          simp [Env.back, hnew]
        obtain ⟨e1, e2, e3⟩ := hE
        have hshp : 0 < cap → A = some (E2.adr (nid + j)) ∧ Shp E2 w' (nid + j) (cap * wd) := fun h0 => by
          obtain ⟨b, ds, ty, rfl, s1, s2, s3, s4, s5⟩ := ha h0
          rw [e2]
          refine ⟨rfl, ?_⟩
          unfold Shp
          rw [e2, e1, if_pos rfl]
          exact ⟨s1, s2, ds, ty, s3, s4⟩
        refine ⟨.ref _ _ _ _ _ (.inl rfl) (by rw [e1]; simp) fun _ => ⟨A, cap, by simp [Vw, e3], by simpa [Vw, e3] using hcp, by simp [Vw, e3], fun h0 => ?_⟩, fun wd' n' xs' he => ?_⟩
        · obtain ⟨rfl, hs⟩ := hshp h0
          exact ⟨by simp [Vw, Addr.add], by simpa [Vw] using hs⟩
        · cases he
          refine ⟨by simp [e1], by simp [e3], hn, hw, (fun h => by cases h), fun h0 => ?_, fun i j' x c hx' hj' => ?_⟩
          · simp only at h0
            obtain ⟨_, s1, s2, ds, ty, s3, s4⟩ := hshp (by omega)
            exact ⟨s1, s2, ds, ty, s3, Nat.le_trans (Nat.add_le_add_left (Nat.mul_le_mul_right _ hcp) _) s4⟩
          · have hpos : 0 < n := by
              rw [← hn]
              exact Nat.lt_of_le_of_lt (Nat.zero_le _) (List.getElem?_eq_some_iff.1 hx').1
            obtain ⟨b, ds, ty, rfl, s1, s2, s3, s4, s5⟩ := ha (by omega)
            refine ⟨us0 i j', by rw [e2]; exact s5 i j' x c hx' hj', ?_⟩
            simpa [Root.md] using h i j' x c hx' hj'
    · refine ⟨?_, fun wd n xs he => absurd ⟨wd, n, xs, he⟩ hl⟩
      have e1 : take1 (nid + j) c = c := by
        cases c <;> first | rfl | skip
        rename_i o wd n xs
        cases o
        · rfl
        · exact absurd ⟨_, _, _, rfl⟩ hl
      rw [e1]
      cases hr with
      | int m k n => exact .int _ _ _
      | bool m b => exact .bool _ _
      | str m s => exact .str _ _
      | nil m => exact .nil _
      | flist m o wd n xs A cap us0 hm' hn hcp hw ha h =>
        rcases hm' with h' | h' | rfl
        · cases h'
        · cases h'
        · have hcl : cl = true := hnfc.resolve_right (by simp [D.nf])
          refine .flist _ _ _ _ _ _ _ us0 (.inl rfl) hn hcp hw (fun h0 => ?_) (fun i j x c hx hj => (h i j x c hx hj).back (cl := cl = true) hfzc (.inl ⟨rfl, rfl, hcl⟩))
          obtain ⟨b, hb, s1, s2, s3⟩ := ha h0
          exact ⟨b, hb, hfzc hcl _ s2 s1, s2, s3⟩
      | olist m r p wd n xs A cap us0 hm' hn hcp hw ha h => exact absurd ⟨_, _, _, rfl⟩ hl
      | _ => simp [resOk1] at hok
  refine ⟨E2, ⟨hF.sz, hF.os, hF.tape, hF.output, fun b hb h => ⟨(how_fz b hb h).1, (how_fz b hb h).2.2⟩, fun b hb h => ⟨(how_far b hb h).1, (how_far b hb h).2.2⟩, fun r h => (hst r (hold r h)).2.1, fun d v h => h.mv hM trivial, fun r R hr h => ?_, fun r R hmem => ?_, fun r hr h => ?_, hF.shape, fun r N hr hr' h => ?_, fun r h => ?_⟩, ?_⟩
  · have hne : E.st r ≠ .fresh := by rw [h.st]; split <;> simp
    refine h.mv hM (hst r (hold r hne)).1 (fun b q hb ho => ?_)
    have hi : idx r 0 ins = none := by
      cases hi : idx r 0 ins with
      | none => rfl
      | some k =>
        obtain ⟨i, _, hk⟩ := idx_some hi
        obtain ⟨_, R', _, _, _, _, _, _, _, hmem⟩ := hUr i r hk
        exact absurd rfl (hr _ (List.mem_append_left _ hmem))
    exact ⟨(how_own b r _ hb ho hi).1, how_out b r _ hb ho hi⟩
  · rcases List.mem_append.1 hmem with hmem | hmem
    · obtain ⟨k, R', hk, hR', he⟩ := hUu _ hmem
      simp only [Option.some.injEq] at he hk
      subst he
      obtain ⟨R0, R1, h1, h2, h3, h4, h5, h6, h7, _⟩ := hUr k r hk
      rw [hR'] at h2
      cases h2
      have hRk := hRR k R hR'
      obtain ⟨R0', hg0, hG0, hf0, _⟩ := hGr k r hk
      rw [h1] at hG0
      cases hG0
      have hr := hst r (hold r (by rw [hown k r hk]; simp))
      refine ⟨by rw [hr.1, hown k r hk, h6]; rfl, by rw [hr.2.2, (hg _ _ hg0).len]; exact h3.symm, hRk.n, hRk.wd, hRk.nobox, fun h0 => hshpin k r _ hk (hRk.shp h0), fun i j x c hx hj => ?_⟩
      obtain ⟨u, hu, hrep⟩ := hRk.cell i j x c hx hj
      refine ⟨u, by rw [hr.2.1, ← hadr k r hk]; exact hu, ?_⟩
      have hnfc : cl = true ∨ c.nf := hnf.imp id fun h => nf_cells (nfL_mem (nfG_mem h.2 R (List.mem_of_getElem? hR')) x (List.mem_of_getElem? hx)) (List.mem_of_getElem? hj)
      unfold Root.md at hrep ⊢
      rw [h6] at hrep ⊢
      simp only [Bool.false_eq_true, if_false] at hrep ⊢
      split at hrep
      · rename_i hbox
        rw [if_pos hbox]
        refine hrep.back (cl := cl = true) hfzc (.inr (.inr ⟨_, _, _, _, rfl, rfl, hLab k r _ hk, hnfc, ?_⟩))
        unfold rless at h7
        rw [if_pos hbox] at h7
        split at h7
        · rename_i ds hds
          rw [hds] at hx
          cases i with
          | zero =>
            simp only [List.getElem?_cons_zero, Option.some.injEq] at hx
            subst hx
            exact List.all_eq_true.1 h7 c (List.mem_of_getElem? hj)
          | succ i => simp at hx
        · cases h7
      · rename_i hbox
        rw [if_neg hbox]
        exact hrep.back (cl := cl = true) hfzc (.inr (.inl ⟨_, _, _, _, rfl, rfl, hLab k r _ hk, hnfc⟩))
    · obtain ⟨j, wd, n, xs, hc, he⟩ := news_mem hmem
      simp only [Prod.mk.injEq, Option.some.injEq] at he
      obtain ⟨rfl, rfl⟩ := he
      have hlt' : j < vs.length := by rw [hfl]; exact (List.getElem?_eq_some_iff.1 hc).1
      exact (hone j _ _ hc (List.getElem?_eq_getElem hlt')).2 wd n xs rfl
  · cases hn : newAt nid cs vs r with
    | none => rw [(hst r hn).1]; exact h
    | some x =>
      obtain ⟨j, wd, n, xs, A, m, cap, rfl, h1, _⟩ := newAt_some hn
      exact absurd rfl (hr _ (List.mem_append_right _ (mem_news h1)))
  · exact (hM.ref r (by rw [hr]; simp) (.inl hr')).2.2.2 N h
  · cases hn : newAt nid cs vs r with
    | none => rw [(hst r hn).1] at h; exact .inr h
    | some x => exact .inl (hnewf _ _ hn)
  · obtain ⟨h1, h2⟩ := hRes.take (E2 := E2) (w' := w') (id := nid) (fun j c x hc hx => (hone j c x (by rw [← hcs]; exact hc) (by rw [← hvs]; exact hx)).1)
    exact pack_rep h1 h2

end
end Go.Proofs.Ytipolkdlaepcaaa.Ab

namespace Go.Proofs.Ytipolkdlaepcaaa.Ab

section
variable {X : Ctx} {o : Oper} {E E' Ec : Env} {w w' : World} {a : Act} {ρ : Operand → Option D} {g : Nat → Option Root} {nid : Nat}

theorem nfL_scal : ∀ {ds : List D}, ds.all D.scal = true → nfL (ds.flatMap D.cells)
  | [], _ => trivial
  | d :: ds, h => by
    simp only [List.all_cons, Bool.and_eq_true] at h
    have h2 := nfL_scal h.2
    cases d <;> simp [D.scal] at h <;> simp [D.cells, nfL, D.nf, h2]

theorem run_callFunc_enter {P : Program} {f : FuncId} (h : Ent P f) (vs : Array Value) : (callFunc f vs).run P w = .ok (.enter f vs) w := by
  obtain ⟨fn, h1, h2, h3⟩ := h
  have h4 : fn.body ≠ none := fun e => by simp [e] at h2
  have h5 : ¬ fn.name = "runtime.NumGoroutine" := fun e => by simp [e] at h3
  simp [callFunc, h1, h5, h4]

theorem does_call (H : Hyp X E w a ρ g nid) {c : Call} {f : Operand} {k : FuncId} {caps as : List D} {h : Hint} {out : Out} (hf : ∀ u ∈ out.us, nid ≤ u.1 → E.st u.1 = .fresh) (ho : o.op = .call c) (hc : c.callee = .value f) (hfn : ρ f = some (.fn k caps)) (hvals : vals ρ c.args.toList = some as)
    (hs : callD X k (as ++ caps) g nid h = some out) (hp : AllP out.ps) : Does X o E w a out := by
  unfold callD at hs
  split at hs
  · cases hs
  · rename_i ch _
    split at hs
    · rename_i G ps hG hl
      split at hs
      · rename_i qs us hU
        split at hs
        · rename_i hchk
          simp only [Bool.and_eq_true] at hchk
          cases hs
          simp only at hf hp
          obtain ⟨hp1, hp2⟩ := AllP_append hp
          obtain ⟨hp2, hp3⟩ := AllP_append hp2
          obtain ⟨hp3, hp4⟩ := AllP_append hp3
          obtain ⟨hCt, _⟩ := hp4
          obtain ⟨hEnt, hCt⟩ := hCt
          obtain ⟨hGl, hGr⟩ := rootsOf_ok hG
          obtain ⟨hGl', hUr, _⟩ := updAt_ok hU hp2
          have hnf : ch.cl = true ∨ nfL (ch.res.flatMap D.cells) ∧ nfG ch.G' := by
            split at hp3
            · rename_i hcl
              simp only [Bool.or_eq_true, Bool.and_eq_true] at hcl
              rcases hcl with hcl | ⟨h1, h2⟩
              · exact .inl hcl
              · refine .inr ⟨nfL_scal h1, ?_⟩
                have h3 : ch.ins = [] := by simpa using h2
                rw [h3] at hGl'
                have h4 : ch.G' = [] := List.length_eq_zero_iff.1 (by simpa using hGl')
                rw [h4]
                trivial
            · exact .inr ⟨hp3.1, hp3.2.1⟩
          obtain ⟨hal, har⟩ := vals_ok H hvals
          have hal : as.length = c.args.size := by simpa using hal
          have hrf := H.op _ _ hfn
          generalize hv : a.eval f = v at hrf
          cases hrf with
          | fn _ _ vs hcl hcr =>
          have hown : ∀ (k : Nat) r, ch.ins[k]? = some r → E.st r = .own := fun k r hk => by
            obtain ⟨R, h1, _, h3, _⟩ := hGr k r hk
            have := (H.rt _ _ h1).st
            rw [h3] at this
            exact this
          obtain ⟨hlen, hlr⟩ := (lend_ok (w := w) hchk.1 hown H.rt 60).2 _ _ _ hl hp1
          have hargs : (c.args.map a.eval ++ vs).size = ch.args.length := by
            rw [← hlen]
            simp [hal, hcl]
          have hrep : ∀ (i : Nat) d u, ch.args[i]? = some d → (c.args.map a.eval ++ vs)[i]? = some u → Rep (E.sub ch.cl ch.ins) w .slot d u := fun i d u hd hu => by
            have hlt : i < (as ++ caps).length := by rw [hlen]; exact (List.getElem?_eq_some_iff.1 hd).1
            refine hlr i _ d u (List.getElem?_eq_getElem hlt) hd ?_
            by_cases hi : i < as.length
            · rw [List.getElem_append_left hi]
              rw [Array.getElem?_append_left (by simp; omega), Array.getElem?_map, Option.map_eq_some_iff] at hu
              obtain ⟨x, hx, rfl⟩ := hu
              exact har i _ x (List.getElem?_eq_getElem hi) (by simpa using hx)
            · rw [List.getElem_append_right (by omega)]
              rw [Array.getElem?_append_right (by simp; omega)] at hu
              simp only [Array.size_map] at hu
              have : c.args.size = as.length := hal.symm
              rw [this] at hu
              exact hcr (i - as.length) _ u (List.getElem?_eq_getElem (by simp at hlt; omega)) hu
          have hCalls := hCt (E.sub ch.cl ch.ins) w (c.args.map a.eval ++ vs)
            (fun x hx => by
              obtain ⟨⟨wd, xs, i, j, he⟩, hr⟩ := H.gl x hx
              refine ⟨⟨wd, xs, i, j, he⟩, ?_⟩
              rw [he] at hr ⊢
              exact fptr_seen hr rfl)
            hargs hrep
            (fun k' R hk' => by
              have hlt : k' < ch.ins.length := by rw [← hGl]; exact (List.getElem?_eq_some_iff.1 hk').1
              have hk := List.getElem?_eq_getElem hlt
              obtain ⟨R0, h1, h2, h3, h4⟩ := hGr k' _ hk
              rw [h2] at hk'
              cases hk'
              have hR := H.rt _ _ h1
              obtain ⟨s1, s2, s3⟩ := sub_at (E := E) ch.cl hk
              refine ⟨by rw [s3, h3]; rfl, by rw [s2]; exact hR.len, hR.n, hR.wd, hR.nobox, fun h0 => sub_shp hchk.1 hk (hown _ _ hk) (hR.shp h0), fun i j x c hx hj => ?_⟩
              obtain ⟨u, hu, hr⟩ := hR.cell i j x c hx hj
              refine ⟨u, by rw [s1]; exact hu, hr.lent hchk.1 hk ?_⟩
              unfold Root.md
              rw [h3]
              simp only [Bool.false_eq_true, if_false]
              split
              · rename_i hb
                refine .inr (.inr ⟨_, rfl, rfl, ?_⟩)
                unfold rless at h4
                rw [if_pos hb] at h4
                split at h4
                · rename_i ds hds
                  rw [hds] at hx
                  cases i with
                  | zero =>
                    simp only [List.getElem?_cons_zero, Option.some.injEq] at hx
                    subst hx
                    exact List.all_eq_true.1 h4 c (List.mem_of_getElem? hj)
                  | succ i => simp at hx
                · cases h4
              · exact .inr (.inl ⟨_, rfl, rfl⟩))
            (fun k' hk' => by
              have : ch.ins[k']? = none := List.getElem?_eq_none (by omega)
              simp [Env.sub, this])
          intro K Q kk
          unfold Oper.wp
          have hrun : (execOp a.eval o).run X.P w = .ok (.enter k (c.args.map a.eval ++ vs)) w := by
            simp [execOp, ho, resolve, hc, hv, Deferred.ofValue, invoke, run_callFunc_enter hEnt]
          rw [hrun, Oper.upon_enter]
          refine hCalls.mono (fun e w' hpost => ?_)
          obtain ⟨E', rv, rfl, hF, hGl2, hRR, hRes⟩ := hpost
          obtain ⟨E2, hE2, hr2⟩ := ext_back hchk.1 H.rt H.lt hG hU hp2 hnf hf hchk.2 hF hRR hRes
          exact kk E2 w' (pack rv) hE2 hr2
        · cases hs
      · cases hs
    · cases hs

end
end Go.Proofs.Ytipolkdlaepcaaa.Ab

namespace Go.Proofs.Ytipolkdlaepcaaa.Ab

section
variable {X : Ctx} {o : Oper} {E E' Ec : Env} {w w' : World} {a : Act} {ρ : Operand → Option D} {g : Nat → Option Root} {nid : Nat}

theorem Does.ps {ps qs : List Prop} {v : D} {us : List (Nat × Option Root)} (h : Does X o E w a ⟨ps, v, us⟩) : Does X o E w a ⟨qs, v, us⟩ := fun K Q k => h K Q k

theorem kAt_look {T : Tab} {t : Nat} {ti : TI} {k : TK} (h : look t T = some ti) (hk : ti.k = k) : kAt T t = some k := by simp [kAt, h, hk]

theorem stepOp_ok (H : Hyp X E w a ρ g nid) {h : Hint} {out : Out} (hf : ∀ u ∈ out.us, nid ≤ u.1 → E.st u.1 = .fresh) (hs : stepOp X o ρ g nid h = some out) (hp : AllP out.ps) : Does X o E w a out := by
  unfold stepOp at hs
  have hfn : ∀ R, (nid, some R) ∈ out.us → E.st nid = .fresh := fun R h => hf _ h (Nat.le_refl _)
  split at hs
  · -- move
    rename_i x ho
    split at hs <;> cases hs
    rename_i d hx
    exact does_move H (.inl ho) hx
  · rename_i x ho
    split at hs <;> cases hs
    rename_i d hx
    exact does_move H (.inr ho) hx
  · -- pick
    rename_i c x y ho
    split at hs
    · rename_i t hc
      cases t with
      | true => simp only at hs
                split at hs <;> cases hs
                rename_i d hx
                exact does_pick H (t := true) ho hc hx
      | false => simp only at hs
                 split at hs <;> cases hs
                 rename_i d hx
                 exact does_pick H (t := false) ho hc hx
    · cases hs
  · -- nilCheck
    rename_i x ho
    split at hs
    · rename_i r wd i j hx
      split at hs <;> cases hs
      rename_i R hg
      exact does_nilCheck_ptr H ho hx hg
    · rename_i wd xs i j hx
      cases hs
      exact does_nilCheck_fptr H ho hx
    · cases hs
  · -- alloc
    rename_i t ho
    split at hs
    · rename_i ti ht
      dsimp only at hs
      split at hs
      · rename_i hc
        simp only [Bool.and_eq_true] at hc
        cases hs
        exact does_alloc H (hfn _ (List.mem_singleton.2 rfl)) ho ht hc.1 hc.2
      · cases hs
    · cases hs
  · -- box
    rename_i t x ho
    split at hs
    · rename_i d hx
      dsimp only at hs
      split at hs
      · rename_i hc
        simp only [Bool.and_eq_true] at hc
        cases hs
        exact does_box H (hfn _ (List.mem_singleton.2 rfl)) ho hx hc.1 hc.2
      · cases hs
    · cases hs
  · -- build
    rename_i t parts ho
    split at hs
    · rename_i ht
      split at hs
      · rename_i cs hcs
        cases hs
        exact does_build H ho ht rfl rfl hcs
      · cases hs
    · cases hs
  · -- literal
    rename_i t len parts ho
    split at hs
    · rename_i ht
      split at hs
      · rename_i te hte
        split at hs
        · rename_i ds hds
          dsimp only at hs
          split at hs
          · rename_i hc
            simp only [Bool.and_eq_true] at hc
            cases hs
            refine does_lit (box := false) H (hfn _ (List.mem_singleton.2 rfl)) ho (kAt_look ht rfl) hte hds hc.1.1.1 hc.1.1.2 ?_
            simpa using hc.1.2
          · split at hs
            · rename_i hc
              simp only [Bool.and_eq_true] at hc
              cases hs
              refine does_lit (box := true) H (hfn _ (List.mem_singleton.2 rfl)) ho (kAt_look ht rfl) hte hds hc.1.1.1 hc.1.1.2 ?_
              refine List.all_eq_true.2 fun x hx => List.all_eq_true.2 fun c hc' => ?_
              have h1 := List.all_eq_true.1 (List.all_eq_true.1 hc.1.2 x hx) c hc'
              simp [okc_boxy h1]
            · cases hs
        · cases hs
      · cases hs
    · cases hs
  · -- load
    rename_i t x ho
    split at hs
    · rename_i ti ht
      split at hs
      · rename_i r wd i j hx
        split at hs
        · rename_i R hg
          split at hs
          · rename_i hc
            simp only [Bool.and_eq_true] at hc
            split at hs
            · rename_i d hd
              cases hs
              exact does_load_ptr H ho hx hg ht hc.1.1 hc.1.2 hc.2 hd hp.1
            · cases hs
          · cases hs
        · cases hs
      · rename_i wd xs i j hx
        split at hs
        · rename_i hc
          simp only [Bool.and_eq_true] at hc
          split at hs
          · rename_i d hd
            cases hs
            exact does_load_fptr H ho hx ht hc.1 hc.2 hd hp.1
          · cases hs
        · cases hs
      · cases hs
    · cases hs
  · -- store
    rename_i t x y ho
    split at hs
    · rename_i ti ht
      split at hs
      · rename_i r wd i j d hx hy
        dsimp only at hs
        split at hs
        · rename_i R hg
          split at hs
          · rename_i hc
            simp only [Bool.and_eq_true, Bool.not_eq_true'] at hc
            obtain ⟨⟨⟨⟨hfz, hw⟩, hn⟩, hj⟩, h0⟩ := hc
            split at hs
            · rename_i hb
              split at hs
              · rename_i hc2
                simp only [Bool.and_eq_true] at hc2
                cases hs
                have hi : i < R.n := by have := hc2.2; simp [Nat.blt] at this; omega
                exact does_store H ho ht hx hy hg hfz hw hn hj hi (.inl ⟨hb, hc2.1⟩) rfl h0
              · cases hs
            · split at hs
              · rename_i hc2
                cases hs
                have hn2 := hp.2.2.1
                have := does_store H ho ht hx hy hg hfz hw hn hj hp.1 (.inr hc2) hp.2.1 h0 (qs := [])
                rw [← hn2]
                exact this.ps
              · cases hs
          · cases hs
        · cases hs
      · cases hs
    · cases hs
  · -- binary
    rename_i op t x y t' ho
    split at hs
    · rename_i o' w' n xs hx hy
      split at hs <;> first | (cases hs; done) | skip
      rename_i e' hk
      have hu := kind_slice (kAt_kind H.T hk)
      have hq := H.op _ _ hy
      have hq' : a.eval y = .slice none 0 0 := hq.nil_inv
      obtain ⟨A, c, hv, hA⟩ : ∃ A c, a.eval x = .slice A n c ∧ (0 < n → A ≠ none) := (H.op _ _ hx).list_addr
      have hrun : (do eqGuard .eql t x y (a.eval x) (a.eval y); binOp .eql t (a.eval x) (a.eval y)).run X.P w = .ok (.bool A.isNone) w := by
        rw [hq', hv, Sem.run_bind, guard_plain (by rintro (⟨_, _, h, _⟩ | ⟨h, _⟩) <;> cases h)]
        simp only [Result.andThen_ok]
        simp only [binOp]
        simp [Op.equal, Op.maxDepth, eqNil_run hu 9999 A n c]
      split at hs
      · cases hs
        simp only [AllP, and_true] at hp
        refine does_bin H ho hx hy hrun ?_
        cases A with
        | none => exact absurd rfl (hA hp)
        | some a => exact .bool _ _
      · cases hs
        exact does_bin H ho hx hy hrun (.anyb _)
    · rename_i d e _ hx hy
      split at hs
      · rename_i ps v hb
        cases hs
        obtain ⟨u, h1, h2⟩ := bin_run H (x := x) (y := y) hb hp (H.op _ _ hx) (H.op _ _ hy)
        exact does_bin H ho hx hy h1 h2
      · cases hs
    · cases hs
  · -- unary
    rename_i op t x ho
    split at hs
    · rename_i d hx
      split at hs
      · rename_i v hu
        cases hs
        exact does_un H ho hx hu
      · cases hs
    · cases hs
  · -- convert
    rename_i s t x ho
    split at hs
    · rename_i ks k k0 n h1 h2 h3
      cases hs
      exact does_conv_int H ho h1 h2 h3
    · rename_i ks v h1 h2 h3
      cases hs
      exact does_conv_str H ho h1 h2 h3
    · rename_i e d h1 h2 h3
      split at hs
      · rename_i oo wd n xs he
        split at hs
        · rename_i hw
          cases hs
          have := Nat.eq_of_beq_eq_true hw
          subst this
          exact does_conv_bytes_list H ho h1 he h2 h3 hp.1
        · cases hs
      · rename_i r wd he
        split at hs
        · rename_i R hg
          split at hs
          · rename_i hc
            simp only [Bool.and_eq_true] at hc
            cases hs
            have := Nat.eq_of_beq_eq_true hc.1
            subst this
            refine does_conv_bytes_ref H ho h1 he h2 h3 hg ?_
            have hR := (H.rt _ _ (gw_some hg).1).n
            simp only [vlo, vln, List.drop_zero]
            rw [List.take_of_length_le (by omega)]
            exact hp.1
          · cases hs
        · cases hs
      · rename_i r wd lo n he
        split at hs
        · rename_i R hg
          split at hs
          · rename_i hc
            simp only [Bool.and_eq_true] at hc
            cases hs
            have := Nat.eq_of_beq_eq_true hc.1
            subst this
            exact does_conv_bytes_ref H ho h1 he h2 h3 hg hp.1
          · cases hs
        · cases hs
      · cases hs
    · cases hs
  · -- makeFunc
    rename_i f first caps ho
    split at hs
    · rename_i cs h1 h2
      cases hs
      exact does_makeFunc H ho h1 h2
    · cases hs
  · -- makeSlice
    rename_i t l c ho
    split at hs
    · rename_i ht
      split at hs
      · rename_i te k n k' m hte hl hc
        split at hs
        · rename_i hk
          simp only [Bool.and_eq_true] at hk
          cases hs
          obtain ⟨h1, h2, h3, h4, h5, _⟩ := hp
          subst h1
          exact does_make H (hfn _ (List.mem_singleton.2 rfl)) ho (kAt_look ht rfl) hte hl hc hk.1.1.1 hk.1.1.2 hk.1.2 hk.2 h2 h3 h4 h5
        · cases hs
      · cases hs
    · cases hs
  · -- slice
    rename_i t x lo hi ho
    split at hs
    · rename_i l u s hl hu hk hx
      split at hs
      · rename_i A B ps hc
        cases hs
        exact does_cut_str H ho hl hu hx hk hc hp
      · cases hs
    · rename_i l u e d hl hu hk hx
      split at hs
      · rename_i te hte
        split at hs
        · rename_i oo wd n xs
          split at hs
          · cases hs
          · rename_i hw
            split at hs
            · rename_i A B ps hc
              cases hs
              obtain ⟨h1, h2⟩ := AllP_append hp
              exact does_cut_list H ho hl hu hx hk hte (by simpa using hw) hc h1 h2.1 h2.2.1
            · cases hs
        · rename_i r wd
          split at hs
          · cases hs
          · rename_i hw
            split at hs
            · rename_i R hg
              split at hs
              · rename_i A B ps hc
                cases hs
                have := does_cut_ref H ho hl hu hx hk hte (by simpa using hw) hg (by simpa [vln] using hc) hp (qs := ps)
                simpa [vlo] using this
              · cases hs
            · cases hs
        · rename_i r wd k n
          split at hs
          · cases hs
          · rename_i hw
            split at hs
            · rename_i R hg
              split at hs
              · rename_i A B ps hc
                cases hs
                have := does_cut_ref H ho hl hu hx hk hte (by simpa using hw) hg (by simpa [vln] using hc) hp (qs := ps)
                simpa [vlo] using this
              · cases hs
            · cases hs
        · cases hs
      · cases hs
    · cases hs
  · -- fieldAddr
    rename_i s x f ho
    split at hs
    · rename_i hk
      split at hs
      · rename_i fi r wd i j hf1 hx
        split at hs
        · rename_i R hg
          split at hs
          · rename_i h0
            cases hs
            exact does_fieldAddr_ptr H ho hk rfl hf1 hx hg h0
          · cases hs
        · cases hs
      · rename_i fi wd xs i j hf1 hx
        split at hs
        · rename_i h0
          cases hs
          exact does_fieldAddr_fptr H ho hk rfl hf1 hx h0
        · cases hs
      · cases hs
    · cases hs
  · -- field
    rename_i t x f ho
    split at hs
    · rename_i hk
      split at hs
      · rename_i fi cs hf1 hx
        split at hs
        · rename_i hle
          split at hs
          · rename_i d hd
            cases hs
            exact does_field H ho hk rfl hf1 hx hle hd
          · cases hs
        · cases hs
      · cases hs
    · cases hs
  · -- indexAddr
    rename_i t x i ho
    split at hs
    · rename_i hk hx hi
      split at hs
      · rename_i te hte
        split at hs
        · rename_i oo wd n xs
          split at hs
          · rename_i hw
            cases hs
            exact does_index_list H ho (kAt_look hk rfl) hte hx hi hw hp.1 hp.2.1
          · cases hs
        · rename_i r wd
          split at hs
          · rename_i R hg
            split at hs
            · rename_i hw
              cases hs
              have := does_index_ref H ho (kAt_look hk rfl) hte hx hi hg hw hp.1 (by simpa [vln] using hp.2.1) (qs := [])
              refine Does.ps (ps := []) ?_
              simpa [vlo] using this
            · cases hs
          · cases hs
        · rename_i r wd lo n
          split at hs
          · rename_i R hg
            split at hs
            · rename_i hw
              cases hs
              have := does_index_ref H ho (kAt_look hk rfl) hte hx hi hg hw hp.1 (by simpa [vln] using hp.2.1) (qs := [])
              refine Does.ps (ps := []) ?_
              simpa [vlo] using this
            · cases hs
          · cases hs
        · cases hs
      · cases hs
    · rename_i hk hx hi
      split at hs
      · rename_i te hte
        split at hs
        · rename_i hn
          cases hs
          exact does_index_arr H ho (kAt_look hk rfl) hte hx hi hn hp.1 hp.2.1
        · cases hs
      · cases hs
    · cases hs
  · -- index
    rename_i t x i ho
    split at hs
    · rename_i s kk k hk hx hi
      cases hs
      obtain ⟨h1, h2⟩ := AllP_append hp
      exact does_index_str H ho hk hx hi h1.1 h1.2.1 h2.1
    · cases hs
  · -- extract
    rename_i t k ho
    split at hs
    · rename_i vs hx
      split at hs
      · rename_i d hd
        cases hs
        exact does_extract H ho hx hd
      · cases hs
    · cases hs
  · -- call
    rename_i c ho
    split at hs
    · rename_i f hc
      split at hs
      · rename_i k caps as hk has
        exact does_call H hf ho hc hk has hs hp
      · cases hs
    · -- len
      rename_i hc
      split at hs
      · rename_i ti x hti hx
        obtain ⟨t, ht, hlook⟩ := Option.bind_eq_some_iff.1 hti
        split at hs
        · rename_i s hk hxs
          cases hs
          exact does_len H ho hc ht hx (kAt_look hlook hk) (.inl ⟨rfl, s, hxs, rfl⟩)
        · rename_i e oo wd n xs hk hxs
          cases hs
          obtain ⟨A, cap, us, hv, _⟩ := (H.op _ _ hxs).list_inv (.inl rfl)
          exact does_len H ho hc ht hx (kAt_look hlook hk) (.inr ⟨⟨e, rfl⟩, A, cap, hv⟩)
        · rename_i e hk hxs
          cases hs
          exact does_len H ho hc ht hx (kAt_look hlook hk) (.inr ⟨⟨e, rfl⟩, none, 0, (H.op _ _ hxs).nil_inv⟩)
        · rename_i e r wd hk hxs
          split at hs
          · rename_i R hg
            cases hs
            have hR := H.rt _ _ (gw_some hg).1
            obtain ⟨_, hst, hal⟩ := (H.op _ _ hxs).ref_inv
            obtain ⟨A, cap, hv, _⟩ := hal hR.alive
            rw [vw_eq hR] at hv
            exact does_len H ho hc ht hx (kAt_look hlook hk) (.inr ⟨⟨e, rfl⟩, A, cap, hv⟩)
          · cases hs
        · rename_i e r wd lo n hk hxs
          split at hs
          · rename_i R hg
            cases hs
            have hR := H.rt _ _ (gw_some hg).1
            obtain ⟨_, hst, hal⟩ := (H.op _ _ hxs).ref_inv
            obtain ⟨A, cap, hv, _⟩ := hal hR.alive
            rw [vw_eq hR] at hv
            exact does_len H ho hc ht hx (kAt_look hlook hk) (.inr ⟨⟨e, rfl⟩, A, cap, hv⟩)
          · cases hs
        · cases hs
      · cases hs
    · -- append
      rename_i hc
      split at hs
      · rename_i t t' s x hts has
        split at hs
        · rename_i e _ _ _ k' hl hk'
          split at hs
          · rename_i te ds dx hte hds hdx
            have hfr : E.st nid = .fresh := by
              have hs' := hs
              unfold appD at hs'
              split at hs'
              · cases hs'
              · split at hs'
                · split at hs'
                  · cases hs'
                  · cases hs'
                    exact hfn _ (List.mem_append_right _ (List.mem_append_right _ (List.mem_singleton.2 rfl)))
                · cases hs'
            exact does_append H hfr ho hc hts has (kAt_look hl rfl) hk' hte hds hdx hs hp
          · cases hs
        · cases hs
      · cases hs
    · rename_i hc
      exact does_minmax (mn := true) H ho hc hs
    · rename_i hc
      exact does_minmax (mn := false) H ho hc hs
    · cases hs
  · cases hs

end
end Go.Proofs.Ytipolkdlaepcaaa.Ab

namespace Go.Proofs.Ytipolkdlaepcaaa.Ab

/-! ### Roots and slots that are set -/
theorem getR_nil (r : Nat) : getR [] r = none := rfl

theorem getR_putR : ∀ (G : List (Option Root)) (k : Nat) (x : Option Root) (r : Nat), getR (putR G k x) r = if k = r then x else getR G r
  | [], 0, x, 0 => by simp [putR, getR]
  | [], 0, x, r + 1 => by simp [putR, getR]
  | [], k + 1, x, 0 => by simp [putR, getR]
  | [], k + 1, x, r + 1 => by
    have := getR_putR [] k x r
    simp only [putR, getR, this, Nat.add_right_cancel_iff]
  | y :: G, 0, x, 0 => by simp [putR, getR]
  | y :: G, 0, x, r + 1 => by simp [putR, getR]
  | y :: G, k + 1, x, 0 => by simp [putR, getR]
  | y :: G, k + 1, x, r + 1 => by
    have := getR_putR G k x r
    simp only [putR, getR, this, Nat.add_right_cancel_iff]

theorem getR_some : ∀ {G : List (Option Root)} {r : Nat} {R : Root}, getR G r = some R → r < G.length
  | [], r, R, h => by simp [getR] at h
  | x :: G, 0, R, h => by simp
  | x :: G, r + 1, R, h => by
    have := getR_some (G := G) (r := r) (R := R) (by simpa [getR] using h)
    simp
    omega

theorem putR_len : ∀ (G : List (Option Root)) (k : Nat) (x : Option Root), G.length ≤ (putR G k x).length ∧ k < (putR G k x).length
  | [], 0, x => by simp [putR]
  | [], k + 1, x => by
    have := putR_len [] k x
    simp [putR] at this ⊢
    omega
  | y :: G, 0, x => by simp [putR]
  | y :: G, k + 1, x => by
    have := putR_len G k x
    simp [putR] at this ⊢
    omega

/-- A root, after these have been set. -/
def upd (r : Nat) : List (Nat × Option Root) → Option Root → Option Root
  | [], x => x
  | u :: us, x => upd r us (if u.1 = r then u.2 else x)

theorem getR_putAll (r : Nat) : ∀ (us : List (Nat × Option Root)) (G : List (Option Root)), getR (putAll G us) r = upd r us (getR G r)
  | [], G => rfl
  | u :: us, G => by rw [putAll, getR_putAll r us, getR_putR]; rfl

theorem putAll_len : ∀ (us : List (Nat × Option Root)) (G : List (Option Root)), G.length ≤ (putAll G us).length ∧ ∀ u ∈ us, u.1 < (putAll G us).length
  | [], G => ⟨Nat.le_refl _, (fun u h => by cases h)⟩
  | u :: us, G => by
    obtain ⟨h1, h2⟩ := putAll_len us (putR G u.1 u.2)
    obtain ⟨h3, h4⟩ := putR_len G u.1 u.2
    refine ⟨Nat.le_trans h3 h1, fun u' hu => ?_⟩
    rcases List.mem_cons.1 hu with rfl | hu
    · exact Nat.lt_of_lt_of_le h4 h1
    · exact h2 _ hu

theorem upd_none {r : Nat} : ∀ {us : List (Nat × Option Root)} {x : Option Root}, (∀ u ∈ us, u.1 ≠ r) → upd r us x = x
  | [], x, _ => rfl
  | u :: us, x, h => by
    have h1 : ¬ u.1 = r := h u (List.mem_cons_self ..)
    simp only [upd, h1, if_false]
    exact upd_none fun u' hu => h u' (List.mem_cons_of_mem _ hu)

theorem upd_some {r : Nat} {R : Root} : ∀ {us : List (Nat × Option Root)} {x : Option Root}, upd r us x = some R → (r, some R) ∈ us ∨ (∀ u ∈ us, u.1 ≠ r) ∧ x = some R
  | [], x, h => .inr ⟨(fun u hu => by cases hu), h⟩
  | u :: us, x, h => by
    simp only [upd] at h
    rcases upd_some h with h' | ⟨h1, h2⟩
    · exact .inl (List.mem_cons_of_mem _ h')
    · split at h2
      · rename_i he
        left
        obtain ⟨k, y⟩ := u
        simp only at he h2
        subst he h2
        exact List.mem_cons_self ..
      · rename_i he
        refine .inr ⟨fun u' hu => ?_, h2⟩
        rcases List.mem_cons.1 hu with rfl | hu
        · exact he
        · exact h1 _ hu

theorem putS_get (sl : List D) (dst : Option Nat) (v : D) (t : Nat) : (putS sl dst v)[t]? = if dst = some t ∧ t < sl.length then some v else sl[t]? := by
  cases dst with
  | none => simp [putS]
  | some k =>
    simp only [putS, List.getElem?_set, Option.some.injEq]
    by_cases hk : k = t
    · subst hk
      by_cases h : k < sl.length
      · simp [h]
      · simp [h, List.getElem?_eq_none (Nat.le_of_not_lt h)]
    · simp [hk]

theorem putS_len (sl : List D) (dst : Option Nat) (v : D) : (putS sl dst v).length = sl.length := by
  cases dst <;> simp [putS]

/-! ### The states on the way -/
def stepS (σ : St) (o : Oper) (c : Rc) : St := ⟨putS σ.sl o.dst c.v, putAll σ.G c.us⟩
def foldK : List Oper → List Rc → Nat → St → St
  | o :: os, c :: cs, k + 1, σ => foldK os cs k (stepS σ o c)
  | _, _, _, σ => σ

theorem foldK_zero (os : List Oper) (cs : List Rc) (σ : St) : foldK os cs 0 σ = σ := by
  unfold foldK
  split
  · rename_i h; cases h
  · rfl

theorem foldK_succ : ∀ {os : List Oper} {cs : List Rc} {k : Nat} {σ : St} {o : Oper} {c : Rc}, os[k]? = some o → cs[k]? = some c → foldK os cs (k + 1) σ = stepS (foldK os cs k σ) o c
  | [], _, k, σ, o, c, h, _ => by simp at h
  | _ :: _, [], k, σ, o, c, _, h => by simp at h
  | o' :: os, c' :: cs, 0, σ, o, c, h1, h2 => by
    simp only [List.getElem?_cons_zero, Option.some.injEq] at h1 h2
    subst h1 h2
    rw [foldK, foldK_zero, foldK_zero]
  | o' :: os, c' :: cs, k + 1, σ, o, c, h1, h2 => by
    rw [foldK, foldK]
    exact foldK_succ (by simpa using h1) (by simpa using h2)

theorem execOps_ok {X : Ctx} {ops : Array Oper} : ∀ {os : List Oper} {i : Nat} {σ σ' : St} {hs : List Hint} {cs : List Rc} {ps : List Prop}, execOps X ops os i σ hs = some (cs, ps, σ') → AllP ps →
    cs.length = os.length ∧ σ' = foldK os cs os.length σ ∧
    ∀ (k : Nat) o c, os[k]? = some o → cs[k]? = some c → ∃ h qs, step1 X ops o h (foldK os cs k σ).sl (getR (foldK os cs k σ).G) (foldK os cs k σ).G.length = some (qs, c) ∧ AllP qs
  | [], i, σ, σ', hs, cs, ps, h, _ => by
    simp only [execOps, Option.some.injEq, Prod.mk.injEq] at h
    obtain ⟨rfl, rfl, rfl⟩ := h
    exact ⟨rfl, rfl, fun k o c h => by simp at h⟩
  | o :: os, i, σ, σ', hs, cs, ps, h, hp => by
    simp only [execOps] at h
    split at h
    · cases h
    · rename_i qs c h1
      split at h
      · cases h
      · rename_i cs' qs' σ2 h2
        cases h
        obtain ⟨hp1, hp2⟩ := AllP_append hp
        obtain ⟨hl, he, hk⟩ := execOps_ok h2 hp2
        refine ⟨by simp [hl], by rw [List.length_cons, foldK]; exact he, fun k o' c' ho hc => ?_⟩
        cases k with
        | zero =>
          simp only [List.getElem?_cons_zero, Option.some.injEq] at ho hc
          subst ho hc
          rw [foldK_zero]
          exact ⟨_, qs, h1, hp1⟩
        | succ k =>
          rw [foldK]
          exact hk k o' c' (by simpa using ho) (by simpa using hc)

/-- What stands in slot t, if the first n of D have been done. -/
def slotN (os : List Oper) (cs : List Rc) (σ : St) (D : Nat → Bool) (t : Nat) : Nat → Option Ab.D
  | 0 => σ.sl[t]?
  | n + 1 => match os[n]?, cs[n]? with
    | some o, some c => if D n = true ∧ o.dst = some t ∧ t < σ.sl.length then some c.v else slotN os cs σ D t n
    | _, _ => slotN os cs σ D t n
def rootN (os : List Oper) (cs : List Rc) (σ : St) (D : Nat → Bool) (r : Nat) : Nat → Option Root
  | 0 => getR σ.G r
  | n + 1 => match cs[n]? with
    | some c => if D n = true then upd r c.us (rootN os cs σ D r n) else rootN os cs σ D r n
    | none => rootN os cs σ D r n

section
variable {os : List Oper} {cs : List Rc} {σ : St}

theorem foldK_sl (hl : cs.length = os.length) (t : Nat) : ∀ n, n ≤ os.length → (foldK os cs n σ).sl.length = σ.sl.length ∧ (foldK os cs n σ).sl[t]? = slotN os cs σ (fun _ => true) t n
  | 0, _ => by rw [foldK_zero]; exact ⟨rfl, rfl⟩
  | n + 1, h => by
    obtain ⟨h1, h2⟩ := foldK_sl hl t n (by omega)
    have ho := List.getElem?_eq_getElem (show n < os.length by omega)
    have hc := List.getElem?_eq_getElem (show n < cs.length by omega)
    rw [foldK_succ ho hc]
    simp only [stepS, slotN, ho, hc, true_and]
    rw [putS_len, putS_get, h1, h2]
    exact ⟨rfl, rfl⟩

theorem foldK_rt (hl : cs.length = os.length) (r : Nat) : ∀ n, n ≤ os.length → getR (foldK os cs n σ).G r = rootN os cs σ (fun _ => true) r n
  | 0, _ => by rw [foldK_zero]; rfl
  | n + 1, h => by
    have h2 := foldK_rt hl r n (by omega)
    have ho := List.getElem?_eq_getElem (show n < os.length by omega)
    have hc := List.getElem?_eq_getElem (show n < cs.length by omega)
    rw [foldK_succ ho hc]
    simp only [stepS, rootN, hc, if_true]
    rw [getR_putAll, h2]

theorem foldK_len (hl : cs.length = os.length) : ∀ n, n ≤ os.length → σ.G.length ≤ (foldK os cs n σ).G.length ∧ ∀ (j : Nat) c, j < n → cs[j]? = some c → ∀ u ∈ c.us, u.1 < (foldK os cs n σ).G.length
  | 0, _ => by rw [foldK_zero]; exact ⟨Nat.le_refl _, fun j c h => by omega⟩
  | n + 1, h => by
    obtain ⟨h1, h2⟩ := foldK_len hl n (by omega)
    have ho := List.getElem?_eq_getElem (show n < os.length by omega)
    have hc := List.getElem?_eq_getElem (show n < cs.length by omega)
    rw [foldK_succ ho hc]
    obtain ⟨h3, h4⟩ := putAll_len cs[n].us (foldK os cs n σ).G
    refine ⟨Nat.le_trans h1 h3, fun j c hj hcj u hu => ?_⟩
    by_cases hjn : j = n
    · subst hjn
      rw [hc] at hcj
      cases hcj
      exact h4 u hu
    · exact Nat.lt_of_lt_of_le (h2 j c (by omega) hcj u hu) h3

end

/-- Two sets of which the difference does not touch slot t. -/
theorem slotN_congr {os : List Oper} {cs : List Rc} {σ : St} {D D' : Nat → Bool} {t : Nat} : ∀ n, (∀ (j : Nat) o, j < n → D j ≠ D' j → os[j]? = some o → o.dst ≠ some t) → slotN os cs σ D t n = slotN os cs σ D' t n
  | 0, _ => rfl
  | n + 1, h => by
    have ih := slotN_congr (cs := cs) (σ := σ) n fun j o hj => h j o (by omega)
    simp only [slotN]
    split
    · rename_i o c ho hc
      by_cases hd : D n = D' n
      · rw [hd, ih]
      · have := h n o (by omega) hd ho
        rw [if_neg (by simp [this]), if_neg (by simp [this]), ih]
    · exact ih

theorem rootN_congr {os : List Oper} {cs : List Rc} {σ : St} {D D' : Nat → Bool} {r : Nat} : ∀ n, (∀ (j : Nat) c, j < n → D j ≠ D' j → cs[j]? = some c → ∀ u ∈ c.us, u.1 ≠ r) → rootN os cs σ D r n = rootN os cs σ D' r n
  | 0, _ => rfl
  | n + 1, h => by
    have ih := rootN_congr (os := os) (σ := σ) n fun j o hj => h j o (by omega)
    simp only [rootN]
    split
    · rename_i c hc
      by_cases hd : D n = D' n
      · rw [hd, ih]
      · have := h n c (by omega) hd hc
        rw [upd_none this, upd_none this, ite_self, ite_self, ih]
    · exact ih

/-- From some place on nothing is done. -/
theorem slotN_end {os : List Oper} {cs : List Rc} {σ : St} {D : Nat → Bool} {t m : Nat} : ∀ n, m ≤ n → (∀ j, m ≤ j → j < n → D j = false) → slotN os cs σ D t n = slotN os cs σ D t m
  | 0, h, _ => by rw [Nat.le_zero.1 h]
  | n + 1, h, hd => by
    by_cases he : m = n + 1
    · rw [he]
    · have ih := slotN_end (os := os) (cs := cs) (σ := σ) (t := t) n (by omega) fun j h1 h2 => hd j h1 (by omega)
      simp only [slotN]
      split
      · rw [if_neg (by simp [hd n (by omega) (by omega)]), ih]
      · exact ih

theorem rootN_end {os : List Oper} {cs : List Rc} {σ : St} {D : Nat → Bool} {r m : Nat} : ∀ n, m ≤ n → (∀ j, m ≤ j → j < n → D j = false) → rootN os cs σ D r n = rootN os cs σ D r m
  | 0, h, _ => by rw [Nat.le_zero.1 h]
  | n + 1, h, hd => by
    by_cases he : m = n + 1
    · rw [he]
    · have ih := rootN_end (os := os) (cs := cs) (σ := σ) (r := r) n (by omega) fun j h1 h2 => hd j h1 (by omega)
      simp only [rootN]
      split
      · rw [if_neg (by simp [hd n (by omega) (by omega)]), ih]
      · exact ih

/-- One more is done: the last that touches it. -/
theorem slotN_put {os : List Oper} {cs : List Rc} {σ : St} {D : Nat → Bool} {t i : Nat} {o : Oper} {c : Rc} (ho : os[i]? = some o) (hc : cs[i]? = some c) : ∀ n, i < n → (o.dst = some t → ∀ (j : Nat) o', i < j → j < n → D j = true → os[j]? = some o' → o'.dst ≠ some t) →
    slotN os cs σ (fun j => D j || j == i) t n = if o.dst = some t ∧ t < σ.sl.length then some c.v else slotN os cs σ (fun j => D j || j == i) t n
  | 0, h, _ => by omega
  | n + 1, h, hd => by
    split
    · rename_i hdst
      by_cases he : i = n
      · subst he
        simp only [slotN, ho, hc]
        rw [if_pos (by simp [hdst])]
      · have ih := slotN_put (σ := σ) (D := D) (t := t) ho hc n (by omega) fun h0 j o' h1 h2 => hd h0 j o' h1 (by omega)
        rw [if_pos hdst] at ih
        simp only [slotN]
        split
        · rename_i o' c' ho' hc'
          by_cases hD : D n = true
          · have := hd hdst.1 n o' (by omega) (by omega) hD ho'
            rw [if_neg (by simp [this])]
            exact ih
          · rw [if_neg (by simp [hD]; intro h; omega)]
            exact ih
        · exact ih
    · rfl

theorem slotN_skip {os : List Oper} {cs : List Rc} {σ : St} {D : Nat → Bool} {t i : Nat} {o : Oper} (ho : os[i]? = some o) (hne : ¬ (o.dst = some t ∧ t < σ.sl.length)) : ∀ n, slotN os cs σ (fun j => D j || j == i) t n = slotN os cs σ D t n
  | 0 => rfl
  | n + 1 => by
    have ih := slotN_skip (cs := cs) (D := D) ho hne n
    simp only [slotN]
    split
    · rename_i o' c' ho' hc'
      by_cases he : n = i
      · subst he
        rw [ho] at ho'
        cases ho'
        rw [if_neg (fun h => hne h.2), if_neg (fun h => hne h.2), ih]
      · simp only [show (n == i) = false by simp [he], Bool.or_false, ih]
    · exact ih

theorem rootN_skip {os : List Oper} {cs : List Rc} {σ : St} {D : Nat → Bool} {r i : Nat} {c : Rc} (hc : cs[i]? = some c) (hne : ∀ u ∈ c.us, u.1 ≠ r) : ∀ n, rootN os cs σ (fun j => D j || j == i) r n = rootN os cs σ D r n
  | 0 => rfl
  | n + 1 => by
    have ih := rootN_skip (os := os) (σ := σ) (D := D) hc hne n
    simp only [rootN]
    split
    · rename_i c' hc'
      by_cases he : n = i
      · subst he
        rw [hc] at hc'
        cases hc'
        simp only [beq_self_eq_true, Bool.or_true, if_true]
        rw [upd_none hne, upd_none hne, ite_self, ih]
      · simp only [show (n == i) = false by simp [he], Bool.or_false, ih]
    · exact ih

/-- A root of which the last that touched it is this one. -/
theorem rootN_put {os : List Oper} {cs : List Rc} {σ : St} {D : Nat → Bool} {r i : Nat} {c : Rc} {R : Root} (hc : cs[i]? = some c) (hin : ∃ u ∈ c.us, u.1 = r) : ∀ n, i < n → (∀ (j : Nat) c', i < j → j < n → D j = true → cs[j]? = some c' → ∀ u ∈ c'.us, u.1 ≠ r) →
    rootN os cs σ (fun j => D j || j == i) r n = some R → (r, some R) ∈ c.us
  | 0, h, _, _ => by omega
  | n + 1, h, hd, hR => by
    by_cases he : i = n
    · subst he
      simp only [rootN, hc] at hR
      rw [if_pos (by simp)] at hR
      rcases upd_some hR with h' | ⟨h1, _⟩
      · exact h'
      · obtain ⟨u, hu, hur⟩ := hin
        exact absurd hur (h1 u hu)
    · refine rootN_put (os := os) (σ := σ) (D := D) hc hin n (by omega) (fun j c' h1 h2 => hd j c' h1 (by omega)) ?_
      simp only [rootN] at hR
      split at hR
      · rename_i c' hc'
        by_cases hD : D n = true
        · rw [upd_none (hd n c' (by omega) (by omega) hD hc'), ite_self] at hR
          exact hR
        · rw [if_neg (by simp [hD]; omega)] at hR
          exact hR
      · exact hR

end Go.Proofs.Ytipolkdlaepcaaa.Ab

namespace Go.Proofs.Ytipolkdlaepcaaa.Ab

/-! ### A step looks at its operands alone -/
section
variable {ρ ρ' : Operand → Option D}

theorem vals_congr : ∀ {xs : List Operand}, (∀ x ∈ xs, ρ x = ρ' x) → vals ρ xs = vals ρ' xs
  | [], _ => rfl
  | x :: xs, h => by
    simp only [vals, h x (List.mem_cons_self ..), vals_congr fun y hy => h y (List.mem_cons_of_mem _ hy)]

theorem fillD_congr {g : Nat → Option Root} {fs : List FI} : ∀ {ps : List (Nat × Operand)} {cs : List D}, (∀ x ∈ ps, ρ x.2 = ρ' x.2) → fillD g fs ρ cs ps = fillD g fs ρ' cs ps
  | [], _, _ => rfl
  | (i, x) :: ps, cs, h => by
    have h1 := h (i, x) (List.mem_cons_self ..)
    simp only at h1
    simp only [fillD, h1]
    split
    · split
      · exact fillD_congr fun y hy => h y (List.mem_cons_of_mem _ hy)
      · rfl
    · rfl

theorem litD_congr {g : Nat → Option Root} {w : Nat} : ∀ {ps : List (Nat × Operand)} {k : Nat}, (∀ x ∈ ps, ρ x.2 = ρ' x.2) → litD g ρ w k ps = litD g ρ' w k ps
  | [], _, _ => rfl
  | (i, x) :: ps, k, h => by
    have h1 := h (i, x) (List.mem_cons_self ..)
    simp only at h1
    simp only [litD, h1, litD_congr fun y hy => h y (List.mem_cons_of_mem _ hy)]

theorem optV_congr {x : Option Operand} (h : ∀ y, x = some y → ρ y = ρ' y) : optV ρ x = optV ρ' x := by
  cases x with
  | none => rfl
  | some y => simp only [optV, h y rfl]

theorem stepOp_congr {X : Ctx} {o : Oper} {g : Nat → Option Root} {nid : Nat} {hh : Hint} (h : ∀ x ∈ o.op.operands, ρ x = ρ' x) : stepOp X o ρ g nid hh = stepOp X o ρ' g nid hh := by
  obtain ⟨dst, op, type, pos, after, guard⟩ := o
  cases op <;> simp only [Op.operands] at h <;> simp only [stepOp]
  case build t ps =>
    have e : ∀ fs zs, fillD g fs ρ zs ps.toList = fillD g fs ρ' zs ps.toList := fun fs zs => fillD_congr fun x hx => h x.2 (by simp; exact ⟨x.1, by simpa using hx⟩)
    simp only [e]
  case buildSlice t n ps =>
    have e : ∀ w, litD g ρ w 0 ps.toList = litD g ρ' w 0 ps.toList := fun w => litD_congr fun x hx => h x.2 (by simp; exact ⟨x.1, by simpa using hx⟩)
    simp only [e]
  case makeFunc fn first captured =>
    cases fn <;> simp only [stepOp]
    rw [vals_congr (xs := captured.toList) fun x hx => h x (by simp at hx; simp [hx])]
  case slice t x lo hi mx =>
    cases mx <;> simp only [stepOp]
    rw [optV_congr (x := lo) fun y hy => h y (by subst hy; simp), optV_congr (x := hi) fun y hy => h y (by subst hy; simp), h x (by simp)]
  case call c =>
    have ha : ∀ x ∈ c.args.toList, ρ x = ρ' x := fun x hx => h x (by simp at hx; simp [Call.operands, hx])
    cases hc : c.callee with
    | value f =>
      simp only [hc]
      rw [h f (by simp [Call.operands, hc]), vals_congr ha]
    | invoke r m => rfl
    | builtin b =>
      have hmm : ∀ mn, stepOp.minmax mn c ρ = stepOp.minmax mn c ρ' := fun mn => by
        unfold stepOp.minmax
        rw [vals_congr ha]
      cases b <;> first | rfl | exact hmm _ | skip
      case len =>
        dsimp only
        split
        · rename_i ti x h1 h2
          rw [ha x (by rw [h2]; exact List.mem_cons_self ..)]
        · rfl
      case append =>
        dsimp only
        split
        · rename_i t t' s x h1 h2
          rw [ha s (by rw [h2]; simp), ha x (by rw [h2]; simp)]
        · rfl
  all_goals first
    | rfl
    | (simp at h; simp only [h]; done)

end

structure SR (X : Ctx) (M : Nat) (E0 : Env) (w0 : World) (σ : St) (a : Act) (w : World) (E : Env) : Prop where
  frm : Frm M E0 w0 E w
  low : ∀ r, r < M → E.st r ≠ .fresh
  gl : GlOK X.gl E w
  df : a.defers = []
  sz : a.tmps.size = σ.sl.length
  sl : ∀ (t : Nat) d, σ.sl[t]? = some d → Rep E w .slot d (a.eval (.tmp t))
  rt : ∀ r R, getR σ.G r = some R → RootRel E w r R
  fresh : ∀ r, σ.G.length ≤ r → E.st r = .fresh

/-- A region, run as it is listed. -/
structure Rgn (X : Ctx) (ops : Array Oper) (cs : List Rc) (σ : St) : Prop where
  len : cs.length = ops.toList.length
  st : ∀ (k : Nat) o c, ops.toList[k]? = some o → cs[k]? = some c → ∃ h qs, step1 X ops o h (foldK ops.toList cs k σ).sl (getR (foldK ops.toList cs k σ).G) (foldK ops.toList cs k σ).G.length = some (qs, c) ∧ AllP qs

/-- When those of D have been done. -/
structure Inv (X : Ctx) (M : Nat) (E0 : Env) (w0 : World) (σ : St) (os : List Oper) (cs : List Rc) (d : Nat → Bool) (a : Act) (w : World) (E : Env) : Prop where
  frm : Frm M E0 w0 E w
  low : ∀ r, r < M → E.st r ≠ .fresh
  gl : GlOK X.gl E w
  df : a.defers = []
  sz : a.tmps.size = σ.sl.length
  sl : ∀ (t : Nat) x, slotN os cs σ d t os.length = some x → Rep E w .slot x (a.eval (.tmp t))
  rt : ∀ r R, rootN os cs σ d r os.length = some R → RootRel E w r R
  fresh : ∀ r, σ.G.length ≤ r → (∀ (j : Nat) c, d j = true → cs[j]? = some c → ∀ u ∈ c.us, u.1 ≠ r) → E.st r = .fresh

section
variable {X : Ctx} {M : Nat} {E0 E E' : Env} {w0 w w' : World} {σ : St} {a : Act} {ops : Array Oper} {os : List Oper} {cs : List Rc} {d : Nat → Bool}

theorem slotN_none {os : List Oper} {cs : List Rc} {σ : St} {t : Nat} : ∀ n, slotN os cs σ (fun _ => false) t n = σ.sl[t]?
  | 0 => rfl
  | n + 1 => by
    simp only [slotN]
    split
    · rw [if_neg (by simp), slotN_none n]
    · exact slotN_none n

theorem rootN_none {os : List Oper} {cs : List Rc} {σ : St} {r : Nat} : ∀ n, rootN os cs σ (fun _ => false) r n = getR σ.G r
  | 0 => rfl
  | n + 1 => by
    simp only [rootN]
    split
    · rw [if_neg (by simp), rootN_none n]
    · exact rootN_none n

theorem SR.inv (h : SR X M E0 w0 σ a w E) : Inv X M E0 w0 σ os cs (fun _ => false) a w E :=
  ⟨h.frm, h.low, h.gl, h.df, h.sz, fun t x hx => h.sl t x (by rw [slotN_none] at hx; exact hx), fun r R hR => h.rt r R (by rw [rootN_none] at hR; exact hR), fun r hr _ => h.fresh r hr⟩

theorem Inv.sr (h : Inv X M E0 w0 σ os cs d a w E) (hl : cs.length = os.length) (hd : ∀ j, j < os.length → d j = true) : SR X M E0 w0 (foldK os cs os.length σ) a w E := by
  refine ⟨h.frm, h.low, h.gl, h.df, by rw [(foldK_sl hl 0 _ (Nat.le_refl _)).1]; exact h.sz, fun t x hx => h.sl t x ?_, fun r R hR => h.rt r R ?_, fun r hr => h.fresh r ?_ ?_⟩
  · rw [(foldK_sl hl t _ (Nat.le_refl _)).2] at hx
    rw [slotN_congr (D' := fun _ => true) _ fun j o hj hne => absurd (hd j hj) hne]
    exact hx
  · rw [foldK_rt hl r _ (Nat.le_refl _)] at hR
    rw [rootN_congr (D' := fun _ => true) _ fun j o hj hne => absurd (hd j hj) hne]
    exact hR
  · exact Nat.le_trans (foldK_len hl _ (Nat.le_refl _)).1 hr
  · intro j c hj hc u hu
    have hlt : j < os.length := by rw [← hl]; exact (List.getElem?_eq_some_iff.1 hc).1
    have := (foldK_len (σ := σ) hl _ (Nat.le_refl _)).2 j c hlt hc u hu
    omega

theorem Ext.st_ne {us : List (Nat × Option Root)} (h : Ext E w E' w' us) {r : Nat} (hr : E.st r ≠ .fresh) : E'.st r ≠ .fresh := by
  have h1 : Rep E w .slot (.ptr r 0 0 0) (.pointer (some ((E.adr r).add (0 * 0 + 0)))) := .ptr _ _ _ _ _ _ (.inl rfl) hr fun _ => rfl
  exact (h.keep _ _ h1).ptr_inv.2.1

theorem Ext.gl {us : List (Nat × Option Root)} (h : Ext E w E' w' us) {gl : List (Nat × D)} (hg : GlOK gl E w) : GlOK gl E' w' := fun x hx => ⟨(hg x hx).1, h.keep _ _ (hg x hx).2⟩

theorem Ext.frm {us : List (Nat × Option Root)} (h : Ext E w E' w' us) (hlow : ∀ r, r < M → E.st r ≠ .fresh) : Frm M E w E' w' where
  sz := h.sz
  os := h.os
  tape := h.tape
  output := h.output
  fz := h.fz
  far := h.far
  adr := fun r hr => h.adr r (hlow r hr)
  shape := h.shape
  shp := fun r hr hst => by
    have h1 : E.st r = .own := (h.back r hst).resolve_left (hlow r hr)
    exact ⟨h1, fun N hN => h.shp r N h1 hst hN⟩

theorem apart1_spec {o o' : Oper} {c c' : Rc} (h : apart1 ops o o' c c' = true) : o.apart ops o' = true ∧ (∀ u ∈ c.us, u.1 ∉ c'.foot ∧ ∀ u' ∈ c'.us, u.1 ≠ u'.1) ∧ ∀ u ∈ c'.us, u.1 ∉ c.foot := by
  simp only [apart1, Bool.and_eq_true, List.all_eq_true, Bool.not_eq_true'] at h
  obtain ⟨⟨h1, h2⟩, h3⟩ := h
  refine ⟨h1, fun u hu => ⟨distinct_any (h2 u hu).1, fun u' hu' e => ?_⟩, fun u hu => distinct_any (h3 u hu)⟩
  have := List.any_eq_false.1 (h2 u hu).2 u' hu'
  rw [e] at this
  simp [Nat.beq_refl] at this

theorem glOf_mem : ∀ {gl : List (Nat × D)} {g : Nat} {x : D}, glOf gl g = some x → (g, x) ∈ gl
  | [], g, x, h => by simp [glOf] at h
  | (k, y) :: gl, g, x, h => by
    simp only [glOf] at h
    split at h
    · rename_i hk
      cases h
      rw [Nat.eq_of_beq_eq_true hk]
      exact List.mem_cons_self ..
    · exact List.mem_cons_of_mem _ (glOf_mem h)

theorem put_eval (a : Act) (dst : Option Tmp) (v : Value) (t : Nat) : (a.put dst v).eval (.tmp t) = if dst = some t ∧ t < a.tmps.size then v else a.eval (.tmp t) := by
  cases dst with
  | none => simp [Act.put]
  | some k =>
    simp only [Act.put, Act.eval, Option.some.injEq]
    by_cases hk : k = t
    · subst hk
      by_cases h : k < a.tmps.size
      · simp [h]
      · simp [h]
    · simp [hk]

theorem put_size (a : Act) (dst : Option Tmp) (v : Value) : (a.put dst v).tmps.size = a.tmps.size := by cases dst <;> simp [Act.put]
theorem put_df (a : Act) (dst : Option Tmp) (v : Value) : (a.put dst v).defers = a.defers := by cases dst <;> rfl

/-- When one more has been done. -/
theorem Inv.put {i : Nat} {o : Oper} {c : Rc} {v : Value} (hI : Inv X M E0 w0 σ os cs d a w E) (hl : cs.length = os.length) (ho : os[i]? = some o) (hc : cs[i]? = some c)
    (hx : Ext E w E' w' c.us) (hv : Rep E' w' .slot c.v v)
    (hd1 : ∀ (j : Nat) o', i < j → d j = true → os[j]? = some o' → ∀ t, o.dst = some t → o'.dst ≠ some t)
    (hd2 : ∀ (j : Nat) c', i < j → d j = true → cs[j]? = some c' → ∀ u ∈ c.us, ∀ u' ∈ c'.us, u'.1 ≠ u.1) :
    Inv X M E0 w0 σ os cs (fun j => d j || j == i) (a.put o.dst v) w' E' := by
  have hi : i < os.length := (List.getElem?_eq_some_iff.1 ho).1
  refine ⟨hI.frm.trans (hx.frm hI.low), fun r hr => hx.st_ne (hI.low r hr), hx.gl hI.gl, by rw [put_df]; exact hI.df, by rw [put_size]; exact hI.sz, fun t x h => ?_, fun r R h => ?_, fun r hr h => ?_⟩
  · rw [put_eval, hI.sz]
    rw [slotN_put ho hc _ hi fun h0 j o' h1 h2 h3 h4 => hd1 j o' h1 h3 h4 t h0] at h
    split at h
    · rename_i hcnd
      cases h
      rw [if_pos hcnd]
      exact hv
    · rename_i hcnd
      rw [if_neg hcnd]
      rw [slotN_skip ho hcnd] at h
      exact hx.keep _ _ (hI.sl t x h)
  · by_cases hin : ∃ u ∈ c.us, u.1 = r
    · refine hx.new r R (rootN_put hc hin _ hi (fun j c' h1 h2 h3 h4 u' hu' => ?_) h)
      obtain ⟨u, hu, rfl⟩ := hin
      exact hd2 j c' h1 h3 h4 u hu u' hu'
    · have hne : ∀ u ∈ c.us, u.1 ≠ r := fun u hu e => hin ⟨u, hu, e⟩
      rw [rootN_skip hc hne] at h
      exact hx.root r R hne (hI.rt r R h)
  · refine hx.fresh r (fun u hu => h i c (by simp) hc u hu) (hI.fresh r hr fun j c' hj hc' => h j c' (by simp [hj]) hc')

end
end Go.Proofs.Ytipolkdlaepcaaa.Ab
