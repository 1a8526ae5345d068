/- The steps of functions on plain data, part 3: no condition. -/
import Derived.Test.YtnfeelacifllmaaAb2
import Derived.Maps.Keyed
import Derived.Carry
import Derived.Maps.RangeRun
set_option linter.unusedVariables false
set_option linter.unusedSimpArgs false
namespace Go.Proofs.Ytnfeelacifllmaa.Ab

def newV : D → Value → Option (Addr × Nat)
  | .list true _ _ _, .slice A n _ => some (A.getD ⟨0, 0, none⟩, n)
  | .omap _, .map (some b) => some (⟨b, 0, none⟩, 1)
  | .optr _ _, .pointer (some a) => some (a, 1)
  | _, _ => none
theorem newV_R {c : D} {v : Value} {x : Addr × Nat} (h : newV c v = some x) : ∃ R, newR c = some R := by
  unfold newV at h
  split at h <;> first | exact ⟨_, rfl⟩ | cases h
def newAt (nid : Nat) (cs : List D) (vs : List Value) (r : Nat) : Option (Addr × Nat) :=
  if nid ≤ r then match cs[r - nid]?, vs[r - nid]? with
    | some c, some v => newV c v
    | _, _ => none
  else none
def bring (ins : List Nat) (nid : Nat) (cs : List D) : Bk → Bk
  | .own k p => match ins[k]? with
    | some r => .own r p
    | none => if k = ins.length then (match p with
      | (q, 0) :: p' => (match cs[q]? with
        | some c => if (newR c).isSome then .own (nid + q) p' else .far
        | none => .far)
      | _ => .far) else .far
  | x => x
def gone (ins : List Nat) (G' : List Root) (r : Nat) : Bool := match idx r 0 ins with
  | some k => (match G'[k]? with
    | some R => R.dead
    | none => false)
  | none => false
def Env.back (E E' : Env) (w : World) (ins : List Nat) (G' : List Root) (nid : Nat) (cs : List D) (vs : List Value) : Env :=
  { adr := fun r => match newAt nid cs vs r with | some x => x.1 | none => E.adr r
    len := fun r => match newAt nid cs vs r with | some x => x.2 | none => E.len r
    ow := fun b => if b < w.heap.size then (match E.ow b with
      | .own r p => (match idx r 0 ins with | none => .own r p | some _ => bring ins nid cs (E'.ow b))
      | x => x) else bring ins nid cs (E'.ow b)
    st := fun r => match newAt nid cs vs r with | some _ => .own | none => if gone ins G' r then .dead else E.st r }

section
variable {E E' E2 : Env} {w w' : World}

theorem nfL_mem : ∀ {xs : List D}, nfL xs → ∀ x ∈ xs, x.nf
  | [], _, x, hx => by cases hx
  | y :: ys, h, x, hx => by
    simp only [nfL] at h
    rcases List.mem_cons.1 hx with rfl | hx
    · exact h.1
    · exact nfL_mem h.2 x hx

theorem nf_cells {x c : D} (h : x.nf) (hc : c ∈ x.cells) : c.nf := by
  cases x <;> simp [D.cells] at hc <;> first | (subst hc; exact h) | skip
  simp only [D.nf] at h
  exact nfL_mem h c hc

theorem Rep.back {cl : Prop} (hfz : cl → ∀ b, b < w.heap.size → E.ow b = .fz → E2.ow b = .fz) : ∀ {m : Md} {d : D} {v : Value}, Rep E w m d v → ∀ {m' : Md},
    (m = .fz ∧ m' = .fz ∧ cl) ∨ (∃ k p r p', m = .own k p ∧ m' = .own r p' ∧ Lab E w E2 w k p r p' ∧ (cl ∨ d.nf)) ∨ (∃ k p r p', m = .box k p ∧ m' = .box r p' ∧ Lab E w E2 w k p r p' ∧ (cl ∨ d.nf) ∧ d.fzc = true) → Rep E2 w m' d v := by
  intro m d v h
  induction h with
  | int m k n => intro m' _; exact .int _ _ _
  | bool m b => intro m' _; exact .bool _ _
  | ifc m b v hv => intro m' _; exact .ifc _ _ _ hv
  | str m s => intro m' _; exact .str _ _
  | nil m => intro m' _; exact .nil _
  | undef m v h =>
    intro m' hm
    rcases hm with ⟨rfl, _⟩ | ⟨_, _, _, _, rfl, _⟩ | ⟨_, _, _, _, _, _, _, _, hf⟩
    · rcases h with h | ⟨_, _, h⟩ <;> cases h
    · rcases h with h | ⟨_, _, h⟩ <;> cases h
    · simp [D.fzc] at hf
  | hid m v _ _ h =>
    intro m' hm
    rcases hm with ⟨rfl, _⟩ | ⟨_, _, _, _, rfl, _⟩ | ⟨_, _, _, _, _, _, _, _, hf⟩
    · rcases h with h | ⟨_, _, h⟩ <;> cases h
    · rcases h with h | ⟨_, _, h⟩ <;> cases h
    · simp [D.fzc] at hf
  | anyb b => intro m' hm; rcases hm with ⟨hm, _⟩ | ⟨_, _, _, _, hm, _⟩ | ⟨_, _, _, _, hm, _⟩ <;> cases hm
  | fn f caps vs hl h ih => intro m' hm; rcases hm with ⟨hm, _⟩ | ⟨_, _, _, _, hm, _⟩ | ⟨_, _, _, _, hm, _⟩ <;> cases hm
  | agg cs vs hl h ih => intro m' hm; rcases hm with ⟨hm, _⟩ | ⟨_, _, _, _, hm, _⟩ | ⟨_, _, _, _, hm, _⟩ <;> cases hm
  | tup cs vs hl h ih => intro m' hm; rcases hm with ⟨hm, _⟩ | ⟨_, _, _, _, hm, _⟩ | ⟨_, _, _, _, hm, _⟩ <;> cases hm
  | flist m o wd n xs A cap us hm' hn hc hw ha h ih =>
    intro m' hm
    have hcl : cl := by
      rcases hm with ⟨_, _, h⟩ | ⟨_, _, _, _, rfl, _, _, h⟩ | ⟨_, _, _, _, rfl, _, _, h, _⟩
      · exact h
      · rcases hm' with h' | h' | rfl
        · cases h'
        · cases h'
        · rcases h with h | h
          · exact h
          · simp [D.nf] at h
      · rcases hm' with h' | h' | rfl
        · cases h'
        · cases h'
        · rcases h with h | h
          · exact h
          · simp [D.nf] at h
    refine .flist _ _ _ _ _ _ _ us ?_ hn hc hw (fun h0 => ?_) (fun i j x c hx hj => ih i j x c hx hj (.inl ⟨rfl, rfl, hcl⟩))
    · rcases hm with ⟨_, rfl, _⟩ | ⟨_, _, _, _, rfl, _⟩ | ⟨_, _, _, _, rfl, _⟩
      · exact .inr (.inl rfl)
      · rcases hm' with h' | h' | rfl
        · cases h'
        · cases h'
        · exact .inr (.inr rfl)
      · rcases hm' with h' | h' | rfl
        · cases h'
        · cases h'
        · exact .inr (.inr rfl)
    · obtain ⟨b, hb, h1, h2, h3⟩ := ha h0
      exact ⟨b, hb, hfz hcl _ h2 h1, h2, h3⟩
  | olist m k p wd n xs A cap us hm' hn hc hw ha h ih =>
    intro m' hm
    have key : ∃ r p', (m' = .own r p' ∨ m' = .box r p') ∧ Lab E w E2 w k p r p' ∧ (cl ∨ nfL xs) := by
      rcases hm with ⟨rfl, _⟩ | ⟨k', p0, r, p', rfl, rfl, hL, hc⟩ | ⟨k', p0, r, p', rfl, rfl, hL, hc, _⟩
      · rcases hm' with h | h <;> cases h
      · rcases hm' with h | h <;> cases h
        exact ⟨_, _, .inl rfl, hL, hc.imp id (fun h => by simpa [D.nf] using h)⟩
      · rcases hm' with h | h <;> cases h
        exact ⟨_, _, .inr rfl, hL, hc.imp id (fun h => by simpa [D.nf] using h)⟩
    obtain ⟨r, p', hm2, hL, hcl⟩ := key
    refine .olist _ r p' _ _ _ _ _ us hm2 hn hc hw (fun h0 => ?_) (fun i j x c hx hj => ih i j x c hx hj (.inr (.inl ⟨_, _, _, _, rfl, rfl, hL.kid _, hcl.imp id fun h => nf_cells (nfL_mem h x (List.mem_of_getElem? hx)) (List.mem_of_getElem? hj)⟩)))
    obtain ⟨a, cs, ty, rfl, hsp, ho, hh, hz, hcell⟩ := ha h0
    exact ⟨a, cs, ty, rfl, hsp, by simpa using (hL a.block [] (lt_of_get hh) (by simpa using ho)).2, hh, hz, hcell⟩
  | ref m r wd vw v h' hs h => intro m' hm; rcases hm with ⟨rfl, _⟩ | ⟨_, _, _, _, rfl, _⟩ | ⟨_, _, _, _, _, _, _, _, hf⟩ <;> first | (rcases h' with h | ⟨_, _, h⟩ <;> cases h; done) | simp [D.fzc] at hf
  | ptr m r wd i j v h' hs h => intro m' hm; rcases hm with ⟨rfl, _⟩ | ⟨_, _, _, _, rfl, _⟩ | ⟨_, _, _, _, _, _, _, _, hf⟩ <;> first | (rcases h' with h | ⟨_, _, h⟩ <;> cases h; done) | simp [D.fzc] at hf
  | fptr m wd xs i j a us h' hw ha h ih => intro m' hm; rcases hm with ⟨rfl, _⟩ | ⟨_, _, _, _, rfl, _⟩ | ⟨_, _, _, _, _, _, _, _, hf⟩ <;> first | (rcases h' with h | ⟨_, _, h⟩ <;> cases h; done) | simp [D.fzc] at hf
  | mref m r v h' hs h => intro m' hm; rcases hm with ⟨rfl, _⟩ | ⟨_, _, _, _, rfl, _⟩ | ⟨_, _, _, _, _, _, _, _, hf⟩ <;> first | (rcases h' with h | ⟨_, _, h⟩ <;> cases h; done) | simp [D.fzc] at hf
  | fomap m l b es clk h' ho hh hfit =>
    intro m' hm
    rcases hm with ⟨rfl, rfl, hc⟩ | ⟨_, _, _, _, rfl, _⟩ | ⟨_, _, _, _, _, _, _, _, hf⟩
    · exact .fomap _ _ _ es clk (.inr rfl) (hfz hc _ (lt_of_get hh) ho) hh hfit
    · rcases h' with h | h <;> cases h
    · simp [D.fzc] at hf
  | foptr m wd xs a us h' hw ha h ih =>
    intro m' hm
    rcases hm with ⟨rfl, rfl, hc⟩ | ⟨_, _, _, _, rfl, _⟩ | ⟨_, _, _, _, _, _, _, _, hf⟩
    · exact .foptr _ _ _ _ us (.inr rfl) hw ⟨hfz hc _ ha.2.1 ha.1, ha.2⟩ (fun i j x c hx hj => ih i j x c hx hj (.inl ⟨rfl, rfl, hc⟩))
    · rcases h' with h | h <;> cases h
    · simp [D.fzc] at hf
  | omap m k p l b es clk hm' ho hh hfit =>
    intro m' hm
    have key : ∃ r p', (m' = .own r p' ∨ m' = .box r p') ∧ Lab E w E2 w k p r p' := by
      rcases hm with ⟨rfl, _⟩ | ⟨k', p0, r, p', rfl, rfl, hL, hc⟩ | ⟨k', p0, r, p', rfl, rfl, hL, hc, _⟩
      · rcases hm' with h | h <;> cases h
      · rcases hm' with h | h <;> cases h
        exact ⟨_, _, .inl rfl, hL⟩
      · rcases hm' with h | h <;> cases h
        exact ⟨_, _, .inr rfl, hL⟩
    obtain ⟨r, p', hm2, hL⟩ := key
    exact .omap _ r p' _ _ es clk hm2 (by simpa using (hL b [] (lt_of_get hh) (by simpa using ho)).2) hh hfit
  | optr m k p wd xs a us hm' hn hw ha h ih =>
    intro m' hm
    have key : ∃ r p', (m' = .own r p' ∨ m' = .box r p') ∧ Lab E w E2 w k p r p' ∧ (cl ∨ nfL xs) := by
      rcases hm with ⟨rfl, _⟩ | ⟨k', p0, r, p', rfl, rfl, hL, hc⟩ | ⟨k', p0, r, p', rfl, rfl, hL, hc, _⟩
      · rcases hm' with h | h <;> cases h
      · rcases hm' with h | h <;> cases h
        exact ⟨_, _, .inl rfl, hL, hc.imp id (fun h => by simpa [D.nf] using h)⟩
      · rcases hm' with h | h <;> cases h
        exact ⟨_, _, .inr rfl, hL, hc.imp id (fun h => by simpa [D.nf] using h)⟩
    obtain ⟨r, p', hm2, hL, hcl⟩ := key
    obtain ⟨cs, ty, hsp, ho, hh, hz, hcell⟩ := ha
    exact .optr _ r p' _ _ _ us hm2 hn hw ⟨cs, ty, hsp, by simpa using (hL a.block [] (lt_of_get hh) (by simpa using ho)).2, hh, hz, hcell⟩ (fun i j x c hx hj => ih i j x c hx hj (.inr (.inl ⟨_, _, _, _, rfl, rfl, hL.kid _, hcl.imp id fun h => nf_cells (nfL_mem h x (List.mem_of_getElem? hx)) (List.mem_of_getElem? hj)⟩)))

def flatV : List D → List Value → List Value
  | .agg _ :: ds, .agg vs :: us => vs.toList ++ flatV ds us
  | _ :: ds, u :: us => u :: flatV ds us
  | _, _ => []

theorem ResAll.flat {M : Nat} : ∀ {res : List D} {us : List Value} {q : Nat}, ResAll E w M q res us → (flatV res us).length = (res.flatMap D.cells).length ∧
    ∀ (j : Nat) c x, (res.flatMap D.cells)[j]? = some c → (flatV res us)[j]? = some x → Rep E w (.own M [(q + j, 0)]) c x
  | [], [], q, _ => ⟨rfl, fun j c x h => by simp at h⟩
  | [], _ :: _, q, h => h.elim
  | _ :: _, [], q, h => h.elim
  | d :: ds, u :: us, q, h => by
    obtain ⟨h1, h2⟩ := h
    obtain ⟨hl, hr⟩ := ResAll.flat h2
    have hs : ∀ s, d ≠ .spc s := by
      rintro s rfl
      simp only [ResRep] at h1
      cases h1
    by_cases hd : ∃ cs, d = .agg cs
    · obtain ⟨cs, rfl⟩ := hd
      obtain ⟨vs, rfl, hvl, hv⟩ := h1
      simp only [flatV, List.flatMap_cons, D.cells] at *
      refine ⟨by simp [hl, hvl], fun j c x hc hx => ?_⟩
      by_cases hj : j < cs.length
      · rw [List.getElem?_append_left hj] at hc
        rw [List.getElem?_append_left (by simp; omega)] at hx
        exact hv j c x hc (by simpa using hx)
      · rw [List.getElem?_append_right (by omega)] at hc
        rw [List.getElem?_append_right (by simp; omega)] at hx
        have := hr (j - cs.length) c x hc (by rw [hvl]; simpa using hx)
        rwa [show q + cs.length + (j - cs.length) = q + j by omega] at this
    · have e1 : d.cells = [d] := by cases d <;> first | rfl | exact absurd ⟨_, rfl⟩ hd | exact absurd rfl (hs _)
      have e2 : flatV (d :: ds) (u :: us) = u :: flatV ds us := by cases d <;> first | rfl | exact absurd ⟨_, rfl⟩ hd
      have e3 : Rep E w (.own M [(q, 0)]) d u := by cases d <;> first | exact h1 | exact absurd ⟨_, rfl⟩ hd
      rw [e1] at hr
      rw [e2, List.flatMap_cons, e1]
      refine ⟨by simp [hl], fun j c x hc hx => ?_⟩
      cases j with
      | zero =>
        simp only [List.cons_append, List.getElem?_cons_zero, Option.some.injEq] at hc hx
        subst hc hx
        exact e3
      | succ j =>
        have := hr j c x (by simpa using hc) (by simpa using hx)
        rwa [show q + [d].length + j = q + (j + 1) by simp; omega] at this

theorem takeL_get : ∀ {cs : List D} {id j : Nat} {d : D}, (takeL id cs)[j]? = some d → ∃ c, cs[j]? = some c ∧ d = take1 (id + j) c
  | [], id, j, d, h => by simp [takeL] at h
  | c :: cs, id, j, d, h => by
    cases j with
    | zero =>
      simp only [takeL, List.getElem?_cons_zero, Option.some.injEq] at h
      exact ⟨c, rfl, h.symm⟩
    | succ j =>
      simp only [takeL, List.getElem?_cons_succ] at h
      obtain ⟨c', h1, h2⟩ := takeL_get h
      exact ⟨c', by simpa using h1, by rw [h2]; congr 1; omega⟩

theorem takeL_len : ∀ (cs : List D) (id : Nat), (takeL id cs).length = cs.length
  | [], _ => rfl
  | c :: cs, id => by simp [takeL, takeL_len cs]

theorem ResAll.take {M : Nat} : ∀ {res : List D} {us : List Value} {q id : Nat}, ResAll E w M q res us →
    (∀ (j : Nat) c x, (res.flatMap D.cells)[j]? = some c → (flatV res us)[j]? = some x → Rep E2 w' .slot (take1 (id + j) c) x) →
    us.length = (takeVs id res).length ∧ ∀ (i : Nat) d u, (takeVs id res)[i]? = some d → us[i]? = some u → Rep E2 w' .slot d u
  | [], [], q, id, _, _ => ⟨rfl, fun j c x h => by simp [takeVs] at h⟩
  | [], _ :: _, q, id, h, _ => h.elim
  | _ :: _, [], q, id, h, _ => h.elim
  | d :: ds, u :: us, q, id, h, hr => by
    obtain ⟨h1, h2⟩ := h
    have hs : ∀ s, d ≠ .spc s := by
      rintro s rfl
      simp only [ResRep] at h1
      cases h1
    by_cases hd : ∃ cs, d = .agg cs
    · obtain ⟨cs, rfl⟩ := hd
      obtain ⟨vs, rfl, hvl, hv⟩ := h1
      simp only [flatV, List.flatMap_cons, D.cells] at hr
      obtain ⟨hl, hh⟩ := ResAll.take (id := id + cs.length) h2 (fun j c x hc hx => by
        have := hr (cs.length + j) c x (by rw [List.getElem?_append_right (by omega)]; simpa using hc) (by rw [List.getElem?_append_right (by simp; omega)]; simpa [hvl] using hx)
        rwa [← Nat.add_assoc] at this)
      refine ⟨by simp [takeVs, hl, D.cells], fun i d' u' hd' hu' => ?_⟩
      cases i with
      | zero =>
        simp only [takeVs, takeV, List.getElem?_cons_zero, Option.some.injEq] at hd' hu'
        subst hd' hu'
        refine .agg _ _ (by rw [takeL_len]; exact hvl) (fun j c x hc hx => ?_)
        obtain ⟨c', hc', rfl⟩ := takeL_get hc
        have hlt := (List.getElem?_eq_some_iff.1 hc').1
        exact hr j c' x (by rw [List.getElem?_append_left hlt]; exact hc') (by rw [List.getElem?_append_left (by simp; omega)]; simpa using hx)
      | succ i => exact hh i d' u' (by simpa [takeVs, D.cells] using hd') (by simpa using hu')
    · have e1 : d.cells = [d] := by cases d <;> first | rfl | exact absurd ⟨_, rfl⟩ hd | exact absurd rfl (hs _)
      have e2 : flatV (d :: ds) (u :: us) = u :: flatV ds us := by cases d <;> first | rfl | exact absurd ⟨_, rfl⟩ hd
      have e4 : takeV id d = take1 id d := by cases d <;> first | rfl | exact absurd ⟨_, rfl⟩ hd
      rw [e2, List.flatMap_cons, e1] at hr
      obtain ⟨hl, hh⟩ := ResAll.take (id := id + 1) h2 (fun j c x hc hx => by
        have := hr (j + 1) c x (by simpa using hc) (by simpa using hx)
        rwa [show id + (j + 1) = id + 1 + j by omega] at this)
      refine ⟨by simp [takeVs, e1, hl], fun i d' u' hd' hu' => ?_⟩
      cases i with
      | zero =>
        simp only [takeVs, e4, List.getElem?_cons_zero, Option.some.injEq] at hd' hu'
        subst hd' hu'
        exact hr 0 d u rfl rfl
      | succ i => exact hh i d' u' (by simpa [takeVs, e1] using hd') (by simpa using hu')

theorem pack_rep {ds : List D} {us : List Value} (hl : us.length = ds.length) (h : ∀ (i : Nat) d u, ds[i]? = some d → us[i]? = some u → Rep E w .slot d u) : Rep E w .slot (oneOrTup ds) (pack us) := by
  match ds, us, hl with
  | [], [], _ => exact .tup _ _ rfl (fun i c u hc => by simp at hc)
  | [d], [u], _ => exact h 0 d u rfl rfl
  | d :: d' :: ds, u :: u' :: us, hl =>
    refine .tup _ _ (by simp at hl ⊢; omega) (fun i c x hc hx => h i c x hc (by simpa using hx))

theorem rootsOf_ok {all : List Nat} {g : Nat → Option Root} : ∀ {ins : List Nat} {G : List Root}, rootsOf all g ins = some G → G.length = ins.length ∧ ∀ (k : Nat) r, ins[k]? = some r → ∃ R R0, g r = some R ∧ inR all R = some R0 ∧ G[k]? = some R0 ∧ R.fz = false ∧ 0 < R.w
  | [], G, h => by
    simp only [rootsOf, Option.some.injEq] at h
    subst h
    exact ⟨rfl, fun k r h => by simp at h⟩
  | r :: rs, G, h => by
    simp only [rootsOf] at h
    split at h
    · rename_i R Rs h1 h2
      split at h
      · cases h
      · rename_i hc
        split at h
        · rename_i R0 hR0
          cases h
          simp only [Bool.or_eq_true, Bool.not_eq_true', not_or, Bool.not_eq_true, Bool.not_eq_false, Nat.blt, Nat.ble_eq] at hc
          obtain ⟨hl, hh⟩ := rootsOf_ok h2
          refine ⟨by simp [hl], fun k r' hk => ?_⟩
          cases k with
          | zero =>
            simp only [List.getElem?_cons_zero, Option.some.injEq] at hk
            subst hk
            exact ⟨R, R0, h1, hR0, rfl, hc.1, by omega⟩
          | succ k => simpa using hh k r' (by simpa using hk)
        · cases h
    · cases h

theorem inR_eq {ins : List Nat} {R R0 : Root} (h : inR ins R = some R0) : (R.box = false ∧ R0 = R) ∨ (R.box = true ∧ ∃ cs cs', R.xs = [.agg cs] ∧ toCL ins cs = some cs' ∧ R0 = { R with xs := [.agg cs'] }) := by
  unfold inR at h
  split at h
  · rename_i hb
    split at h
    · rename_i cs hx
      split at h
      · rename_i cs' hc
        cases h
        exact .inr ⟨hb, cs, cs', hx, hc, rfl⟩
      · cases h
    · cases h
  · rename_i hb
    cases h
    exact .inl ⟨by simpa using hb, rfl⟩
theorem outR_eq {ins : List Nat} {R R0 : Root} (h : outR ins R = some R0) : (R.box = false ∧ R0 = R) ∨ (R.box = true ∧ ∃ cs cs', R.xs = [.agg cs] ∧ ofCL ins cs = some cs' ∧ R0 = { R with xs := [.agg cs'] }) := by
  unfold outR at h
  split at h
  · rename_i hb
    split at h
    · rename_i cs hx
      split at h
      · rename_i cs' hc
        cases h
        exact .inr ⟨hb, cs, cs', hx, hc, rfl⟩
      · cases h
    · cases h
  · rename_i hb
    cases h
    exact .inl ⟨by simpa using hb, rfl⟩
theorem toCL_at {ins : List Nat} : ∀ {cs cs' : List D}, toCL ins cs = some cs' → cs'.length = cs.length ∧ ∀ (j : Nat) c', cs'[j]? = some c' → ∃ c, cs[j]? = some c ∧ toC ins c = some c'
  | [], cs', h => by cases h; exact ⟨rfl, fun j c' h => by simp at h⟩
  | c :: cs, cs', h => by
    simp only [toCL] at h
    split at h
    · rename_i d' r' h1 h2
      cases h
      obtain ⟨hl, hh⟩ := toCL_at h2
      refine ⟨by simp [hl], fun j c' hj => ?_⟩
      cases j with
      | zero =>
        simp only [List.getElem?_cons_zero, Option.some.injEq] at hj
        subst hj
        exact ⟨c, rfl, h1⟩
      | succ j => simpa using hh j c' (by simpa using hj)
    · cases h
theorem ofCL_at {ins : List Nat} : ∀ {cs cs' : List D}, ofCL ins cs = some cs' → cs'.length = cs.length ∧ ∀ (j : Nat) c', cs'[j]? = some c' → ∃ c, cs[j]? = some c ∧ ofC ins c = some c'
  | [], cs', h => by cases h; exact ⟨rfl, fun j c' h => by simp at h⟩
  | c :: cs, cs', h => by
    simp only [ofCL] at h
    split at h
    · rename_i d' r' h1 h2
      cases h
      obtain ⟨hl, hh⟩ := ofCL_at h2
      refine ⟨by simp [hl], fun j c' hj => ?_⟩
      cases j with
      | zero =>
        simp only [List.getElem?_cons_zero, Option.some.injEq] at hj
        subst hj
        exact ⟨c, rfl, h1⟩
      | succ j => simpa using hh j c' (by simpa using hj)
    · cases h

theorem sameB_eq {a b : Bool} (h : sameB a b = true) : a = b := by cases a <;> cases b <;> simp [sameB] at h <;> rfl

theorem updAt_ok {all : List Nat} : ∀ {ins : List Nat} {G G' : List Root} {ps : List Prop} {us : List (Nat × Option Root)}, updAt all ins G G' = some (ps, us) → AllP ps → G'.length = ins.length ∧
    (∀ (k : Nat) r, ins[k]? = some r → ∃ R R', G[k]? = some R ∧ G'[k]? = some R' ∧ (R'.dead = true ∧ (r, none) ∈ us ∨ R'.dead = false ∧ R'.n = R.n ∧ R.w = R'.w ∧ R.box = R'.box ∧ R'.fz = false ∧ 0 < R'.w ∧ ∃ R2, outR all R' = some R2 ∧ (r, some R2) ∈ us)) ∧
    ∀ u ∈ us, ∃ (k : Nat) (R' : Root), ins[k]? = some u.1 ∧ G'[k]? = some R' ∧ (R'.dead = true ∧ u.2 = none ∨ R'.dead = false ∧ ∃ R2, outR all R' = some R2 ∧ u.2 = some R2)
  | [], [], [], ps, us, h, hp => by
    simp only [updAt, Option.some.injEq, Prod.mk.injEq] at h
    obtain ⟨rfl, rfl⟩ := h
    exact ⟨rfl, fun k r h => by simp at h, fun u h => by cases h⟩
  | r :: rs, R :: Rs, R' :: Rs', ps, us, h, hp => by
    simp only [updAt] at h
    split at h
    · rename_i ps' u' hu
      split at h
      · rename_i hdead
        cases h
        obtain ⟨hl, h1, h2⟩ := updAt_ok hu hp
        refine ⟨by simp [hl], fun k r' hk => ?_, fun u hu' => ?_⟩
        · cases k with
          | zero =>
            simp only [List.getElem?_cons_zero, Option.some.injEq] at hk
            subst hk
            exact ⟨R, R', rfl, rfl, .inl ⟨hdead, List.mem_cons_self ..⟩⟩
          | succ k =>
            obtain ⟨R1, R1', a1, a2, a3⟩ := h1 k r' (by simpa using hk)
            refine ⟨R1, R1', by simpa using a1, by simpa using a2, ?_⟩
            rcases a3 with ⟨b1, b2⟩ | ⟨b0, b1, b2, b3, b4, b5, R2, b7, b6⟩
            · exact .inl ⟨b1, List.mem_cons_of_mem _ b2⟩
            · exact .inr ⟨b0, b1, b2, b3, b4, b5, R2, b7, List.mem_cons_of_mem _ b6⟩
        · rcases List.mem_cons.1 hu' with rfl | hu'
          · exact ⟨0, R', rfl, rfl, .inl ⟨hdead, rfl⟩⟩
          · obtain ⟨k, R1, a1, a2, a3⟩ := h2 u hu'
            exact ⟨k + 1, R1, by simpa using a1, by simpa using a2, a3⟩
      rename_i hdead
      split at h
      · rename_i hc
        split at h
        · rename_i R2 hR2
          cases h
          simp only [Bool.and_eq_true, Bool.not_eq_true', Nat.blt, Nat.ble_eq] at hc
          obtain ⟨⟨⟨hw, hb⟩, hf⟩, hpos⟩ := hc
          have hpos : 0 < R'.w := by omega
          have hdead : R'.dead = false := by simpa using hdead
          obtain ⟨hl, h1, h2⟩ := updAt_ok hu hp.2
          refine ⟨by simp [hl], fun k r' hk => ?_, fun u hu' => ?_⟩
          · cases k with
            | zero =>
              simp only [List.getElem?_cons_zero, Option.some.injEq] at hk
              subst hk
              exact ⟨R, R', rfl, rfl, .inr ⟨hdead, hp.1, Nat.eq_of_beq_eq_true hw, sameB_eq hb, hf, hpos, R2, hR2, List.mem_cons_self ..⟩⟩
            | succ k =>
              obtain ⟨R1, R1', a1, a2, a3⟩ := h1 k r' (by simpa using hk)
              refine ⟨R1, R1', by simpa using a1, by simpa using a2, ?_⟩
              rcases a3 with ⟨b1, b2⟩ | ⟨b0, b1, b2, b3, b4, b5, R2, b7, b6⟩
              · exact .inl ⟨b1, List.mem_cons_of_mem _ b2⟩
              · exact .inr ⟨b0, b1, b2, b3, b4, b5, R2, b7, List.mem_cons_of_mem _ b6⟩
          · rcases List.mem_cons.1 hu' with rfl | hu'
            · exact ⟨0, R', rfl, rfl, .inr ⟨hdead, R2, hR2, rfl⟩⟩
            · obtain ⟨k, R1, a1, a2, a3⟩ := h2 u hu'
              exact ⟨k + 1, R1, by simpa using a1, by simpa using a2, a3⟩
        · cases h
      · cases h
    · cases h
  | [], [], _ :: _, _, _, h, _ => by simp [updAt] at h
  | [], _ :: _, _, _, _, h, _ => by simp [updAt] at h
  | _ :: _, [], _, _, _, h, _ => by simp [updAt] at h
  | _ :: _, _ :: _, [], _, _, h, _ => by simp [updAt] at h

theorem news_mem : ∀ {cs : List D} {id : Nat} {u : Nat × Option Root}, u ∈ news id cs → ∃ j c R, cs[j]? = some c ∧ newR c = some R ∧ u = (id + j, some R)
  | [], id, u, h => by simp [news] at h
  | c :: cs, id, u, h => by
    simp only [news] at h
    have tail : u ∈ news (id + 1) cs → ∃ j c' R, (c :: cs)[j]? = some c' ∧ newR c' = some R ∧ u = (id + j, some R) := fun h => by
      obtain ⟨j, c', R, h1, h2, rfl⟩ := news_mem h
      exact ⟨j + 1, c', R, by simpa using h1, h2, by congr 1; omega⟩
    split at h
    · rename_i R hR
      rcases List.mem_cons.1 h with rfl | h
      · exact ⟨0, c, R, rfl, hR, rfl⟩
      · exact tail h
    · exact tail h

theorem mem_news : ∀ {cs : List D} {id j : Nat} {c : D} {R : Root}, cs[j]? = some c → newR c = some R → (id + j, some R) ∈ news id cs
  | [], id, j, c, R, h, _ => by simp at h
  | c0 :: cs, id, j, c, R, h, hR => by
    cases j with
    | zero =>
      simp only [List.getElem?_cons_zero, Option.some.injEq] at h
      subst h
      simp only [news, hR]
      exact List.mem_cons_self ..
    | succ j =>
      have h1 := mem_news (id := id + 1) (by simpa using h : cs[j]? = some c) hR
      rw [show id + 1 + j = id + (j + 1) by omega] at h1
      simp only [news]
      split
      · exact List.mem_cons_of_mem _ h1
      · exact h1

end
end Go.Proofs.Ytnfeelacifllmaa.Ab

namespace Go.Proofs.Ytnfeelacifllmaa.Ab

section
variable {X : Ctx} {o : Oper} {E E' Ec : Env} {w w' : World} {a : Act} {ρ : Operand → Option D} {g : Nat → Option Root} {nid : Nat}

theorem newAt_some {cs : List D} {vs : List Value} {r : Nat} {x : Addr × Nat} (h : newAt nid cs vs r = some x) : ∃ j c v R, r = nid + j ∧ cs[j]? = some c ∧ vs[j]? = some v ∧ newV c v = some x ∧ newR c = some R := by
  unfold newAt at h
  split at h
  · rename_i hle
    split at h
    · rename_i c v h1 h2
      obtain ⟨R, hR⟩ := newV_R h
      exact ⟨r - nid, c, v, R, by omega, h1, h2, h, hR⟩
    · cases h
  · cases h

theorem newAt_at {cs : List D} {vs : List Value} {j : Nat} {c : D} {v : Value} {x : Addr × Nat} (h : cs[j]? = some c) (h' : vs[j]? = some v) (hx : newV c v = some x) : newAt nid cs vs (nid + j) = some x := by
  unfold newAt
  rw [if_pos (by omega), show nid + j - nid = j by omega, h, h']
  exact hx

theorem nfG_mem : ∀ {G : List Root}, nfG G → ∀ R ∈ G, nfL R.xs
  | [], _, R, h => by cases h
  | R' :: G, h, R, hm => by
    simp only [nfG] at h
    rcases List.mem_cons.1 hm with rfl | hm
    · exact h.1
    · exact nfG_mem h.2 R hm

theorem ext_back {cl : Bool} {ins : List Nat} {G G' : List Root} {res : List D} {qs : List Prop} {us : List (Nat × Option Root)} {rv : List Value}
    (hd : distinct ins = true) (hg : ∀ r R, g r = some R → RootRel E w r R) (hlt : ∀ r R, g r = some R → r < nid) (hG : rootsOf ins g ins = some G) (hU : updAt ins ins G G' = some (qs, us)) (hqs : AllP qs)
    (hnf : cl = true ∨ nfL (res.flatMap D.cells) ∧ nfG G') (hfresh : ∀ u ∈ us ++ news nid (res.flatMap D.cells), nid ≤ u.1 → E.st u.1 = .fresh) (hres : res.all resOk = true)
    (hF : Frm G.length (E.sub cl ins) w E' w') (hRR : ∀ (k : Nat) R, G'[k]? = some R → R.dead = false → RootRel E' w' k R) (hRes : ResAll E' w' G.length 0 res rv) :
    ∃ E2, Ext E w E2 w' (us ++ news nid (res.flatMap D.cells)) ∧ Rep E2 w' .slot (oneOrTup (takeVs nid res)) (pack rv) := by
  obtain ⟨hGl, hGr⟩ := rootsOf_ok hG
  obtain ⟨hGl', hUr, hUu⟩ := updAt_ok hU hqs
  obtain ⟨hfl, hflat⟩ := hRes.flat
  generalize hcs : res.flatMap D.cells = cs at *
  generalize hvs : flatV res rv = vs at *
  have hE2 : ∃ E2, E2 = E.back E' w ins G' nid cs vs := ⟨_, rfl⟩
  obtain ⟨E2, hE2⟩ := hE2
  -- lent roots are owned
  have hown : ∀ (k : Nat) r, ins[k]? = some r → E.st r = .own := fun k r hk => by
    obtain ⟨R, _, h1, _, _, h3, _⟩ := hGr k r hk
    have := (hg _ _ h1).st
    rw [h3] at this
    exact this
  have hinlt : ∀ (k : Nat) r, ins[k]? = some r → r < nid := fun k r hk => by
    obtain ⟨R, _, h1, _⟩ := hGr k r hk
    exact hlt _ _ h1
  -- the new ones
  have hnewf : ∀ r x, newAt nid cs vs r = some x → E.st r = .fresh := fun r x h => by
    obtain ⟨j, c, v, R, rfl, h1, _, _, hR⟩ := newAt_some h
    exact hfresh _ (List.mem_append_right _ (mem_news h1 hR)) (by simp)
  have hst0 : ∀ r, newAt nid cs vs r = none → E2.adr r = E.adr r ∧ E2.len r = E.len r := fun r h => by
    subst hE2
    simp [Env.back, h]
  have hst : ∀ r, newAt nid cs vs r = none → gone ins G' r = false → E2.st r = E.st r ∧ E2.adr r = E.adr r ∧ E2.len r = E.len r := fun r h hg => by
    subst hE2
    simp [Env.back, h, hg]
  have hstD : ∀ r, newAt nid cs vs r = none → gone ins G' r = true → E2.st r = .dead := fun r h hg => by
    subst hE2
    simp [Env.back, h, hg]
  -- a root that was given back
  have hlive : ∀ (k : Nat) r R', ins[k]? = some r → G'[k]? = some R' → R'.dead = false → gone ins G' r = false := fun k r R' hk hR' hd' => by
    simp only [gone, idx_of hd hk, Nat.zero_add, hR']
    exact hd'
  have hlive' : ∀ (k : Nat) r, ins[k]? = some r → gone ins G' r = false → ∃ R', G'[k]? = some R' ∧ R'.dead = false := fun k r hk hg' => by
    obtain ⟨R, R', h1, h2, _⟩ := hUr k r hk
    refine ⟨R', h2, ?_⟩
    simp only [gone, idx_of hd hk, Nat.zero_add, h2] at hg'
    exact hg'
  have hold : ∀ r, E.st r ≠ .fresh → newAt nid cs vs r = none := fun r h => by
    cases hn : newAt nid cs vs r with
    | none => rfl
    | some x => exact absurd (hnewf _ _ hn) h
  -- blocks
  have how_in : ∀ b r p k, b < w.heap.size → E.ow b = .own r p → idx r 0 ins = some k → E2.ow b = bring ins nid cs (E'.ow b) := fun b r p k hb h1 h2 => by
    subst hE2
    simp [Env.back, hb, h1, h2]
  have how_out : ∀ b r p, b < w.heap.size → E.ow b = .own r p → idx r 0 ins = none → E2.ow b = .own r p := fun b r p hb h1 h2 => by
    subst hE2
    simp [Env.back, hb, h1, h2]
  have how_new : ∀ b, ¬ b < w.heap.size → E2.ow b = bring ins nid cs (E'.ow b) := fun b hb => by
    subst hE2
    simp [Env.back, hb]
  have how_fz : ∀ b, b < w.heap.size → E.ow b = .fz → w'.heap[b]? = w.heap[b]? ∧ E'.ow b = .fz ∧ E2.ow b = .fz := fun b hb h => by
    obtain ⟨h1, h2⟩ := hF.fz b hb (by simp [Env.sub, h])
    refine ⟨h1, h2, ?_⟩
    subst hE2
    simp [Env.back, hb, h]
  have how_far : ∀ b, b < w.heap.size → E.ow b = .far → w'.heap[b]? = w.heap[b]? ∧ E'.ow b = .far ∧ E2.ow b = .far := fun b hb h => by
    obtain ⟨h1, h2⟩ := hF.far b hb (by simp [Env.sub, h])
    refine ⟨h1, h2, ?_⟩
    subst hE2
    simp [Env.back, hb, h]
  have how_own : ∀ b r p, b < w.heap.size → E.ow b = .own r p → idx r 0 ins = none → w'.heap[b]? = w.heap[b]? ∧ E'.ow b = (if cl then .far else .fz) := fun b r p hb h hi => by
    cases cl with
    | true => exact hF.far b hb (by simp [Env.sub, h, hi])
    | false => exact hF.fz b hb (by simp [Env.sub, h, hi])
  -- what the callee owns, at the end
  have hbring : ∀ b k p, E'.ow b = .own k p → E2.ow b = bring ins nid cs (.own k p) := fun b k p h => by
    by_cases hb : b < w.heap.size
    · cases ho : E.ow b with
      | fz => have := (how_fz b hb ho).2.1; rw [h] at this; cases this
      | far => have := (how_far b hb ho).2.1; rw [h] at this; cases this
      | own r p0 =>
        cases hi : idx r 0 ins with
        | none => have := (how_own b r p0 hb ho hi).2; rw [h] at this; split at this <;> cases this
        | some k0 => rw [how_in b r p0 k0 hb ho hi, h]
    · rw [how_new b hb, h]
  have hLab : ∀ (k : Nat) r p, ins[k]? = some r → Lab E' w' E2 w' k p r p := fun k r p hk b q hb ho => ⟨rfl, by rw [hbring b k _ ho]; simp [bring, hk]⟩
  have hLabM : ∀ (q : Nat) c R, cs[q]? = some c → newR c = some R → Lab E' w' E2 w' G.length [(q, 0)] (nid + q) [] := fun q c R hq hR b p hb ho => ⟨rfl, by
    rw [hbring b _ _ ho]
    have h1 : ins[G.length]? = none := List.getElem?_eq_none (by omega)
    simp [bring, h1, hGl, hq, hR]⟩
  have hfzc : cl = true → ∀ b, b < w'.heap.size → E'.ow b = .fz → E2.ow b = .fz := fun hc b _ h => by
    by_cases hb : b < w.heap.size
    · cases ho : E.ow b with
      | fz => exact (how_fz b hb ho).2.2
      | far => have := (how_far b hb ho).2.1; rw [h] at this; cases this
      | own r p0 =>
        cases hi : idx r 0 ins with
        | none => have := (how_own b r p0 hb ho hi).2; rw [h, hc] at this; cases this
        | some k0 => rw [how_in b r p0 k0 hb ho hi, h]; rfl
    · rw [how_new b hb, h]; rfl
  -- addresses of what was lent
  have hadr : ∀ (k : Nat) r, ins[k]? = some r → E'.adr k = E.adr r := fun k r hk => by
    have hlt' : k < G.length := by rw [hGl]; exact (List.getElem?_eq_some_iff.1 hk).1
    rw [hF.adr k hlt']
    exact (sub_at cl hk).1
  have hst' : ∀ (k : Nat) r, ins[k]? = some r → gone ins G' r = false → E'.st k = .own := fun k r hk hgn => by
    obtain ⟨R1', e1, e2⟩ := hlive' k r hk hgn
    obtain ⟨R, R', _, h2, h3⟩ := hUr k r hk
    obtain rfl := Option.some.inj (e1.symm.trans h2)
    rcases h3 with ⟨h3, _⟩ | ⟨_, _, _, _, hf, _⟩
    · rw [e2] at h3; cases h3
    have := (hRR k R1' h2 e2).st
    rw [hf] at this
    exact this
  have hshpin : ∀ (k : Nat) r N, ins[k]? = some r → gone ins G' r = false → Shp E' w' k N → Shp E2 w' r N := fun k r N hk hgn h => by
    obtain ⟨s1, s2, ds, ty, s3, s4⟩ := h
    rw [hst' k r hk hgn, if_pos rfl] at s2
    rw [hadr k r hk] at s1 s2 s3 s4
    have hr := hst r (hold r (by rw [hown k r hk]; simp)) hgn
    unfold Shp
    rw [hr.2.1, hr.1, hown k r hk, if_pos rfl]
    exact ⟨s1, by rw [hbring _ _ _ s2]; simp [bring, hk], ds, ty, s3, s4⟩
  have hM : Mv E w E2 w' := by
    refine ⟨hF.sz, fun b hb h => ⟨(how_fz b hb h).1, (how_fz b hb h).2.2⟩, fun r h => ?_, fun r h hal => ?_⟩
    · cases hgn : gone ins G' r with
      | false => rw [(hst r (hold r h) hgn).1]; exact h
      | true => rw [hstD r (hold r h) hgn]; simp
    · have hgn : gone ins G' r = false := by
        cases hgn : gone ins G' r with
        | false => rfl
        | true =>
          unfold Alive at hal
          rw [hstD r (hold r h) hgn] at hal
          rcases hal with h | h <;> cases h
      obtain ⟨h1, h2, h3⟩ := hst r (hold r h) hgn
      refine ⟨?_, h2, h3, fun N hs => ?_⟩
      · unfold Alive at *
        rw [h1] at hal
        exact hal
      · cases hi : idx r 0 ins with
        | some k =>
          obtain ⟨i, rfl, hk⟩ := idx_some hi
          simp only [Nat.zero_add] at hi
          refine hshpin i r N hk hgn ?_
          exact (hF.shp i (by rw [hGl]; exact (List.getElem?_eq_some_iff.1 hk).1) (hst' i r hk hgn)).2 N (sub_shp hd hk (hown i r hk) hs)
        | none =>
          obtain ⟨s1, s2, ds, ty, s3, s4⟩ := hs
          have hb := lt_of_get s3
          unfold Shp
          rw [h2, h1]
          cases hs : E.st r with
          | own =>
            rw [hs, if_pos rfl] at s2
            exact ⟨s1, how_out _ _ _ hb s2 hi, ds, ty, (how_own _ _ _ hb s2 hi).1.trans s3, s4⟩
          | fz =>
            simp only [hs] at s2
            exact ⟨s1, (how_fz _ hb (by simpa using s2)).2.2, ds, ty, (how_fz _ hb (by simpa using s2)).1.trans s3, s4⟩
          | dead =>
            simp only [hs] at s2
            exact ⟨s1, (how_fz _ hb (by simpa using s2)).2.2, ds, ty, (how_fz _ hb (by simpa using s2)).1.trans s3, s4⟩
          | fresh => exact absurd hs h
  have hcellin : ∀ u ∈ us, u.1 < nid := fun u hu => by
    obtain ⟨k, R', h1, _⟩ := hUu u hu
    exact hinlt k _ h1
  -- a result
  have hone : ∀ (j : Nat) c x, cs[j]? = some c → vs[j]? = some x → Rep E2 w' .slot (take1 (nid + j) c) x ∧ ∀ R, newR c = some R → RootRel E2 w' (nid + j) R := fun j c x hc hx => by
    have hr := hflat j c x hc hx
    rw [Nat.zero_add] at hr
    have hok : resOk1 c = true := by
      have hm := List.mem_of_getElem? hc
      rw [← hcs] at hm
      obtain ⟨d, hd1, hd2⟩ := List.mem_flatMap.1 hm
      have hr := List.all_eq_true.1 hres d hd1
      by_cases hagg : ∃ cs, d = .agg cs
      · obtain ⟨cs', rfl⟩ := hagg
        simp only [resOk, List.all_eq_true] at hr
        exact hr c hd2
      · have e : resOk d = resOk1 d := by cases d <;> first | rfl | exact absurd ⟨_, rfl⟩ hagg
        rw [e] at hr
        have e3 : d.cells = [d] := by cases d <;> first | rfl | exact absurd ⟨_, rfl⟩ hagg | (simp [resOk1] at hr; done)
        rw [e3, List.mem_singleton] at hd2
        rw [hd2]
        exact hr
    have hnfc : cl = true ∨ c.nf := hnf.imp id fun h => nfL_mem h.1 c (List.mem_of_getElem? hc)
    by_cases hl : ∃ wd n xs, c = .list true wd n xs
    · obtain ⟨wd, n, xs, rfl⟩ := hl
      have hL := hLabM j _ _ hc rfl
      have hr2 : Rep E2 w' (.own (nid + j) []) (.list true wd n xs) x := hr.back (cl := cl = true) hfzc (.inr (.inl ⟨_, _, _, _, rfl, rfl, hL, hnfc⟩))
      generalize hm : Md.own (nid + j) [] = m at hr2
      cases hr2 with
      | flist m o wd n xs A cap us0 hm' hn hcp hw ha h => subst hm; rcases hm' with h | h | h <;> cases h
      | olist m r p wd n xs A cap us0 hm' hn hcp hw ha h =>
        rcases hm' with h' | h' <;> rw [← hm] at h' <;> cases h'
        have hnew := newAt_at (nid := nid) hc hx rfl
        have hE : E2.st (nid + j) = .own ∧ E2.adr (nid + j) = A.getD ⟨0, 0, none⟩ ∧ E2.len (nid + j) = n := by
          subst hE2
          simp [Env.back, hnew]
        obtain ⟨e1, e2, e3⟩ := hE
        have hshp : 0 < cap → A = some (E2.adr (nid + j)) ∧ Shp E2 w' (nid + j) (cap * wd) := fun h0 => by
          obtain ⟨b, ds, ty, rfl, s1, s2, s3, s4, s5⟩ := ha h0
          rw [e2]
          refine ⟨rfl, ?_⟩
          unfold Shp
          rw [e2, e1, if_pos rfl]
          exact ⟨s1, s2, ds, ty, s3, s4⟩
        refine ⟨.ref _ _ _ _ _ (.inl rfl) (by rw [e1]; simp) fun _ => ⟨A, cap, by simp [Vw, e3], by simpa [Vw, e3] using hcp, by simp [Vw, e3], fun h0 => ?_⟩, fun R' he => ?_⟩
        · obtain ⟨rfl, hs⟩ := hshp h0
          exact ⟨by simp [Vw, Addr.add], by simpa [Vw] using hs⟩
        · cases he
          refine ⟨by simp [e1], by simp [e3], hn, hw, (fun h => by cases h), fun h0 _ => ?_, fun h => ?_, fun i j' x c hx' hj' => ?_⟩
          · simp only at h0
            obtain ⟨_, s1, s2, ds, ty, s3, s4⟩ := hshp (by omega)
            exact ⟨s1, s2, ds, ty, s3, Nat.le_trans (Nat.add_le_add_left (Nat.mul_le_mul_right _ hcp) _) s4⟩
          · simp only [resOk1, Nat.blt, Nat.ble_eq] at hok
            simp only at h
            omega
          · have hpos : 0 < n := by
              rw [← hn]
              exact Nat.lt_of_le_of_lt (Nat.zero_le _) (List.getElem?_eq_some_iff.1 hx').1
            obtain ⟨b, ds, ty, rfl, s1, s2, s3, s4, s5⟩ := ha (by omega)
            refine ⟨us0 i j', by rw [e2]; exact s5 i j' x c hx' hj', ?_⟩
            simpa [Root.md] using h i j' x c hx' hj'
    by_cases hl2 : ∃ l, c = .omap l
    · obtain ⟨l, rfl⟩ := hl2
      have hL := hLabM j _ _ hc rfl
      have hr2 : Rep E2 w' (.own (nid + j) []) (.omap l) x := hr.back (cl := cl = true) hfzc (.inr (.inl ⟨_, _, _, _, rfl, rfl, hL, hnfc⟩))
      generalize hm : Md.own (nid + j) [] = m at hr2
      cases hr2 with
      | fomap m l b es clk hm' => subst hm; rcases hm' with h | h <;> cases h
      | omap m r p l b es clk hm' ho hh hfit =>
        rcases hm' with h' | h' <;> rw [← hm] at h' <;> cases h'
        have hnew := newAt_at (nid := nid) hc hx rfl
        have hE : E2.st (nid + j) = .own ∧ E2.adr (nid + j) = ⟨b, 0, none⟩ ∧ E2.len (nid + j) = 1 := by
          subst hE2
          simp [Env.back, hnew]
        obtain ⟨e1, e2, e3⟩ := hE
        refine ⟨.mref _ _ _ (.inl rfl) (by rw [e1]; simp) fun _ => by rw [e2], fun R' he => ?_⟩
        cases he
        refine ⟨by simp [e1], by simp [e3], rfl, fun x hx => ?_, (fun h => by cases h), fun _ h => absurd h (Nat.lt_irrefl 0), fun _ d hd => ?_, fun i j' x c hx' hj' => ?_⟩
        · simp only [List.mem_cons, List.not_mem_nil, or_false] at hx
          subst hx
          rfl
        · cases hd
          refine ⟨by rw [e2], by rw [e2], ?_, es, clk, by rw [e2]; exact hh, hfit⟩
          rw [e2, e1, if_pos rfl]
          exact ho
        · cases i with
          | zero =>
            simp only [List.getElem?_cons_zero, Option.some.injEq] at hx'
            subst hx'
            simp [D.cells] at hj'
          | succ i => simp at hx'
    by_cases hl3 : ∃ wd xs, c = .optr wd xs
    · obtain ⟨wd, xs, rfl⟩ := hl3
      have hL := hLabM j _ _ hc rfl
      have hr2 : Rep E2 w' (.own (nid + j) []) (.optr wd xs) x := hr.back (cl := cl = true) hfzc (.inr (.inl ⟨_, _, _, _, rfl, rfl, hL, hnfc⟩))
      generalize hm : Md.own (nid + j) [] = m at hr2
      cases hr2 with
      | foptr m wd xs a us hm' => subst hm; rcases hm' with h | h <;> cases h
      | optr m r p wd xs a us0 hm' hn hw ha h =>
        rcases hm' with h' | h' <;> rw [← hm] at h' <;> cases h'
        have hnew := newAt_at (nid := nid) hc hx rfl
        have hE : E2.st (nid + j) = .own ∧ E2.adr (nid + j) = a ∧ E2.len (nid + j) = 1 := by
          subst hE2
          simp [Env.back, hnew]
        obtain ⟨e1, e2, e3⟩ := hE
        obtain ⟨ds, ty, s1, s2, s3, s4, s5⟩ := ha
        refine ⟨.ptr _ _ _ _ _ _ (.inl rfl) (by rw [e1]; simp) fun _ => by rw [e2]; simp [Addr.add], fun R' he => ?_⟩
        cases he
        refine ⟨by simp [e1], by simp [e3], hn, hw, (fun h => by cases h), fun _ _ => ?_, fun h0 => ?_, fun i j' x c hx' hj' => ⟨us0 i j', by rw [e2]; exact s5 i j' x c hx' hj', ?_⟩⟩
        · unfold Shp
          rw [e2, e1, if_pos rfl]
          exact ⟨s1, s2, ds, ty, s3, by simpa using s4⟩
        · simp only [resOk1] at hok
          split at hok
          · simp only [Bool.and_eq_true, Nat.blt, Nat.ble_eq] at hok
            simp only at h0
            omega
          · cases hok
        · simpa [Root.md] using (h i j' x c hx' hj').ownBox
    · have e0 : newR c = none := by
        unfold newR
        split
        · exact absurd ⟨_, _, _, rfl⟩ hl
        · exact absurd ⟨_, rfl⟩ hl2
        · exact absurd ⟨_, _, rfl⟩ hl3
        · rfl
      refine ⟨?_, fun R he => by rw [e0] at he; cases he⟩
      have e1 : take1 (nid + j) c = c := by
        unfold take1
        split
        · exact absurd ⟨_, _, _, rfl⟩ hl
        · exact absurd ⟨_, rfl⟩ hl2
        · exact absurd ⟨_, _, rfl⟩ hl3
        · rfl
      rw [e1]
      cases hr with
      | int m k n => exact .int _ _ _
      | bool m b => exact .bool _ _
      | ifc m b v hv => exact .ifc _ _ _ hv
      | str m s => exact .str _ _
      | nil m => exact .nil _
      | flist m o wd n xs A cap us0 hm' hn hcp hw ha h =>
        rcases hm' with h' | h' | rfl
        · cases h'
        · cases h'
        · have hcl : cl = true := hnfc.resolve_right (by simp [D.nf])
          refine .flist _ _ _ _ _ _ _ us0 (.inl rfl) hn hcp hw (fun h0 => ?_) (fun i j x c hx hj => (h i j x c hx hj).back (cl := cl = true) hfzc (.inl ⟨rfl, rfl, hcl⟩))
          obtain ⟨b, hb, s1, s2, s3⟩ := ha h0
          exact ⟨b, hb, hfzc hcl _ s2 s1, s2, s3⟩
      | olist m r p wd n xs A cap us0 hm' hn hcp hw ha h => exact absurd ⟨_, _, _, rfl⟩ hl
      | omap m r p l b es clk hm' ho hh hfit => exact absurd ⟨_, rfl⟩ hl2
      | fomap m l b es clk hm' ho hh hfit => exact absurd ⟨_, rfl⟩ hl2
      | optr m r p wd xs a us0 hm' hn hw ha h => exact absurd ⟨_, _, rfl⟩ hl3
      | foptr m wd xs a us0 hm' hw ha h => exact absurd ⟨_, _, rfl⟩ hl3
      | _ => simp [resOk1] at hok
  refine ⟨E2, ⟨hF.sz, hF.os, hF.tape, hF.output, fun b hb h => ⟨(how_fz b hb h).1, (how_fz b hb h).2.2⟩, fun b hb h => ⟨(how_far b hb h).1, (how_far b hb h).2.2⟩, fun r h => (hst0 r (hold r h)).1, fun d v h => h.mv hM trivial, fun r R hr h => ?_, fun r R hmem => ?_, fun r hr h => ?_, hF.shape, fun r N hr hr' h => ?_, fun r h => ?_⟩, ?_⟩
  · have hne : E.st r ≠ .fresh := by rw [h.st]; split <;> simp
    have hi : idx r 0 ins = none := by
      cases hi : idx r 0 ins with
      | none => rfl
      | some k =>
        obtain ⟨i, _, hk⟩ := idx_some hi
        obtain ⟨_, R', _, _, hmem⟩ := hUr i r hk
        rcases hmem with ⟨_, hmem⟩ | ⟨_, _, _, _, _, _, _, _, hmem⟩
        · exact absurd rfl (hr _ (List.mem_append_left _ hmem))
        · exact absurd rfl (hr _ (List.mem_append_left _ hmem))
    refine h.mv hM (hst r (hold r hne) (by unfold gone; rw [hi])).1 (fun b q hb ho => ?_)
    exact ⟨(how_own b r _ hb ho hi).1, how_out b r _ hb ho hi⟩
  · rcases List.mem_append.1 hmem with hmem | hmem
    · obtain ⟨k, R', hk, hR', he⟩ := hUu _ hmem
      simp only at hk
      obtain ⟨hdd, R2, hout, he⟩ : R'.dead = false ∧ ∃ R2, outR ins R' = some R2 ∧ R2 = R := by
        rcases he with ⟨_, he⟩ | ⟨h1, R2, h2, he⟩
        · cases he
        · exact ⟨h1, R2, h2, (Option.some.inj he).symm⟩
      subst he
      obtain ⟨R0, R1, h1, h2, h3⟩ := hUr k r hk
      rw [hR'] at h2
      cases h2
      obtain ⟨_, h3, h4, h5, h6, h8, _⟩ := h3.resolve_left (fun h => by rw [hdd] at h; cases h.1)
      have hRk := hRR k R' hR' hdd
      have hlenk : ∀ (k : Nat) r R', ins[k]? = some r → G'[k]? = some R' → R'.dead = false → E.len r = R'.n := fun k r R' hk hR' hdd => by
        obtain ⟨R0, R1, h1, h2, h3⟩ := hUr k r hk
        rw [hR'] at h2
        cases h2
        obtain ⟨_, h3, _⟩ := h3.resolve_left (fun h => by rw [hdd] at h; cases h.1)
        obtain ⟨Rg, R0', hg0, hin, hG0, hf0, _⟩ := hGr k r hk
        rw [h1] at hG0
        cases hG0
        have hn0 : R0.n = Rg.n := by rcases inR_eq hin with ⟨_, rfl⟩ | ⟨_, _, _, _, _, rfl⟩ <;> rfl
        rw [(hg _ _ hg0).len, h3, hn0]
      have hgn := hlive k r R' hk hR' hdd
      have hr := hst r (hold r (by rw [hown k r hk]; simp)) hgn
      have hl2 : E2.len r = R'.n := by rw [hr.2.2]; exact hlenk k r R' hk hR' hdd
      rcases outR_eq hout with ⟨hbox, rfl⟩ | ⟨hbox, cs1, cs2, hx1, hc1, rfl⟩
      · refine ⟨by rw [hr.1, hown k r hk, h6]; rfl, hl2, hRk.n, hRk.wd, hRk.nobox, fun h0 h1 => hshpin k r _ hk hgn (hRk.shp h0 h1), fun h => absurd h (Nat.ne_of_gt h8), fun i j x c hx hj => ?_⟩
        obtain ⟨u, hu, hrep⟩ := hRk.cell i j x c hx hj
        refine ⟨u, by rw [hr.2.1, ← hadr k r hk]; exact hu, ?_⟩
        have hnfc : cl = true ∨ c.nf := hnf.imp id fun h => nf_cells (nfL_mem (nfG_mem h.2 R2 (List.mem_of_getElem? hR')) x (List.mem_of_getElem? hx)) (List.mem_of_getElem? hj)
        unfold Root.md at hrep ⊢
        rw [h6, hbox] at hrep ⊢
        simp only [Bool.false_eq_true, if_false] at hrep ⊢
        exact hrep.back (cl := cl = true) hfzc (.inr (.inl ⟨_, _, _, _, rfl, rfl, hLab k r _ hk, hnfc⟩))
      · obtain ⟨hcl2, hcat⟩ := ofCL_at hc1
        refine ⟨by rw [hr.1, hown k r hk]; simp only; rw [h6]; rfl, hl2, by rw [← hRk.n, hx1]; rfl, fun x hx => ?_, fun h => hRk.nobox h, fun h0 h1 => hshpin k r _ hk hgn (hRk.shp h0 h1), fun h => absurd h (Nat.ne_of_gt h8), fun i j x c hx hj => ?_⟩
        · rw [List.mem_singleton.1 hx]
          have := hRk.wd (.agg cs1) (by rw [hx1]; exact List.mem_singleton.2 rfl)
          simp only [D.cells] at this ⊢
          omega
        · cases i with
          | succ i => simp at hx
          | zero =>
            simp only [List.getElem?_cons_zero, Option.some.injEq] at hx
            subst hx
            simp only [D.cells] at hj
            obtain ⟨c0, hc0, hof⟩ := hcat j c hj
            obtain ⟨u, hu, hrep⟩ := hRk.cell 0 j (.agg cs1) c0 (by rw [hx1]; rfl) hc0
            refine ⟨u, by rw [hr.2.1, ← hadr k r hk]; exact hu, ?_⟩
            have e1 : R'.md k 0 j = .box k [(0, j)] := by simp [Root.md, h6, hbox]
            have e2 : ({ R' with xs := [.agg cs2] } : Root).md r 0 j = .box r [(0, j)] := by simp [Root.md, h6, hbox]
            rw [e1] at hrep
            rw [e2]
            unfold ofC at hof
            split at hof
            · rename_i k' wd
              split at hof
              · rename_i r2 hk'
                cases hof
                obtain ⟨_, hs0, hal0⟩ := hrep.ref_inv
                have hne2 : E.st r2 ≠ .fresh := by rw [hown k' r2 hk']; simp
                refine .ref _ _ _ _ _ (.inr ⟨_, _, rfl⟩) ?_ fun hal => ?_
                · cases hgn2 : gone ins G' r2 with
                  | false => rw [(hst r2 (hold r2 hne2) hgn2).1]; exact hne2
                  | true => rw [hstD r2 (hold r2 hne2) hgn2]; simp
                · have hgn2 : gone ins G' r2 = false := by
                    cases hgn2 : gone ins G' r2 with
                    | false => rfl
                    | true =>
                      unfold Alive at hal
                      rw [hstD r2 (hold r2 hne2) hgn2] at hal
                      rcases hal with h | h <;> cases h
                  obtain ⟨R'', hR'', hdd''⟩ := hlive' k' r2 hk' hgn2
                  obtain ⟨q1, q2, q3⟩ := hst r2 (hold r2 hne2) hgn2
                  obtain ⟨A, cap, hv, hcap, hlen, hA⟩ := hal0 (.inl (hst' k' r2 hk' hgn2))
                  have hll : E'.len k' = E2.len r2 := by rw [(hRR k' R'' hR'' hdd'').len, q3]; exact (hlenk k' r2 R'' hk' hR'' hdd'').symm
                  simp only [Vw, hll] at hv hcap hlen hA
                  refine ⟨A, cap, by simpa [Vw] using hv, by simpa [Vw] using hcap, by simp [Vw], fun h0 => ?_⟩
                  obtain ⟨a1, a2⟩ := hA h0
                  simp only [Vw]
                  rw [q2, ← hadr k' r2 hk']
                  exact ⟨a1, hshpin k' r2 _ hk' hgn2 a2⟩
              · cases hof
            · rename_i c0 _
              split at hof
              · rename_i hfz
                cases hof
                have hnfc : cl = true ∨ c.nf := hnf.imp id fun h => nf_cells (x := .agg cs1) (nfL_mem (nfG_mem h.2 R' (List.mem_of_getElem? hR')) _ (by rw [hx1]; exact List.mem_singleton.2 rfl)) (List.mem_of_getElem? hc0)
                exact hrep.back (cl := cl = true) hfzc (.inr (.inr ⟨_, _, _, _, rfl, rfl, hLab k r _ hk, hnfc, hfz⟩))
              · cases hof
    · obtain ⟨j, c, R0, hc, hR0, he⟩ := news_mem hmem
      simp only [Prod.mk.injEq, Option.some.injEq] at he
      obtain ⟨rfl, rfl⟩ := he
      have hlt' : j < vs.length := by rw [hfl]; exact (List.getElem?_eq_some_iff.1 hc).1
      exact (hone j _ _ hc (List.getElem?_eq_getElem hlt')).2 _ hR0
  · cases hn : newAt nid cs vs r with
    | none =>
      have hgn : gone ins G' r = false := by
        cases hgn : gone ins G' r with
        | false => rfl
        | true =>
          unfold gone at hgn
          split at hgn
          · rename_i k hi
            obtain ⟨i, _, hk⟩ := idx_some hi
            obtain ⟨_, R', _, _, hmem⟩ := hUr i r hk
            rcases hmem with ⟨_, hmem⟩ | ⟨_, _, _, _, _, _, _, _, hmem⟩
            · exact absurd rfl (hr _ (List.mem_append_left _ hmem))
            · exact absurd rfl (hr _ (List.mem_append_left _ hmem))
          · cases hgn
      rw [(hst r hn hgn).1]; exact h
    | some x =>
      obtain ⟨j, c, v, R, rfl, h1, _, _, hR⟩ := newAt_some hn
      exact absurd rfl (hr _ (List.mem_append_right _ (mem_news h1 hR)))
  · exact (hM.ref r (by rw [hr]; simp) (.inl hr')).2.2.2 N h
  · cases hn : newAt nid cs vs r with
    | none =>
      cases hgn : gone ins G' r with
      | false => rw [(hst r hn hgn).1] at h; exact .inr h
      | true => rw [hstD r hn hgn] at h; cases h
    | some x => exact .inl (hnewf _ _ hn)
  · obtain ⟨h1, h2⟩ := hRes.take (E2 := E2) (w' := w') (id := nid) (fun j c x hc hx => (hone j c x (by rw [← hcs]; exact hc) (by rw [← hvs]; exact hx)).1)
    exact pack_rep h1 h2

end
end Go.Proofs.Ytnfeelacifllmaa.Ab

namespace Go.Proofs.Ytnfeelacifllmaa.Ab

section
variable {X : Ctx} {o : Oper} {E E' Ec : Env} {w w' : World} {a : Act} {ρ : Operand → Option D} {g : Nat → Option Root} {nid : Nat}

theorem nfL_scal : ∀ {ds : List D}, ds.all D.scal = true → nfL (ds.flatMap D.cells)
  | [], _ => trivial
  | d :: ds, h => by
    simp only [List.all_cons, Bool.and_eq_true] at h
    have h2 := nfL_scal h.2
    cases d <;> simp [D.scal] at h <;> simp [D.cells, nfL, D.nf, h2]

theorem run_callFunc_enter {P : Program} {f : FuncId} (h : Ent P f) (vs : Array Value) : (callFunc f vs).run P w = .ok (.enter f vs) w := by
  obtain ⟨fn, h1, h2, h3⟩ := h
  have h4 : fn.body ≠ none := fun e => by simp [e] at h2
  have h5 : ¬ fn.name = "runtime.NumGoroutine" := fun e => by simp [e] at h3
  simp [callFunc, h1, h5, h4]

theorem Rep.toC {cl : Bool} {ins : List Nat} {k r : Nat} {p : Pth} {d d' : D} {v : Value} (h : Rep E w (.box r p) d v) (hd : distinct ins = true) (hins : ∀ (k : Nat) r, ins[k]? = some r → E.st r = .own) (hk : ins[k]? = some r) (hc : toC ins d = some d') : Rep (E.sub cl ins) w (.box k p) d' v := by
  unfold Ab.toC at hc
  split at hc
  · rename_i r0 wd
    split at hc
    · rename_i k0 hi
      cases hc
      obtain ⟨i, rfl, hr'⟩ := idx_some hi
      rw [Nat.zero_add]
      have hst := hins _ _ hr'
      obtain ⟨s1, s2, s3⟩ := sub_at (E := E) cl hr'
      obtain ⟨_, _, hal⟩ := h.ref_inv
      obtain ⟨A, cap, rfl, hcap, hlen, hA⟩ := hal (.inl hst)
      refine .ref _ _ _ _ _ (.inr ⟨_, _, rfl⟩) (by rw [s3]; simp) fun _ => ⟨A, cap, by simp [Vw, s2], by simpa [Vw, s2] using hcap, by simp [Vw], fun h0 => ?_⟩
      simp only [Vw] at hA ⊢
      rw [s1]
      exact ⟨(hA h0).1, sub_shp hd hr' hst (hA h0).2⟩
    · cases hc
  · split at hc
    · rename_i hfz
      cases hc
      exact h.lent hd hk (.inr (.inr ⟨_, rfl, rfl, hfz⟩))
    · cases hc
theorem does_call (H : Hyp X E w a ρ g nid) {c : Call} {f : Operand} {k : FuncId} {caps as : List D} {h : Hint} {out : Out} (hf : ∀ u ∈ out.us, nid ≤ u.1 → E.st u.1 = .fresh) (ho : o.op = .call c) (hc : c.callee = .value f) (hfn : ρ f = some (.fn k caps)) (hvals : vals ρ c.args.toList = some as)
    (hs : callD X k (as ++ caps) g nid h = some out) (hp : AllP out.ps) : Does X o E w a out := by
  unfold callD at hs
  split at hs
  · cases hs
  · rename_i ch _
    split at hs
    · rename_i G ps cas hG hl0
      split at hs
      · rename_i qs us hU
        split at hs
        · rename_i hchk
          simp only [Bool.and_eq_true] at hchk
          cases hs
          simp only at hf hp
          obtain ⟨hp0, hp2⟩ := AllP_append hp
          obtain ⟨qs0, hl, hp1⟩ := argsC_ok hl0 hp0
          obtain ⟨hp2, hp3⟩ := AllP_append hp2
          obtain ⟨hp3, hp4⟩ := AllP_append hp3
          obtain ⟨hCt, _⟩ := hp4
          obtain ⟨hEnt, hCt⟩ := hCt
          obtain ⟨hGl, hGr⟩ := rootsOf_ok hG
          obtain ⟨hGl', hUr, _⟩ := updAt_ok hU hp2
          have hnf : ch.cl = true ∨ nfL (ch.res.flatMap D.cells) ∧ nfG ch.G' := by
            split at hp3
            · rename_i hcl
              simp only [Bool.or_eq_true, Bool.and_eq_true] at hcl
              rcases hcl with hcl | ⟨h1, h2⟩
              · exact .inl hcl
              · refine .inr ⟨nfL_scal h1, ?_⟩
                have h3 : ch.ins = [] := by simpa using h2
                rw [h3] at hGl'
                have h4 : ch.G' = [] := List.length_eq_zero_iff.1 (by simpa using hGl')
                rw [h4]
                trivial
            · exact .inr ⟨hp3.1, hp3.2.1⟩
          obtain ⟨hal, har⟩ := vals_ok H hvals
          have hal : as.length = c.args.size := by simpa using hal
          have hrf := H.op _ _ hfn
          generalize hv : a.eval f = v at hrf
          cases hrf with
          | fn _ _ vs hcl hcr =>
          have hown : ∀ (k : Nat) r, ch.ins[k]? = some r → E.st r = .own := fun k r hk => by
            obtain ⟨R, _, h1, _, _, h3, _⟩ := hGr k r hk
            have := (H.rt _ _ h1).st
            rw [h3] at this
            exact this
          obtain ⟨hlen, hlr⟩ := (lend_ok (w := w) hchk.1 hown H.rt 60).2 _ _ _ hl hp1
          have hargs : (c.args.map a.eval ++ vs).size = cas.length := by
            rw [← hlen]
            simp [hal, hcl]
          have hrep : ∀ (i : Nat) d u, cas[i]? = some d → (c.args.map a.eval ++ vs)[i]? = some u → Rep (E.sub ch.cl ch.ins) w .slot d u := fun i d u hd hu => by
            have hlt : i < (as ++ caps).length := by rw [hlen]; exact (List.getElem?_eq_some_iff.1 hd).1
            refine hlr i _ d u (List.getElem?_eq_getElem hlt) hd ?_
            by_cases hi : i < as.length
            · rw [List.getElem_append_left hi]
              rw [Array.getElem?_append_left (by simp; omega), Array.getElem?_map, Option.map_eq_some_iff] at hu
              obtain ⟨x, hx, rfl⟩ := hu
              exact har i _ x (List.getElem?_eq_getElem hi) (by simpa using hx)
            · rw [List.getElem_append_right (by omega)]
              rw [Array.getElem?_append_right (by simp; omega)] at hu
              simp only [Array.size_map] at hu
              have : c.args.size = as.length := hal.symm
              rw [this] at hu
              exact hcr (i - as.length) _ u (List.getElem?_eq_getElem (by simp at hlt; omega)) hu
          have hCalls := hCt (E.sub ch.cl ch.ins) w (c.args.map a.eval ++ vs)
            (fun x hx => by
              obtain ⟨⟨wd, xs, i, j, he⟩, hr, ho1, hcs⟩ := H.gl x hx
              refine ⟨⟨wd, xs, i, j, he⟩, ?_, by simp [Env.sub, ho1], hcs⟩
              rw [he] at hr ⊢
              exact fptr_seen hr rfl)
            hargs hrep
            (fun k' R hk' => by
              have hlt : k' < ch.ins.length := by rw [← hGl]; exact (List.getElem?_eq_some_iff.1 hk').1
              have hk := List.getElem?_eq_getElem hlt
              obtain ⟨R0, R1, h1, h4, h2, h3, h5⟩ := hGr k' _ hk
              rw [h2] at hk'
              cases hk'
              have hR := H.rt _ _ h1
              obtain ⟨s1, s2, s3⟩ := sub_at (E := E) ch.cl hk
              rcases inR_eq h4 with ⟨hb, rfl⟩ | ⟨hb, cs1, cs2, hx1, hc1, rfl⟩
              · refine ⟨by rw [s3, h3]; rfl, by rw [s2]; exact hR.len, hR.n, hR.wd, hR.nobox, fun h0 h1 => sub_shp hchk.1 hk (hown _ _ hk) (hR.shp h0 h1), fun h => absurd h (Nat.ne_of_gt h5), fun i j x c hx hj => ?_⟩
                obtain ⟨u, hu, hr⟩ := hR.cell i j x c hx hj
                refine ⟨u, by rw [s1]; exact hu, hr.lent hchk.1 hk ?_⟩
                unfold Root.md
                rw [h3, hb]
                exact .inr (.inl ⟨_, rfl, rfl⟩)
              · obtain ⟨hcl2, hcat⟩ := toCL_at hc1
                refine ⟨by rw [s3]; simp only; rw [h3]; rfl, by rw [s2]; exact hR.len, by rw [← hR.n, hx1]; rfl, fun x hx => ?_, fun h => hR.nobox h, fun h0 h1 => sub_shp hchk.1 hk (hown _ _ hk) (hR.shp h0 h1), fun h => absurd h (Nat.ne_of_gt h5), fun i j x c hx hj => ?_⟩
                · rw [List.mem_singleton.1 hx]
                  have := hR.wd (.agg cs1) (by rw [hx1]; exact List.mem_singleton.2 rfl)
                  simp only [D.cells] at this ⊢
                  omega
                · cases i with
                  | succ i => simp at hx
                  | zero =>
                    simp only [List.getElem?_cons_zero, Option.some.injEq] at hx
                    subst hx
                    simp only [D.cells] at hj
                    obtain ⟨c0, hc0, hto⟩ := hcat j c hj
                    obtain ⟨u, hu, hr⟩ := hR.cell 0 j (.agg cs1) c0 (by rw [hx1]; rfl) hc0
                    refine ⟨u, by rw [s1]; exact hu, ?_⟩
                    have e1 : R0.md ch.ins[k'] 0 j = .box ch.ins[k'] [(0, j)] := by simp [Root.md, h3, hb]
                    have e2 : ({ R0 with xs := [.agg cs2] } : Root).md k' 0 j = .box k' [(0, j)] := by simp [Root.md, h3, hb]
                    rw [e1] at hr
                    rw [e2]
                    exact hr.toC hchk.1 hown hk hto)
            (fun k' hk' => by
              have : ch.ins[k']? = none := List.getElem?_eq_none (by omega)
              simp [Env.sub, this])
          intro K Q kk
          unfold Oper.wp
          have hrun : (execOp a.eval o).run X.P w = .ok (.enter k (c.args.map a.eval ++ vs)) w := by
            simp [execOp, ho, resolve, hc, hv, Deferred.ofValue, invoke, run_callFunc_enter hEnt]
          rw [hrun, Oper.upon_enter]
          refine hCalls.mono (fun e w' hpost => ?_)
          obtain ⟨E', rv, rfl, hF, hGl2, hRR, hRes⟩ := hpost
          obtain ⟨E2, hE2, hr2⟩ := ext_back hchk.1 H.rt H.lt hG hU hp2 hnf hf hchk.2 hF hRR hRes
          exact kk E2 w' (pack rv) hE2 hr2
        · cases hs
      · cases hs
    · cases hs

end
end Go.Proofs.Ytnfeelacifllmaa.Ab

namespace Go.Proofs.Ytnfeelacifllmaa.Ab

section
variable {X : Ctx} {o : Oper} {E E' : Env} {w w' : World} {a : Act} {ρ : Operand → Option D} {g : Nat → Option Root} {nid : Nat}

theorem ext_sp (ob : Obj) (hf : E.st nid = .fresh) {s : Sp} (hsp : SpAt (E.new nid w.heap.size 1) (w.alloc ob) nid (.spc s)) :
    Ext E w (E.new nid w.heap.size 1) (w.alloc ob) [(nid, some ⟨false, false, 0, 1, [.spc s]⟩)] := by
  have M := mv_new (E := E) w rfl ob 1 hf
  have hst : (E.new nid w.heap.size 1).st nid = .own := by simp [Env.new]
  refine ⟨M.sz, rfl, rfl, ⟨rfl, drw_le (Nat.le_refl _)⟩, M.fz, fun b hb ho => ⟨?_, ?_⟩, fun r hr => ?_, fun d v h => h.mv M trivial, fun r R hr h => ?_, fun r R hmem => ?_, fun r hr hfr => ?_, fun b cs1 ty1 h => ?_, fun r N hr hr' h => ?_, fun r hr => ?_⟩
  · rw [alloc_heap, Array.getElem?_push, if_neg (by omega)]
  · simp only [Env.new]
    rw [if_neg (by omega)]
    exact ho
  · have hne : r ≠ nid := fun e => hr (e ▸ hf)
    simp [Env.new, hne]
  · have hne : r ≠ nid := fun e => hr _ (List.mem_cons_self ..) e.symm
    exact h.mv M (by simp [Env.new, hne]) (lab_new w rfl _ 1 r [])
  · simp only [List.mem_cons, Prod.mk.injEq, Option.some.injEq, List.not_mem_nil, or_false] at hmem
    obtain ⟨rfl, rfl⟩ := hmem
    refine ⟨by simp [hst], by simp [Env.new], rfl, fun x hx => ?_, (fun h => by cases h), fun _ h => absurd h (Nat.lt_irrefl 0), fun _ d hd => ?_, fun i j x c hx hj => ?_⟩
    · simp only [List.mem_cons, List.not_mem_nil, or_false] at hx
      subst hx
      rfl
    · cases hd
      exact hsp
    · cases i with
      | zero =>
        simp only [List.getElem?_cons_zero, Option.some.injEq] at hx
        subst hx
        simp [D.cells] at hj
      | succ i => simp at hx
  · have hne : r ≠ nid := fun e => hr _ (List.mem_cons_self ..) e.symm
    simpa [Env.new, hne] using hfr
  · have hb := lt_of_get h
    exact ⟨cs1, by rw [alloc_heap, Array.getElem?_push, if_neg (by omega)]; exact h, rfl⟩
  · exact (M.ref r (by rw [hr]; simp) (.inl hr')).2.2.2 N h
  · by_cases hne : r = nid
    · subst hne; exact .inl hf
    · simp only [Env.new, hne, if_false] at hr; exact .inr hr

theorem new_at (ob : Obj) : (E.new nid w.heap.size 1).adr nid = ⟨w.heap.size, 0, none⟩ ∧ (E.new nid w.heap.size 1).st nid = .own ∧ (E.new nid w.heap.size 1).ow w.heap.size = .own nid [] ∧ (w.alloc ob).heap[w.heap.size]? = some ob := by
  refine ⟨by simp [Env.new], by simp [Env.new], by simp [Env.new], by rw [alloc_heap]; simp⟩

theorem does_makeMap (H : Hyp X E w a ρ g nid) (hf : E.st nid = .fresh) {t : Nat} (ho : o.op = .makeMap t none) {qs : List Prop} :
    Does X o E w a ⟨qs, .mref nid, [(nid, some ⟨false, false, 0, 1, [.spc (.mapc [])]⟩)]⟩ := by
  intro K Q k
  obtain ⟨h1, h2, h3, h4⟩ := new_at (E := E) (w := w) (nid := nid) (.map #[] 0)
  refine wp_val (v := .map (some w.heap.size)) (w' := w.alloc (.map #[] 0)) ?_ (k _ _ _ (ext_sp (.map #[] 0) hf ?_) (.mref _ _ _ (.inl rfl) (by rw [h2]; simp) fun _ => by rw [h1]))
  · simp only [execOp, ho]
    rw [Sem.run_bind]
    rw [show (Instr.makeMap t (Option.map a.eval none)).run X.P w = .ok (.map (some w.heap.size)) (w.alloc (.map #[] 0)) from rfl]
    rfl
  · refine ⟨by rw [h1], by rw [h1], by rw [h1, h2, if_pos rfl]; exact h3, #[], 0, by rw [h1]; exact h4, ?_⟩
    exact ⟨rfl, (fun x hx => by simp at hx), by simp, by simp⟩

theorem mapR_some {r : Nat} {R : Root} {l : List (Int × Int)} (h : mapR g r = some (R, l)) : g r = some R ∧ R.xs = [.spc (.mapc l)] ∧ R.w = 0 := by
  unfold mapR at h
  split at h
  · rename_i R' hg
    split at h
    · rename_i l' hx
      split at h
      · rename_i hw
        cases h
        exact ⟨hg, hx, Nat.eq_of_beq_eq_true hw⟩
      · cases h
    · cases h
  · cases h

theorem map_at (H : Hyp X E w a ρ g nid) {x : Operand} {r : Nat} {R : Root} {l : List (Int × Int)} (hx : ρ x = some (.mref r)) (h : mapR g r = some (R, l)) :
    a.eval x = .map (some (E.adr r).block) ∧ RootRel E w r R ∧ SpAt E w r (.spc (.mapc l)) := by
  obtain ⟨h1, h2, h3⟩ := mapR_some h
  have hR := H.rt _ _ h1
  refine ⟨?_, hR, hR.sp h3 _ h2⟩
  have := H.op _ _ hx
  generalize a.eval x = v at this
  cases this with
  | mref m r v hm hs hh => exact hh hR.alive

theorem i64_of (H : Hyp X E w a ρ g nid) {x : Operand} {n : Int} (hx : ρ x = some (.int .i64 n)) : a.eval x = .int .i64 n := (H.op _ _ hx).int_inv

theorem findNow_int {q : Int} : ∀ (xs : List MapEntry) (l : List (Int × Int)) (i : Nat), xs.map (fun e => (e.key, e.val)) = l.map entV →
    (mhas l q = false ∧ mget l q = 0 ∧ Instr.findNow (.int .i64) (.int .i64 q) xs i = some none) ∨
    (∃ j e, xs[j]? = some e ∧ mhas l q = true ∧ (l.map (·.1))[j]? = some q ∧ Instr.findNow (.int .i64) (.int .i64 q) xs i = some (some (i + j, .int .i64 (mget l q))))
  | [], [], i, _ => .inl ⟨rfl, rfl, rfl⟩
  | [], _ :: _, i, h => by simp at h
  | _ :: _, [], i, h => by simp at h
  | e :: xs, p :: l, i, h => by
    simp only [List.map_cons, List.cons.injEq, entV, Prod.mk.injEq] at h
    obtain ⟨⟨hk, hv⟩, h⟩ := h
    by_cases hq : q = p.1
    · refine .inr ⟨0, e, rfl, by simp [mhas, hq], by simp [hq], ?_⟩
      simp [Instr.findNow, Instr.sameNow, hk, hq, mget, hv]
    · have hne : ¬ p.1 = q := fun e => hq e.symm
      have hb : (p.1 == q) = false := by simpa using hne
      rcases findNow_int xs l (i + 1) h with ⟨h1, h2, h3⟩ | ⟨j, e', h1, h2, h3, h4⟩
      · refine .inl ⟨by simpa [mhas, hb] using h1, by simp [mget, hne, h2], ?_⟩
        simp only [Instr.findNow, Instr.sameNow, hk, if_true]
        rw [show (q == p.1) = false by simpa using hq]
        exact h3
      · refine .inr ⟨j + 1, e', by simpa using h1, ?_, by simpa using h3, ?_⟩
        · simp only [mhas, List.any_cons, hb, Bool.false_or]
          exact h2
        · simp only [Instr.findNow, Instr.sameNow, hk, if_true]
          rw [show (q == p.1) = false by simpa using hq]
          simp only [h4, mget, hne, if_false]
          rw [show i + 1 + j = i + (j + 1) by omega]

theorem run_find {P : Program} {kt : Nat} (hk : P.underlying kt = some (.int .i64)) {es : Array MapEntry} {l : List (Int × Int)} (h : es.toList.map (fun e => (e.key, e.val)) = l.map entV) (q : Int) (w : World) :
    (mhas l q = false ∧ mget l q = 0 ∧ (Instr.findKey kt (.int .i64 q) es.toList).run P w = .ok none w) ∨
    (∃ j e, es[j]? = some e ∧ mhas l q = true ∧ (l.map (·.1))[j]? = some q ∧ (Instr.findKey kt (.int .i64 q) es.toList).run P w = .ok (some (j, .int .i64 (mget l q))) w) := by
  rcases findNow_int (q := q) es.toList l 0 h with ⟨h1, h2, h3⟩ | ⟨j, e, h1, h2, h3, h4⟩
  · refine .inl ⟨h1, h2, ?_⟩
    simp [Instr.findKey, run_underlying hk, h3, Result.andThen]
  · refine .inr ⟨j, e, by simpa using h1, h2, h3, ?_⟩
    simp [Instr.findKey, run_underlying hk, h4, Result.andThen]

theorem run_check {P : Program} {kt : Nat} (hk : P.underlying kt = some (.int .i64)) (b : Bool) (q : Int) (w : World) : (Instr.checkKey b 10000 kt (.int .i64 q)).run P w = .ok () w := by
  show (Instr.checkKey b (9999 + 1) kt (.int .i64 q)).run P w = .ok () w
  rw [Instr.checkKey, Sem.run_bind, run_underlying hk]
  rfl

theorem mdel_no : ∀ {l : List (Int × Int)} {q : Int}, mhas l q = false → mdel l q = l
  | [], q, _ => rfl
  | p :: l, q, h => by
    simp only [mhas, List.any_cons, Bool.or_eq_false_iff] at h
    simp only [mdel, List.filter_cons, h.1, Bool.not_false, if_true]
    congr 1
    exact mdel_no h.2
theorem mhas_iff {l : List (Int × Int)} {q : Int} : mhas l q = true ↔ q ∈ l.map (·.1) := by
  simp [mhas, List.any_eq_true]
theorem mdel_erase : ∀ {l : List (Int × Int)} {j : Nat} {q : Int}, (l.map (·.1)).Nodup → (l.map (·.1))[j]? = some q → mdel l q = l.eraseIdx j
  | [], j, q, _, h => by simp at h
  | p :: l, j, q, hn, h => by
    simp only [List.map_cons, List.nodup_cons] at hn
    cases j with
    | zero =>
      simp only [List.map_cons, List.getElem?_cons_zero, Option.some.injEq] at h
      subst h
      have h1 : mdel l p.1 = l := mdel_no (by
        cases hc : mhas l p.1 with
        | false => rfl
        | true => exact absurd (mhas_iff.1 hc) hn.1)
      simp only [mdel, List.filter_cons, beq_self_eq_true, Bool.not_true, Bool.false_eq_true, if_false, List.eraseIdx_zero, List.tail_cons]
      exact h1
    | succ j =>
      simp only [List.map_cons, List.getElem?_cons_succ] at h
      have hne : ¬ p.1 = q := fun e => hn.1 (by rw [e]; exact List.mem_of_getElem? h)
      have hb : (p.1 == q) = false := by simpa using hne
      simp only [mdel, List.filter_cons, hb, Bool.not_false, if_true, List.eraseIdx_cons_succ]
      congr 1
      exact mdel_erase hn.2 h
theorem mput_set : ∀ {l : List (Int × Int)} {j : Nat} {q v : Int}, (l.map (·.1)).Nodup → (l.map (·.1))[j]? = some q → l.map (fun p => if p.1 = q then (p.1, v) else p) = l.set j (q, v)
  | [], j, q, v, _, h => by simp at h
  | p :: l, j, q, v, hn, h => by
    simp only [List.map_cons, List.nodup_cons] at hn
    cases j with
    | zero =>
      simp only [List.map_cons, List.getElem?_cons_zero, Option.some.injEq] at h
      subst h
      simp only [List.map_cons, if_true, List.set_cons_zero, List.cons.injEq, true_and]
      conv => rhs; rw [← List.map_id l]
      refine List.map_congr_left fun x hx => ?_
      rw [if_neg (fun e => hn.1 (by rw [← e]; exact List.mem_map_of_mem hx))]
      rfl
    | succ j =>
      simp only [List.map_cons, List.getElem?_cons_succ] at h
      have hne : ¬ p.1 = q := fun e => hn.1 (by rw [e]; exact List.mem_of_getElem? h)
      simp only [List.map_cons, hne, if_false, List.set_cons_succ, List.cons.injEq, true_and]
      exact mput_set hn.2 h

theorem ext_map {r b : Nat} {R : Root} {l l' : List (Int × Int)} {es es' : Array MapEntry} {clk clk' : Nat} (hR : RootRel E w r R) (hfz : R.fz = false) (hw : R.w = 0) (hx : R.xs = [.spc (.mapc l)]) (hb : (E.adr r).block = b) (hh : w.heap[b]? = some (.map es clk)) (hf : MapFit es' clk' l') :
    Ext E w E (ChangeMaps.setBlock w b (.map es' clk')) [(r, some { R with xs := [.spc (.mapc l')] })] := by
  subst hb
  have hst : E.st r = .own := by rw [hR.st, hfz]; rfl
  obtain ⟨p1, p2, p3, _⟩ := hR.sp hw _ hx
  rw [hst, if_pos rfl] at p3
  have hsame := ChangeMaps.heap_setBlock_same hh (.map es' clk')
  have hoth : ∀ i, i ≠ (E.adr r).block → (ChangeMaps.setBlock w (E.adr r).block (.map es' clk')).heap[i]? = w.heap[i]? := fun i hi => ChangeMaps.heap_setBlock_other hh _ hi
  have hne : ∀ i x, E.ow i = x → x ≠ .own r [] → i ≠ (E.adr r).block := fun i x h1 h2 e => by rw [e, p3] at h1; exact h2 h1.symm
  have hcel : ∀ i cs ty, w.heap[i]? = some (.cells cs ty (0, 0)) → i ≠ (E.adr r).block := fun i cs ty h e => by rw [e, hh] at h; cases h
  have hshp : ∀ r' N, Shp E w r' N → Shp E (ChangeMaps.setBlock w (E.adr r).block (.map es' clk')) r' N := fun r' N hs => by
    obtain ⟨s1, s2, cs, ty, s3, s4⟩ := hs
    exact ⟨s1, s2, cs, ty, (hoth _ (hcel _ _ _ s3)).trans s3, s4⟩
  have M : Mv E w E (ChangeMaps.setBlock w (E.adr r).block (.map es' clk')) :=
    ⟨by simp [ChangeMaps.setBlock], fun b hb ho => ⟨hoth _ (hne b _ ho (by simp)), ho⟩, fun r hr => hr, fun r' hr hal => ⟨hal, rfl, rfl, hshp r'⟩⟩
  refine ⟨M.sz, rfl, rfl, ⟨rfl, drw_le (Nat.le_refl _)⟩, M.fz, fun b hb ho => ⟨hoth _ (hne b _ ho (by simp)), ho⟩, fun _ _ => rfl, fun d v h => h.mv M trivial, fun r' R' hr' h => ?_, fun r' R' hmem => ?_, fun _ _ h => h, fun b cs ty h => ⟨cs, (hoth _ (hcel _ _ _ h)).trans h, rfl⟩, fun r' N _ _ h => hshp r' N h, fun _ h => .inr h⟩
  · have hrr : r' ≠ r := fun e => hr' _ (List.mem_cons_self ..) e.symm
    exact h.mv M rfl (fun b q hb ho => ⟨hoth _ (hne b _ ho (by simp [hrr])), ho⟩)
  · simp only [List.mem_cons, Prod.mk.injEq, Option.some.injEq, List.not_mem_nil, or_false] at hmem
    obtain ⟨rfl, rfl⟩ := hmem
    have hn1 : R.n = 1 := by rw [← hR.n, hx]; rfl
    refine ⟨hR.st, hR.len, by rw [hn1]; rfl, fun x hx' => ?_, hR.nobox, fun _ h => absurd hw (Nat.ne_of_gt h), fun _ d hd => ?_, fun i j x c hx' hj => ?_⟩
    · simp only [List.mem_cons, List.not_mem_nil, or_false] at hx'
      subst hx'
      exact hw.symm
    · cases hd
      exact ⟨p1, p2, by rw [hst, if_pos rfl]; exact p3, es', clk', hsame, hf⟩
    · cases i with
      | zero =>
        simp only [List.getElem?_cons_zero, Option.some.injEq] at hx'
        subst hx'
        simp [D.cells] at hj
      | succ i => simp at hx'

theorem list_modify {es : Array MapEntry} {j : Nat} {e : MapEntry} (he : es[j]? = some e) (f : MapEntry → MapEntry) : (es.modify j f).toList = es.toList.set j (f e) := by
  refine List.ext_getElem? fun i => ?_
  rw [Array.getElem?_toList, Array.getElem?_modify, List.getElem?_set]
  have hlt := lt_of_get he
  by_cases hij : j = i
  · subst hij
    have he2 : es[j] = e := by simpa [hlt] using he
    simp [hlt, he2]
  · simp [hij]

theorem set_same {α : Type} {l : List α} {j : Nat} {x : α} (h : l[j]? = some x) : l.set j x = l := by
  refine List.ext_getElem? fun i => ?_
  rw [List.getElem?_set]
  split
  · rename_i e
    subst e
    rw [h]
    exact if_pos (List.getElem?_eq_some_iff.1 h).1
  · rfl
theorem erase_map {α β : Type} (f : α → β) : ∀ (l : List α) (j : Nat), (l.map f).eraseIdx j = (l.eraseIdx j).map f
  | [], j => by simp
  | x :: l, 0 => by simp
  | x :: l, j + 1 => by simp [erase_map f l j]
theorem does_mapUpdate (H : Hyp X E w a ρ g nid) {t : Nat} {m x y : Operand} {r : Nat} {R : Root} {l : List (Int × Int)} {q v : Int} (ho : o.op = .mapUpdate t m x y) (ht : kAt X.T t = some .mapi) (hm : ρ m = some (.mref r)) (hx : ρ x = some (.int .i64 q)) (hy : ρ y = some (.int .i64 v))
    (hr : mapR g r = some (R, l)) (hfz : R.fz = false) {qs : List Prop} : Does X o E w a ⟨qs, .undef, [(r, some { R with xs := [.spc (.mapc (mput l q v))] })]⟩ := by
  obtain ⟨k, e, inf, hu, hk, he, hinf, hzz⟩ := kind_map (kAt_kind H.T ht)
  obtain ⟨hmv, hR, _, _, _, es, clk, hh, f1, f2, f3, f4⟩ := map_at H hm hr
  obtain ⟨_, hxs, hw⟩ := mapR_some hr
  intro K Q kk
  rcases run_find hk f1 q w with ⟨h1, _, h3⟩ | ⟨j, e0, h2, h1, h3, h4⟩
  · refine wp_skp (w' := ChangeMaps.setBlock w (E.adr r).block (.map (es.push { key := .int .i64 q, val := .int .i64 v, born := clk }) (clk + 1))) ?_ (kk _ _ _ (ext_map (l := l) hR hfz hw hxs rfl hh ?_) (.undef _ _ (.inl rfl)))
    · simp only [execOp, ho, hmv, i64_of H hx, i64_of H hy]
      rw [Sem.run_bind]
      have : (Instr.mapUpdate t (.map (some (E.adr r).block)) (.int .i64 q) (.int .i64 v)).run X.P w = .ok () (ChangeMaps.setBlock w (E.adr r).block (.map (es.push { key := .int .i64 q, val := .int .i64 v, born := clk }) (clk + 1))) := by
        simp [Instr.mapUpdate, run_underlying hu, MapKept.run_getObj_map hh, run_check hk, h3, MapKept.run_setObj_map _ hh, Result.andThen, ChangeMaps.setBlock]
      rw [this]
      rfl
    · unfold mput
      rw [h1]
      simp only [Bool.false_eq_true, if_false]
      refine ⟨by simp [f1, entV], fun z hz => ?_, ?_, ?_⟩
      · simp only [Array.toList_push, List.mem_append, List.mem_singleton] at hz
        rcases hz with hz | rfl
        · have := f2 z hz; omega
        · exact Nat.lt_succ_self _
      · simp only [Array.toList_push, List.map_append, List.map_cons, List.map_nil]
        refine List.nodup_append.2 ⟨f3, by simp, fun z hz y hy => ?_⟩
        simp only [List.mem_singleton] at hy
        subst hy
        obtain ⟨u, hu', rfl⟩ := List.mem_map.1 hz
        have := f2 u hu'
        omega
      · simp only [List.map_append, List.map_cons, List.map_nil]
        refine List.nodup_append.2 ⟨f4, by simp, fun z hz y hy => ?_⟩
        simp only [List.mem_singleton] at hy
        subst hy
        intro e
        subst e
        rw [mhas_iff.2 hz] at h1
        cases h1
  · refine wp_skp (w' := ChangeMaps.setBlock w (E.adr r).block (.map (es.modify j fun e => { e with key := .int .i64 q, val := .int .i64 v }) clk)) ?_ (kk _ _ _ (ext_map (l := l) hR hfz hw hxs rfl hh ?_) (.undef _ _ (.inl rfl)))
    · simp only [execOp, ho, hmv, i64_of H hx, i64_of H hy]
      rw [Sem.run_bind]
      have hkey : e0.key = .int .i64 q := by
        have h5 : (es.toList.map (fun e => (e.key, e.val)))[j]? = some (e0.key, e0.val) := by rw [List.getElem?_map, Array.getElem?_toList, h2]; rfl
        rw [f1, List.getElem?_map, Option.map_eq_some_iff] at h5
        obtain ⟨p, hp, hpe⟩ := h5
        rw [List.getElem?_map, hp] at h3
        simp only [Option.map_some, Option.some.injEq] at h3
        simp only [entV, Prod.mk.injEq] at hpe
        rw [← hpe.1, h3]
      have : (Instr.mapUpdate t (.map (some (E.adr r).block)) (.int .i64 q) (.int .i64 v)).run X.P w = .ok () (ChangeMaps.setBlock w (E.adr r).block (.map (es.modify j fun e => { e with key := .int .i64 q, val := .int .i64 v }) clk)) := by
        simp [Instr.mapUpdate, run_underlying hu, MapKept.run_getObj_map hh, run_check hk, h4, h2, hkey, MapKept.run_keyThatStays (d := .int .i64) (k := .int .i64 q) rfl, MapKept.run_setObj_map _ hh, Result.andThen, ChangeMaps.setBlock]
      rw [this]
      rfl
    · unfold mput
      rw [h1]
      simp only [if_true]
      rw [mput_set f4 h3]
      have hl := list_modify h2 (fun e => { e with key := .int .i64 q, val := .int .i64 v })
      have hb : (es.toList.set j { e0 with key := .int .i64 q, val := .int .i64 v }).map (·.born) = es.toList.map (·.born) := by
        rw [List.map_set]
        refine List.ext_getElem? fun i => ?_
        rw [List.getElem?_set]
        split
        · rename_i hij
          subst hij
          rw [List.getElem?_map, Array.getElem?_toList, h2]
          simp [lt_of_get h2]
        · rfl
      refine ⟨?_, fun z hz => ?_, ?_, ?_⟩
      · rw [hl, List.map_set, f1, List.map_set]
        rfl
      · rw [hl] at hz
        have : z.born ∈ es.toList.map (·.born) := by rw [← hb]; exact List.mem_map_of_mem hz
        obtain ⟨u, hu', e⟩ := List.mem_map.1 this
        rw [← e]
        exact f2 u hu'
      · rw [hl, hb]
        exact f3
      · rw [List.map_set]
        have : (l.map (·.1)).set j q = l.map (·.1) := set_same h3
        rw [this]
        exact f4

theorem does_delete (H : Hyp X E w a ρ g nid) {c : Call} {t t' : Nat} {m x : Operand} {r : Nat} {R : Root} {l : List (Int × Int)} {q : Int} (ho : o.op = .call c) (hc : c.callee = .builtin .delete) (hts : c.argTypes.toList = [t, t']) (has : c.args.toList = [m, x])
    (ht : kAt X.T t = some .mapi) (hm : ρ m = some (.mref r)) (hx : ρ x = some (.int .i64 q)) (hr : mapR g r = some (R, l)) (hfz : R.fz = false) {qs : List Prop} : Does X o E w a ⟨qs, .tup [], [(r, some { R with xs := [.spc (.mapc (mdel l q))] })]⟩ := by
  obtain ⟨k, e, inf, hu, hk, he, hinf, hzz⟩ := kind_map (kAt_kind H.T ht)
  obtain ⟨hmv, hR, _, _, _, es, clk, hh, f1, f2, f3, f4⟩ := map_at H hm hr
  obtain ⟨_, hxs, hw⟩ := mapR_some hr
  have hargs : c.args = #[m, x] := by rw [← has]
  have htys : c.argTypes = #[t, t'] := by rw [← hts]
  intro K Q kk
  rcases run_find hk f1 q w with ⟨h1, _, h3⟩ | ⟨j, e0, h2, h1, h3, h4⟩
  · refine wp_val (v := .tuple #[]) (w' := ChangeMaps.setBlock w (E.adr r).block (.map es clk)) ?_ (kk _ _ _ (ext_map (l := l) hR hfz hw hxs rfl hh ?_) (.tup _ _ rfl (fun i c u h => by simp at h)))
    · simp [execOp, ho, resolve, hc, hargs, htys, hmv, i64_of H hx, invoke, builtin, Builtin.delete_, run_underlying hu, MapKept.run_getObj_map hh, run_check hk, h3, MapKept.run_setObj_map _ hh, Result.andThen, ChangeMaps.setBlock]
    · rw [mdel_no h1]
      exact ⟨f1, f2, f3, f4⟩
  · refine wp_val (v := .tuple #[]) (w' := ChangeMaps.setBlock w (E.adr r).block (.map (es.eraseIdxIfInBounds j) clk)) ?_ (kk _ _ _ (ext_map (l := l) hR hfz hw hxs rfl hh ?_) (.tup _ _ rfl (fun i c u h => by simp at h)))
    · simp [execOp, ho, resolve, hc, hargs, htys, hmv, i64_of H hx, invoke, builtin, Builtin.delete_, run_underlying hu, MapKept.run_getObj_map hh, run_check hk, h4, MapKept.run_setObj_map _ hh, Result.andThen, ChangeMaps.setBlock]
    · rw [mdel_erase f4 h3]
      have hlt := lt_of_get h2
      have hl : (es.eraseIdxIfInBounds j).toList = es.toList.eraseIdx j := by
        unfold Array.eraseIdxIfInBounds
        rw [dif_pos hlt]
        simp
      refine ⟨?_, fun z hz => ?_, ?_, ?_⟩
      · rw [hl, ← erase_map, f1, erase_map]
      · rw [hl] at hz
        exact f2 z ((List.eraseIdx_sublist _ _).subset hz)
      · rw [hl, ← erase_map]
        exact f3.sublist (List.eraseIdx_sublist _ _)
      · rw [← erase_map]
        exact f4.sublist (List.eraseIdx_sublist _ _)

theorem does_lookup (H : Hyp X E w a ρ g nid) {t : Nat} {m x : Operand} {ok : Bool} {r : Nat} {R : Root} {l : List (Int × Int)} {q : Int} (ho : o.op = .lookup t m x ok) (ht : kAt X.T t = some .mapi) (hm : ρ m = some (.mref r)) (hx : ρ x = some (.int .i64 q))
    (hr : mapR g r = some (R, l)) {qs : List Prop} : Does X o E w a ⟨qs, if ok then .tup [.int .i64 (mget l q), .bool (mhas l q)] else .int .i64 (mget l q), []⟩ := by
  obtain ⟨k, e, inf, hu, hk, he, hinf, hzz⟩ := kind_map (kAt_kind H.T ht)
  obtain ⟨hmv, hR, _, _, _, es, clk, hh, f1, f2, f3, f4⟩ := map_at H hm hr
  refine Does.pure (v := if ok then .tuple #[.int .i64 (mget l q), .bool (mhas l q)] else .int .i64 (mget l q)) rfl ?_ ?_
  · simp only [execOp, ho, hmv, i64_of H hx]
    rw [Sem.run_bind]
    have : (Instr.lookup t (.map (some (E.adr r).block)) (.int .i64 q) ok).run X.P w = .ok (if ok then .tuple #[.int .i64 (mget l q), .bool (mhas l q)] else .int .i64 (mget l q)) w := by
      rcases run_find hk f1 q w with ⟨h1, h2, h3⟩ | ⟨j, e0, h2, h1, h3, h4⟩
      · have hz : (zeroValue e).run X.P w = .ok (.int .i64 0) w := by
          simp [zeroValue, typeInfo, hinf, hzz, Result.andThen]
        simp [Instr.lookup, run_underlying hu, MapKept.run_getObj_map hh, run_check hk, h3, hz, Result.andThen, h1, h2]
      · simp [Instr.lookup, run_underlying hu, MapKept.run_getObj_map hh, run_check hk, h4, Result.andThen, h1]
    rw [this]
    rfl
  · cases ok with
    | true =>
      refine .tup _ _ rfl (fun i c u hc hu => ?_)
      match i with
      | 0 => cases hc; cases hu; exact .int _ _ _
      | 1 => cases hc; cases hu; exact .bool _ _
      | i + 2 => simp at hc
    | false => exact .int _ _ _

theorem does_maplen (H : Hyp X E w a ρ g nid) {c : Call} {t : Nat} {m : Operand} {r : Nat} {R : Root} {l : List (Int × Int)} (ho : o.op = .call c) (hc : c.callee = .builtin .len) (hts : c.argTypes.toList[0]? = some t) (has : c.args.toList = [m])
    (ht : kAt X.T t = some .mapi) (hm : ρ m = some (.mref r)) (hr : mapR g r = some (R, l)) {qs : List Prop} : Does X o E w a ⟨qs, .int .i64 l.length, []⟩ := by
  obtain ⟨k, e, inf, hu, hk, he, hinf, hzz⟩ := kind_map (kAt_kind H.T ht)
  obtain ⟨hmv, hR, _, _, _, es, clk, hh, f1, f2, f3, f4⟩ := map_at H hm hr
  have hlen : es.size = l.length := by
    have := congrArg List.length f1
    simpa using this
  have hargs : c.args = #[m] := by rw [← has]
  refine Does.pure (v := goInt l.length) rfl ?_ (.int _ _ _)
  have htt : c.argTypes[0]? = some t := by rw [← hts]; simp
  simp [execOp, ho, resolve, hc, hargs, hmv, invoke, builtin, Builtin.len_, htt, run_underlying hu, MapKept.run_getObj_map hh, Result.andThen, hlen]

theorem does_range (H : Hyp X E w a ρ g nid) (hf : E.st nid = .fresh) {t : Nat} {m : Operand} {r : Nat} {R : Root} {l : List (Int × Int)} (ho : o.op = .range t m) (ht : kAt X.T t = some .mapi) (hm : ρ m = some (.mref r)) (hr : mapR g r = some (R, l)) (hfz : R.fz = true) {qs : List Prop} :
    Does X o E w a ⟨qs, .ptr nid 0 0 0, [(nid, some ⟨false, false, 0, 1, [.spc (.iter l none)]⟩)]⟩ := by
  obtain ⟨k, e, inf, hu, hk, he, hinf, hzz⟩ := kind_map (kAt_kind H.T ht)
  obtain ⟨hmv, hR, _, _, p3, es, clk, hh, f1, f2, f3, f4⟩ := map_at H hm hr
  have hst : E.st r = .fz := by rw [hR.st, hfz]; rfl
  rw [hst] at p3
  simp only [reduceCtorEq, if_false] at p3
  intro K Q kk
  obtain ⟨h1, h2, h3, h4⟩ := new_at (E := E) (w := w) (nid := nid) (.mapIter (some (E.adr r).block) clk #[] clk)
  refine wp_val (v := .pointer (some ⟨w.heap.size, 0, none⟩)) (w' := w.alloc (.mapIter (some (E.adr r).block) clk #[] clk)) ?_ (kk _ _ _ (ext_sp _ hf ?_) (.ptr _ _ _ _ _ _ (.inl rfl) (by rw [h2]; simp) fun _ => by rw [h1]; simp [Addr.add]))
  · simp only [execOp, ho, hmv]
    rw [Sem.run_bind]
    have : (Instr.range t (.map (some (E.adr r).block))).run X.P w = .ok (.pointer (some ⟨w.heap.size, 0, none⟩)) (w.alloc (.mapIter (some (E.adr r).block) clk #[] clk)) := by
      simp only [Instr.range, Sem.run_bind, run_underlying hu, Result.andThen_ok, MapKept.run_getObj_map hh]
      rfl
    rw [this]
    rfl
  · have hb := lt_of_get hh
    refine ⟨by rw [h1], by rw [h1], by rw [h1, h2, if_pos rfl]; exact h3, (E.adr r).block, clk, #[], es, by rw [h1]; exact h4, ?_, ?_, f2, f3, ?_⟩
    · simp only [Env.new]
      rw [if_neg (by omega)]
      exact p3
    · rw [alloc_heap, Array.getElem?_push, if_neg (by omega)]
      exact hh
    · rw [← f1]
      have : (es.filter fun e => !(#[] : Array Nat).contains e.born) = es := by simp
      rw [this]
      exact ⟨rfl, fun p h => by cases h⟩


theorem does_entry (H : Hyp X E w a ρ g nid) {it : Operand} {r : Nat} {R : Root} {l : List (Int × Int)} {p : Int × Int} (ho : o.op = .entry it) (hi : ρ it = some (.ptr r 0 0 0)) (hg : g r = some R) (hx : R.xs = [.spc (.iter l (some p))]) (hw : R.w = 0) (hfz : R.fz = false) {qs : List Prop} :
    Does X o E w a ⟨qs, .tup [.int .i64 p.1, .int .i64 p.2], []⟩ := by
  have hR := H.rt _ _ hg
  obtain ⟨h1, h2, h3, b, clk, seen, es, h4, h5, h6, h7, h8, h9, h10⟩ := hR.sp hw _ hx
  obtain ⟨s, e, rfl, he, hev⟩ := h10 p rfl
  have hv := (H.op _ _ hi).ptr_inv.2.2 hR.alive
  have hadr : (E.adr r).add (0 * 0 + 0) = ⟨(E.adr r).block, 0, none⟩ := by
    cases hA : E.adr r with
    | mk b1 b2 b3 => rw [hA] at h1 h2; simp only at h1 h2; subst h1 h2; simp [Addr.add]
  rw [hadr] at hv
  refine Does.pure (v := .tuple #[.int .i64 p.1, .int .i64 p.2]) rfl ?_ (.tup _ _ rfl (fun i c u hc hu => ?_))
  · simp only [execOp, ho, hv]
    rw [Sem.run_bind, run_entry_at w (E.adr r).block b clk s es clk e h4 h6 he h8]
    simp only [entV, Prod.mk.injEq] at hev
    rw [hev.1, hev.2]
    rfl
  · match i with
    | 0 => cases hc; cases hu; exact .int _ _ _
    | 1 => cases hc; cases hu; exact .int _ _ _
    | i + 2 => simp at hc

end
end Go.Proofs.Ytnfeelacifllmaa.Ab

namespace Go.Proofs.Ytnfeelacifllmaa.Ab

section
variable {X : Ctx} {o : Oper} {E E' Ec : Env} {w w' : World} {a : Act} {ρ : Operand → Option D} {g : Nat → Option Root} {nid : Nat}

theorem Does.ps {ps qs : List Prop} {v : D} {us : List (Nat × Option Root)} (h : Does X o E w a ⟨ps, v, us⟩) : Does X o E w a ⟨qs, v, us⟩ := fun K Q k => h K Q k

theorem kAt_look {T : Tab} {t : Nat} {ti : TI} {k : TK} (h : look t T = some ti) (hk : ti.k = k) : kAt T t = some k := by simp [kAt, h, hk]

theorem stepOp_ok (H : Hyp X E w a ρ g nid) {h : Hint} {out : Out} (hf : ∀ u ∈ out.us, nid ≤ u.1 → E.st u.1 = .fresh) (hs : stepOp X o ρ g nid h = some out) (hp : AllP out.ps) : Does X o E w a out := by
  unfold stepOp at hs
  have hfn : ∀ R, (nid, some R) ∈ out.us → E.st nid = .fresh := fun R h => hf _ h (Nat.le_refl _)
  split at hs
  · -- move
    rename_i x ho
    split at hs <;> cases hs
    rename_i d hx
    exact does_move H (.inl ho) hx
  · rename_i x ho
    split at hs <;> cases hs
    rename_i d hx
    exact does_move H (.inr ho) hx
  · -- pick
    rename_i c x y ho
    split at hs
    · rename_i t hc
      cases t with
      | true => simp only at hs
                split at hs <;> cases hs
                rename_i d hx
                exact does_pick H (t := true) ho hc hx
      | false => simp only at hs
                 split at hs <;> cases hs
                 rename_i d hx
                 exact does_pick H (t := false) ho hc hx
    · cases hs
  · -- nilCheck
    rename_i x ho
    split at hs
    · rename_i r wd i j hx
      split at hs <;> cases hs
      rename_i R hg
      exact does_nilCheck_ptr H ho hx hg
    · rename_i wd xs i j hx
      cases hs
      exact does_nilCheck_fptr H ho hx
    · cases hs
  · -- alloc
    rename_i t ho
    split at hs
    · rename_i ti ht
      dsimp only at hs
      split at hs
      · rename_i hc
        simp only [Bool.and_eq_true] at hc
        cases hs
        exact does_alloc H (hfn _ (List.mem_singleton.2 rfl)) ho ht hc.1 hc.2
      · cases hs
    · cases hs
  · -- box
    rename_i t x ho
    split at hs
    · rename_i d hx
      dsimp only at hs
      split at hs
      · rename_i hc
        simp only [Bool.and_eq_true] at hc
        cases hs
        exact does_box H (hfn _ (List.mem_singleton.2 rfl)) ho hx hc.1 hc.2
      · cases hs
    · cases hs
  · -- build
    rename_i t parts ho
    split at hs
    · rename_i ht
      split at hs
      · rename_i cs hcs
        cases hs
        exact does_build H ho ht rfl rfl hcs
      · cases hs
    · rename_i ht
      split at hs
      · rename_i te hte
        split at hs
        · rename_i cs hcs
          cases hs
          exact does_build_arr H ho ht rfl rfl hte hcs
        · cases hs
      · cases hs
    · cases hs
  · -- literal
    rename_i t len parts ho
    split at hs
    · rename_i ht
      split at hs
      · rename_i te hte
        split at hs
        · rename_i ds hds
          dsimp only at hs
          split at hs
          · rename_i hc
            simp only [Bool.and_eq_true] at hc
            cases hs
            refine does_lit (box := false) H (hfn _ (List.mem_singleton.2 rfl)) ho (kAt_look ht rfl) hte hds hc.1.1.1 hc.1.1.2 hc.2 ?_
            simpa using hc.1.2
          · split at hs
            · rename_i hc
              simp only [Bool.and_eq_true] at hc
              cases hs
              refine does_lit (box := true) H (hfn _ (List.mem_singleton.2 rfl)) ho (kAt_look ht rfl) hte hds hc.1.1.1 hc.1.1.2 hc.2 ?_
              refine List.all_eq_true.2 fun x hx => List.all_eq_true.2 fun c hc' => ?_
              have h1 := List.all_eq_true.1 (List.all_eq_true.1 hc.1.2 x hx) c hc'
              simp [okc_boxy h1]
            · cases hs
        · cases hs
      · cases hs
    · cases hs
  · -- load
    rename_i t x ho
    split at hs
    · rename_i ti ht
      split at hs
      · rename_i r wd i j hx
        split at hs
        · rename_i R hg
          split at hs
          · rename_i hc
            simp only [Bool.and_eq_true] at hc
            split at hs
            · rename_i d hd
              cases hs
              exact does_load_ptr H ho hx hg ht hc.1.1 hc.1.2 hc.2 hd hp.1
            · cases hs
          · cases hs
        · cases hs
      · rename_i wd xs i j hx
        split at hs
        · rename_i hc
          simp only [Bool.and_eq_true] at hc
          split at hs
          · rename_i d hd
            cases hs
            exact does_load_fptr H ho hx ht hc.1 hc.2 hd hp.1
          · cases hs
        · cases hs
      · cases hs
    · cases hs
  · -- store
    rename_i t x y ho
    split at hs
    · rename_i ti ht
      split at hs
      · rename_i r wd i j d hx hy
        dsimp only at hs
        split at hs
        · rename_i R hg
          split at hs
          · rename_i hc
            simp only [Bool.and_eq_true, Bool.not_eq_true'] at hc
            obtain ⟨⟨⟨⟨hfz, hw⟩, hn⟩, hj⟩, h0⟩ := hc
            split at hs
            · rename_i hb
              split at hs
              · split at hs
                · rename_i hc2
                  cases hs
                  exact (does_store H ho ht hx hy hg hfz hw hn hj hp.1 (.inl ⟨hb, hc2⟩) hp.2.1 h0 (qs := [])).ps
                · cases hs
              · split at hs
                · rename_i hc2
                  simp only [Bool.and_eq_true] at hc2
                  cases hs
                  have hi : i < R.n := by have := hc2.2; simp [Nat.blt] at this; omega
                  exact does_store H ho ht hx hy hg hfz hw hn hj hi (.inl ⟨hb, hc2.1⟩) rfl h0
                · cases hs
            · split at hs
              · rename_i hc2
                cases hs
                have hn2 := hp.2.2.1
                have := does_store H ho ht hx hy hg hfz hw hn hj hp.1 (.inr hc2) hp.2.1 h0 (qs := [])
                rw [← hn2]
                exact this.ps
              · split at hs
                · rename_i hc2
                  cases hs
                  obtain ⟨hg1, hRw⟩ := gw_some hg
                  have H1 : Hyp X E w a ρ (fun k => if k = r then some { R with box := true } else g k) nid := by
                    refine ⟨H.T, H.op, fun k K hK => ?_, fun k K hK => ?_, H.gl⟩
                    · split at hK
                      · rename_i e
                        subst e
                        cases hK
                        exact (H.rt k R hg1).boxed hfz
                      · exact H.rt k K hK
                    · split at hK
                      · rename_i e
                        subst e
                        exact H.lt k R hg1
                      · exact H.lt k K hK
                  have hok : ∀ c, okc g c = okc (fun k => if k = r then some { R with box := true } else g k) c := fun c => by
                    cases c <;> simp only [okc] <;> split <;> simp_all
                  have hwh : whole (fun k => if k = r then some { R with box := true } else g k) d = true := by
                    cases d <;> simp only [whole] at hw ⊢ <;> first | rfl | (rw [← hok]; exact hw)
                  refine (does_store H1 ho ht hx hy (R := { R with box := true }) ?_ hfz hwh hn hj hp.1 (.inl ⟨rfl, ?_⟩) hp.2.1 h0 (qs := [])).ps
                  · have hp0 := gw_pos hg
                    simp only [gw, if_true, hRw, Nat.beq_refl, Bool.true_and]
                    rw [if_pos (by simp only [Nat.blt, Nat.ble_eq]; omega)]
                  · exact (congrArg (fun f => (d.cells.map D.fl).all f) (funext fun c => (hok c).symm)).trans hc2
                · cases hs
          · cases hs
        · cases hs
      · cases hs
    · cases hs
  · -- binary
    rename_i op t x y t' ho
    split at hs
    · rename_i o' w' n xs hx hy
      split at hs <;> first | (cases hs; done) | skip
      rename_i e' hk
      have hu := kind_slice (kAt_kind H.T hk)
      have hq := H.op _ _ hy
      have hq' : a.eval y = .slice none 0 0 := hq.nil_inv
      obtain ⟨A, c, hv, hA⟩ : ∃ A c, a.eval x = .slice A n c ∧ (0 < n → A ≠ none) := (H.op _ _ hx).list_addr
      have hrun : (do eqGuard .eql t x y (a.eval x) (a.eval y); binOp .eql t (a.eval x) (a.eval y)).run X.P w = .ok (.bool A.isNone) w := by
        rw [hq', hv, Sem.run_bind, guard_plain (by rintro (⟨_, _, h, _⟩ | ⟨h, _⟩) <;> cases h)]
        simp only [Result.andThen_ok]
        simp only [binOp]
        simp [Op.equal, Op.maxDepth, eqNil_run hu 9999 A n c]
      split at hs
      · cases hs
        simp only [AllP, and_true] at hp
        refine does_bin H ho hx hy hrun ?_
        cases A with
        | none => exact absurd rfl (hA hp)
        | some a => exact .bool _ _
      · cases hs
        exact does_bin H ho hx hy hrun (.anyb _)
    · rename_i b hx hy
      have hq := H.op _ _ hy
      have hqv : a.eval y = .nilIface := by
        generalize a.eval y = z at hq
        cases hq with
        | ifc m b v hv => rcases hv with ⟨_, h⟩ | ⟨h, _⟩
                          · exact h
                          · cases h
      have hxv : ifcV b (a.eval x) := by
        have := H.op _ _ hx
        generalize a.eval x = z at this
        cases this with
        | ifc m b v hv => exact hv
      split at hs <;> first | (cases hs; done) | skip
      · rename_i hk
        cases hs
        exact does_bin H ho hx hy (ifc_bin (.inl rfl) ⟨_, rfl⟩ (kind_ifc (kAt_kind H.T hk)) hxv hqv) (.bool _ _)
      · rename_i hk
        cases hs
        exact does_bin H ho hx hy (ifc_bin (.inr rfl) ⟨_, rfl⟩ (kind_ifc (kAt_kind H.T hk)) hxv hqv) (.bool _ _)
    · rename_i d e _ hx hy
      split at hs
      · rename_i ps v hb
        cases hs
        obtain ⟨u, h1, h2⟩ := bin_run H (x := x) (y := y) hb hp (H.op _ _ hx) (H.op _ _ hy)
        exact does_bin H ho hx hy h1 h2
      · cases hs
    · cases hs
  · -- unary
    rename_i op t x ho
    split at hs
    · rename_i d hx
      split at hs
      · rename_i v hu
        cases hs
        exact does_un H ho hx hu
      · cases hs
    · cases hs
  · -- convert
    rename_i s t x ho
    split at hs
    · rename_i ks k k0 n h1 h2 h3
      cases hs
      exact does_conv_int H ho h1 h2 h3
    · rename_i ks v h1 h2 h3
      cases hs
      exact does_conv_str H ho h1 h2 h3
    · rename_i e d h1 h2 h3
      split at hs
      · rename_i oo wd n xs he
        split at hs
        · rename_i hw
          cases hs
          have := Nat.eq_of_beq_eq_true hw
          subst this
          exact does_conv_bytes_list H ho h1 he h2 h3 hp.1
        · cases hs
      · rename_i r wd he
        split at hs
        · rename_i R hg
          split at hs
          · rename_i hc
            simp only [Bool.and_eq_true] at hc
            cases hs
            have := Nat.eq_of_beq_eq_true hc.1
            subst this
            refine does_conv_bytes_ref H ho h1 he h2 h3 hg ?_
            have hR := (H.rt _ _ (gw_some hg).1).n
            simp only [vlo, vln, List.drop_zero]
            rw [List.take_of_length_le (by omega)]
            exact hp.1
          · cases hs
        · cases hs
      · rename_i r wd lo n he
        split at hs
        · rename_i R hg
          split at hs
          · rename_i hc
            simp only [Bool.and_eq_true] at hc
            cases hs
            have := Nat.eq_of_beq_eq_true hc.1
            subst this
            exact does_conv_bytes_ref H ho h1 he h2 h3 hg hp.1
          · cases hs
        · cases hs
      · cases hs
    · cases hs
  · -- a map
    rename_i t ho
    split at hs
    · cases hs
      exact does_makeMap H (hfn _ (List.mem_singleton.2 rfl)) ho
    · cases hs
  · rename_i t m x y ho
    split at hs
    · rename_i r q v ht hm hx hy
      split at hs
      · rename_i R l hr
        split at hs
        · cases hs
        · rename_i hfz
          cases hs
          exact does_mapUpdate H ho ht hm hx hy hr (by simpa using hfz)
      · cases hs
    · cases hs
  · rename_i t m x ok ho
    split at hs
    · rename_i r q ht hm hx
      split at hs
      · rename_i R l hr
        cases hs
        exact does_lookup H ho ht hm hx hr
      · cases hs
    · cases hs
  · rename_i t m ho
    split at hs
    · rename_i r ht hm
      split at hs
      · rename_i R l hr
        split at hs
        · rename_i hfz
          cases hs
          exact does_range H (hfn _ (List.mem_singleton.2 rfl)) ho ht hm hr hfz
        · cases hs
      · cases hs
    · cases hs
  · rename_i it ho
    split at hs
    · rename_i r hi
      split at hs
      · rename_i R hg
        split at hs
        · rename_i l p hx
          split at hs
          · rename_i hc
            simp only [Bool.and_eq_true, Bool.not_eq_true'] at hc
            cases hs
            exact does_entry H ho hi hg hx (Nat.eq_of_beq_eq_true hc.1) hc.2
          · cases hs
        · cases hs
      · cases hs
    · cases hs
  · -- makeFunc
    rename_i f first caps ho
    split at hs
    · rename_i cs h1 h2
      cases hs
      exact does_makeFunc H ho h1 h2
    · cases hs
  · -- makeSlice
    rename_i t l c ho
    split at hs
    · rename_i ht
      split at hs
      · rename_i te k n k' m hte hl hc
        split at hs
        · rename_i hk
          simp only [Bool.and_eq_true] at hk
          cases hs
          obtain ⟨h1, h2, h3, h4, h5, _⟩ := hp
          subst h1
          exact does_make H (hfn _ (List.mem_singleton.2 rfl)) ho (kAt_look ht rfl) hte hl hc hk.1.1.1 hk.1.1.2 hk.1.2 hk.2 h2 h3 h4 h5
        · cases hs
      · cases hs
    · cases hs
  · -- slice
    rename_i t x lo hi ho
    split at hs
    · rename_i l u s hl hu hk hx
      split at hs
      · rename_i A B ps hc
        cases hs
        exact does_cut_str H ho hl hu hx hk hc hp
      · cases hs
    · rename_i l u e d hl hu hk hx
      split at hs
      · rename_i te hte
        split at hs
        · rename_i oo wd n xs
          split at hs
          · cases hs
          · rename_i hw
            split at hs
            · rename_i A B ps hc
              cases hs
              obtain ⟨h1, h2⟩ := AllP_append hp
              exact does_cut_list H ho hl hu hx hk hte (by simpa using hw) hc h1 h2.1 h2.2.1
            · cases hs
        · rename_i r wd
          split at hs
          · cases hs
          · rename_i hw
            split at hs
            · rename_i R hg
              split at hs
              · rename_i A B ps hc
                cases hs
                have := does_cut_ref H ho hl hu hx hk hte (by simpa using hw) hg (by simpa [vln] using hc) hp (qs := ps)
                simpa [vlo] using this
              · cases hs
            · cases hs
        · rename_i r wd k n
          split at hs
          · cases hs
          · rename_i hw
            split at hs
            · rename_i R hg
              split at hs
              · rename_i A B ps hc
                cases hs
                have := does_cut_ref H ho hl hu hx hk hte (by simpa using hw) hg (by simpa [vln] using hc) hp (qs := ps)
                simpa [vlo] using this
              · cases hs
            · cases hs
        · cases hs
      · cases hs
    · cases hs
  · -- fieldAddr
    rename_i s x f ho
    split at hs
    · rename_i hk
      split at hs
      · rename_i fi r wd i j hf1 hx
        split at hs
        · rename_i R hg
          split at hs
          · rename_i h0
            cases hs
            exact does_fieldAddr_ptr H ho hk rfl hf1 hx hg h0
          · cases hs
        · cases hs
      · rename_i fi wd xs i j hf1 hx
        split at hs
        · rename_i h0
          cases hs
          exact does_fieldAddr_fptr H ho hk rfl hf1 hx h0
        · cases hs
      · cases hs
    · cases hs
  · -- field
    rename_i t x f ho
    split at hs
    · rename_i hk
      split at hs
      · rename_i fi cs hf1 hx
        split at hs
        · rename_i hle
          split at hs
          · rename_i d hd
            cases hs
            exact does_field H ho hk rfl hf1 hx hle hd
          · cases hs
        · cases hs
      · cases hs
    · cases hs
  · -- indexAddr
    rename_i t x i ho
    split at hs
    · rename_i hk hx hi
      split at hs
      · rename_i te hte
        split at hs
        · rename_i oo wd n xs
          split at hs
          · rename_i hw
            cases hs
            exact does_index_list H ho (kAt_look hk rfl) hte hx hi hw hp.1 hp.2.1
          · cases hs
        · rename_i r wd
          split at hs
          · rename_i R hg
            split at hs
            · rename_i hw
              cases hs
              have := does_index_ref H ho (kAt_look hk rfl) hte hx hi hg hw hp.1 (by simpa [vln] using hp.2.1) (qs := [])
              refine Does.ps (ps := []) ?_
              simpa [vlo] using this
            · cases hs
          · cases hs
        · rename_i r wd lo n
          split at hs
          · rename_i R hg
            split at hs
            · rename_i hw
              cases hs
              have := does_index_ref H ho (kAt_look hk rfl) hte hx hi hg hw hp.1 (by simpa [vln] using hp.2.1) (qs := [])
              refine Does.ps (ps := []) ?_
              simpa [vlo] using this
            · cases hs
          · cases hs
        · cases hs
      · cases hs
    · rename_i hk hx hi
      split at hs
      · rename_i te hte
        split at hs
        · split at hs
          · rename_i hn
            cases hs
            exact does_index_arrf H ho (kAt_look hk rfl) hte hx hi hn hp.1
          · cases hs
        · split at hs
          · rename_i hn
            cases hs
            exact does_index_arr H ho (kAt_look hk rfl) hte hx hi hn hp.1 hp.2.1
          · cases hs
      · cases hs
    · rename_i hk hx hi
      split at hs
      · rename_i te R hte hg
        split at hs
        · rename_i hn
          cases hs
          exact does_index_arrp H ho (kAt_look hk rfl) hte hx hg hi hn hp.1
        · cases hs
      · cases hs
    · cases hs
  · -- index
    rename_i t x i ho
    split at hs
    · rename_i s kk k hk hx hi
      cases hs
      obtain ⟨h1, h2⟩ := AllP_append hp
      exact does_index_str H ho hk hx hi h1.1 h1.2.1 h2.1
    · rename_i hk hx hi
      split at hs
      · rename_i te hte
        split at hs
        · rename_i hb
          simp only [Bool.and_eq_true] at hb
          split at hs
          · rename_i d hd
            cases hs
            exact does_index_val H ho hk hte hx hi hb.1 hb.2 hd hp.1
          · cases hs
        · cases hs
      · cases hs
    · cases hs
  · -- extract
    rename_i t k ho
    split at hs
    · rename_i vs hx
      split at hs
      · rename_i d hd
        cases hs
        exact does_extract H ho hx hd
      · cases hs
    · cases hs
  · -- call
    rename_i c ho
    split at hs
    · rename_i f hc
      split at hs
      · rename_i k caps as hk has
        exact does_call H hf ho hc hk has hs hp
      · cases hs
    · -- len
      rename_i hc
      split at hs
      · rename_i ti x hti hx
        obtain ⟨t, ht, hlook⟩ := Option.bind_eq_some_iff.1 hti
        split at hs
        · rename_i s hk hxs
          cases hs
          exact does_len H ho hc ht hx (kAt_look hlook hk) (.inl ⟨rfl, s, hxs, rfl⟩)
        · rename_i e oo wd n xs hk hxs
          cases hs
          obtain ⟨A, cap, us, hv, _⟩ := (H.op _ _ hxs).list_inv (.inl rfl)
          exact does_len H ho hc ht hx (kAt_look hlook hk) (.inr ⟨⟨e, rfl⟩, A, cap, hv⟩)
        · rename_i e hk hxs
          cases hs
          exact does_len H ho hc ht hx (kAt_look hlook hk) (.inr ⟨⟨e, rfl⟩, none, 0, (H.op _ _ hxs).nil_inv⟩)
        · rename_i e r wd hk hxs
          split at hs
          · rename_i R hg
            cases hs
            have hR := H.rt _ _ (gw_some hg).1
            obtain ⟨_, hst, hal⟩ := (H.op _ _ hxs).ref_inv
            obtain ⟨A, cap, hv, _⟩ := hal hR.alive
            rw [vw_eq hR] at hv
            exact does_len H ho hc ht hx (kAt_look hlook hk) (.inr ⟨⟨e, rfl⟩, A, cap, hv⟩)
          · cases hs
        · rename_i e r wd lo n hk hxs
          split at hs
          · rename_i R hg
            cases hs
            have hR := H.rt _ _ (gw_some hg).1
            obtain ⟨_, hst, hal⟩ := (H.op _ _ hxs).ref_inv
            obtain ⟨A, cap, hv, _⟩ := hal hR.alive
            rw [vw_eq hR] at hv
            exact does_len H ho hc ht hx (kAt_look hlook hk) (.inr ⟨⟨e, rfl⟩, A, cap, hv⟩)
          · cases hs
        · rename_i r hk hxs
          split at hs
          · rename_i R l hr
            cases hs
            exact does_maplen H ho hc ht hx (kAt_look hlook hk) hxs hr
          · cases hs
        · cases hs
      · cases hs
    · -- append
      rename_i hc
      split at hs
      · rename_i t t' s x hts has
        split at hs
        · rename_i e _ _ _ k' hl hk'
          split at hs
          · rename_i te ds dx hte hds hdx
            have hfr : E.st nid = .fresh := by
              have hs' := hs
              unfold appD at hs'
              split at hs'
              · cases hs'
              · split at hs'
                · split at hs'
                  · cases hs'
                  · cases hs'
                    exact hfn _ (List.mem_append_right _ (List.mem_append_right _ (List.mem_singleton.2 rfl)))
                · cases hs'
            exact does_append H hfr ho hc hts has (kAt_look hl rfl) hk' hte hds hdx hs hp
          · cases hs
        · cases hs
      · cases hs
    · rename_i hc
      split at hs
      · rename_i t t' m x hts has
        split at hs
        · rename_i r q ht hm hx
          split at hs
          · rename_i R l hr
            split at hs
            · cases hs
            · rename_i hfz
              cases hs
              exact does_delete H ho hc hts has ht hm hx hr (by simpa using hfz)
          · cases hs
        · cases hs
      · cases hs
    · rename_i hc
      exact does_minmax (mn := true) H ho hc hs
    · rename_i hc
      exact does_minmax (mn := false) H ho hc hs
    · cases hs
  · cases hs

end
end Go.Proofs.Ytnfeelacifllmaa.Ab
