/- The steps of functions on plain data, part 5: no condition. -/
import Derived.Test.YtnfeelacifllmaaAb4
import Derived.Scope
import Derived.Lib.ItoaNum
import Derived.Lib.Join
import Derived.Lib.AtoiAll
set_option linter.unusedVariables false
set_option linter.unusedSimpArgs false
namespace Go.Proofs.Ytnfeelacifllmaa.Ab

def W (P : Program) (f : FuncId) (R : Ending → World → Prop) (k : List Item) (a : Act) (w : World) : Prop :=
  ∀ (b : Frame) (cs : List Frame), b.fn = f → b.kind = .normal → ∃ e w' fr, R e w' ∧ Comes P (lone (b.at a k) cs w) (lone fr cs w') e ∧ fr.fn = f ∧ fr.leaving P w' e

section
variable {P : Program} {f : FuncId} {R : Ending → World → Prop} {k k' : List Item} {a : Act} {w w' : World}

theorem W.step (h : ∀ (b : Frame) (cs : List Frame), step P (lone (b.at a k) cs w) = .next (lone (b.at a k') cs w)) (hk : W P f R k' a w) : W P f R k a w := fun b cs hf hn =>
  let ⟨e, w', fr, h1, h2, h3⟩ := hk b cs hf hn
  ⟨e, w', fr, h1, Comes.of_steps (.one (h b cs)) h2, h3⟩

theorem W.code {c : Code} (h : c.wp P (fun e a' w' => e = .normal ∧ W P f R k a' w') a w) : W P f R (.code c :: k) a w := fun b cs hf hn => by
  obtain ⟨e, a', w', ⟨rfl, hk⟩, harr⟩ := h b k cs
  obtain ⟨e, w2, fr, h1, h2, h3⟩ := hk b cs hf hn
  exact ⟨e, w2, fr, h1, Comes.of_steps harr h2, h3⟩

theorem W.ret {fn : Func} {v : Value} (hf : P.funcs[f]? = some fn) (hd : a.defers = []) (hv : (results fn a.tmps).run P w = .ok v w) (hR : R (.returned v) w) : W P f R (.code .ret :: k) a w := fun b cs hb hn =>
  ⟨.returned v, w, { b.at a (.code .ret :: k) with mode := .returning }, hR, Steps.one step_ret, hb, rfl, hd, hn, fn, by rw [show ({ b.at a (.code .ret :: k) with mode := .returning } : Frame).fn = b.fn from rfl, hb]; exact hf, hv⟩

theorem W.done {fn : Func} {v : Value} (hf : P.funcs[f]? = some fn) (hd : a.defers = []) (hv : (results fn a.tmps).run P w = .ok v w) (hR : R (.returned v) w) : W P f R [] a w := fun b cs hb hn =>
  ⟨.returned v, w, { b.at a [] with mode := .returning }, hR, Steps.one step_end, hb, rfl, hd, hn, fn, by rw [show ({ b.at a [] with mode := .returning } : Frame).fn = b.fn from rfl, hb]; exact hf, hv⟩

theorem W.calls {fn : Func} {c : Code} {vs : Array Value} (hf : P.funcs[f]? = some fn) (hb : fn.body = some c)
    (h : W P f R [.code c] { tmps := vs ++ Array.replicate (fn.ntmps - vs.size) undef, defers := [] } w) : Calls P f vs w R := fun cs => by
  have henter : Frame.enter P f vs .normal = ({ (default : Frame) with fn := f, kind := .normal } : Frame).at { tmps := vs ++ Array.replicate (fn.ntmps - vs.size) undef, defers := [] } [.code c] := by
    simp [Frame.enter, Frame.at, hf, hb]
  rw [henter]
  exact h _ cs rfl rfl
end

def Wc (X : Ctx) (f : FuncId) (M : Nat) (k : List Item) (σ : St) (res : List D) (G' : List Root) : Prop :=
  ∀ (G : List Root) (E0 : Env) (w0 : World) (a : Act) (w : World) (E : Env), G.length = M → SR X M E0 w0 σ a w E → W X.P f (Post E0 w0 G res G') k a w

section
variable {X : Ctx} {f : FuncId} {M : Nat} {k k' : List Item} {σ σ' : St} {res : List D} {G' : List Root} {E0 E : Env} {w0 w : World} {a : Act} {R : Ending → World → Prop}

theorem ev_bool (hS : SR X M E0 w0 σ a w E) {c : Operand} {t : Bool} (h : ev X σ.sl c = some (.bool t)) : a.eval c = .bool t := by
  cases c with
  | tmp n => exact (hS.sl n _ h).bool_inv
  | const v =>
    simp only [ev, Option.some.injEq] at h
    have : Rep E w .slot (.bool t) v := h ▸ .ofVal v
    exact this.bool_inv
  | global g =>
    obtain ⟨⟨_, _, _, _, h1⟩, _⟩ := hS.gl _ (glOf_mem h)
    simp only at h1
    cases h1
  | func f => simp [ev] at h

theorem ctl_ok (hS : SR X M E0 w0 σ a w E) : ∀ (n : Nat) (k : List Item), ctl X σ.sl n k = some k' → W X.P f R k' a w → W X.P f R k a w
  | 0, k, h, _ => by simp [ctl] at h
  | n + 1, k, h, hk => by
    unfold ctl at h
    split at h
    · exact .step (fun b cs => step_skip) (ctl_ok hS n _ h hk)
    · exact .step (fun b cs => step_label) (ctl_ok hS n _ h hk)
    · exact .step (fun b cs => step_inBlock) (ctl_ok hS n _ h hk)
    · exact .step (fun b cs => step_inScope) (ctl_ok hS n _ h hk)
    · exact .step (fun b cs => step_seq) (ctl_ok hS n _ h hk)
    · split at h
      · rename_i t hc
        have he := ev_bool hS hc
        cases t with
        | true => exact .step (fun b cs => step_cond (t := true) he) (ctl_ok hS n _ h hk)
        | false => exact .step (fun b cs => step_cond (t := false) he) (ctl_ok hS n _ h hk)
      · cases h
    · exact .step (fun b cs => step_block) (ctl_ok hS n _ h hk)
    · exact .step (fun b cs => step_loop) (ctl_ok hS n _ h hk)
    · exact .step (fun b cs => step_inLoop) (ctl_ok hS n _ h hk)
    · exact .step (fun b cs => step_scope) (ctl_ok hS n _ h hk)
    · split at h
      · rename_i k2 hx
        exact .step (fun b cs => step_exit hx) (ctl_ok hS n _ h hk)
      · cases h
    · cases h; exact hk
    · cases h; exact hk
    · cases h; exact hk
    · cases h

def Env.keep (E : Env) (ks : List Nat) : Env :=
  { adr := fun r => match ks[r]? with | some s => E.adr s | none => ⟨0, 0, none⟩
    len := fun r => match ks[r]? with | some s => E.len s | none => 0
    ow := fun b => match E.ow b with
      | .own r p => (match idx r 0 ks with | some s => .own s p | none => .far)
      | x => x
    st := fun r => match ks[r]? with | some s => E.st s | none => .fresh }

section
variable {ks : List Nat}

theorem keep_at {k r : Nat} (h : ks[k]? = some r) : (E.keep ks).adr k = E.adr r ∧ (E.keep ks).len k = E.len r ∧ (E.keep ks).st k = E.st r := by
  simp [Env.keep, h]

theorem keep_shp (hd : distinct ks = true) {k r N : Nat} (h : ks[k]? = some r) (hs : Shp E w r N) : Shp (E.keep ks) w k N := by
  obtain ⟨h1, h2, h3⟩ := keep_at (E := E) h
  obtain ⟨s1, s2, cs, ty, s3, s4⟩ := hs
  unfold Shp
  rw [h1, h3]
  refine ⟨s1, ?_, cs, ty, s3, s4⟩
  by_cases ho : E.st r = .own
  · rw [ho, if_pos rfl] at s2 ⊢
    simp only [Env.keep, s2, idx_of hd h]
    simp
  · rw [if_neg ho] at s2 ⊢
    simp [Env.keep, s2]

theorem keep_sp (hd : distinct ks = true) {k r : Nat} {d : D} (h : ks[k]? = some r) (hs : SpAt E w r d) : SpAt (E.keep ks) w k d := by
  obtain ⟨h1, h2, h3⟩ := keep_at (E := E) h
  have key : ∀ b, E.ow b = (if E.st r = .own then .own r [] else .fz) → (E.keep ks).ow b = (if E.st r = .own then .own k [] else .fz) := fun b hb => by
    by_cases ho : E.st r = .own
    · rw [if_pos ho] at hb ⊢
      simp [Env.keep, hb, idx_of hd h]
    · rw [if_neg ho] at hb ⊢
      simp [Env.keep, hb]
  unfold SpAt at hs ⊢
  rw [h1, h3]
  split at hs
  · obtain ⟨s1, s2, s3, es, clk, s4, s5⟩ := hs
    exact ⟨s1, s2, key _ s3, es, clk, s4, s5⟩
  · obtain ⟨s1, s2, s3, b, clk, seen, es, s4, s5, s6, s7⟩ := hs
    exact ⟨s1, s2, key _ s3, b, clk, seen, es, s4, by simp [Env.keep, s5], s6, s7⟩
  · trivial
theorem subE_spc {d : D} {s : Sp} (h : subE ks d = .spc s) : d = .spc s := by
  cases d <;> simp only [subE, sub1] at h <;> first | exact h | (split at h <;> cases h) | cases h
theorem Rep.sub1_eq {m : Md} {d : D} {v : Value} (h : Rep E w m d v) (hm : m = .fz ∨ ∃ r p, m = .own r p) : sub1 ks d = d := by
  cases h with
  | undef m v h => rcases hm with rfl | ⟨_, _, rfl⟩ <;> rcases h with h | ⟨_, _, h⟩ <;> cases h
  | anyb => rcases hm with hm | ⟨_, _, hm⟩ <;> cases hm
  | fn => rcases hm with hm | ⟨_, _, hm⟩ <;> cases hm
  | agg => rcases hm with hm | ⟨_, _, hm⟩ <;> cases hm
  | tup => rcases hm with hm | ⟨_, _, hm⟩ <;> cases hm
  | ref m r wd vw v h' hs h => rcases hm with rfl | ⟨_, _, rfl⟩ <;> rcases h' with h | ⟨_, _, h⟩ <;> cases h
  | ptr m r wd i j v h' hs h => rcases hm with rfl | ⟨_, _, rfl⟩ <;> rcases h' with h | ⟨_, _, h⟩ <;> cases h
  | mref m r v h' hs h => rcases hm with rfl | ⟨_, _, rfl⟩ <;> rcases h' with h | ⟨_, _, h⟩ <;> cases h
  | _ => rfl

def KM (ks : List Nat) (m m' : Md) : Prop := (m = .slot ∧ m' = .slot) ∨ (m = .fz ∧ m' = .fz) ∨ (∃ r k p, ks[k]? = some r ∧ m = .own r p ∧ m' = .own k p) ∨ ∃ r k p, ks[k]? = some r ∧ m = .box r p ∧ m' = .box k p

theorem KM.sb {m m' : Md} (h : KM ks m m') (hm : m = .slot ∨ ∃ r p, m = .box r p) : m' = .slot ∨ ∃ r p, m' = .box r p := by
  rcases h with ⟨_, h⟩ | ⟨rfl, _⟩ | ⟨_, _, _, _, rfl, _⟩ | ⟨_, _, _, _, _, h⟩
  · exact .inl h
  · rcases hm with h | ⟨_, _, h⟩ <;> cases h
  · rcases hm with h | ⟨_, _, h⟩ <;> cases h
  · exact .inr ⟨_, _, h⟩

theorem Rep.kept (hd : distinct ks = true) {m : Md} {d : D} {v : Value} (h : Rep E w m d v) : ∀ {m' : Md}, KM ks m m' → Rep (E.keep ks) w m' (sub1 ks d) v := by
  induction h with
  | int m k n => intro m' _; exact .int _ _ _
  | bool m b => intro m' _; exact .bool _ _
  | ifc m b v hv => intro m' _; exact .ifc _ _ _ hv
  | str m s => intro m' _; exact .str _ _
  | nil m => intro m' _; exact .nil _
  | undef m v h => intro m' hm; exact .undef _ _ (hm.sb h)
  | hid m v h1 h2 h => intro m' hm; exact .hid _ _ h1 h2 (hm.sb h)
  | anyb b => intro m' hm; exact .undef _ _ (hm.sb (.inl rfl))
  | fn f caps vs hl h ih => intro m' hm; exact .undef _ _ (hm.sb (.inl rfl))
  | agg cs vs hl h ih => intro m' hm; exact .undef _ _ (hm.sb (.inl rfl))
  | tup cs vs hl h ih => intro m' hm; exact .undef _ _ (hm.sb (.inl rfl))
  | flist m o wd n xs A cap us hm' hn hc hw ha h ih =>
    intro m' hm
    refine .flist _ _ _ _ _ _ _ us ?_ hn hc hw (fun h0 => ?_) (fun i j x c hx hj => ?_)
    · rcases hm with ⟨_, rfl⟩ | ⟨_, rfl⟩ | ⟨_, _, _, _, rfl, _⟩ | ⟨_, _, _, _, rfl, _⟩
      · exact .inl rfl
      · exact .inr (.inl rfl)
      · rcases hm' with h | h | h
        · cases h
        · cases h
        · exact .inr (.inr h)
      · rcases hm' with h | h | h
        · cases h
        · cases h
        · exact .inr (.inr h)
    · obtain ⟨b, hb, h1, h2, h3⟩ := ha h0
      exact ⟨b, hb, by simp [Env.keep, h1], h2, h3⟩
    · have := ih i j x c hx hj (m' := .fz) (.inr (.inl ⟨rfl, rfl⟩))
      rwa [(h i j x c hx hj).sub1_eq (.inl rfl)] at this
  | olist m r p wd n xs A cap us hm' hn hc hw ha h ih =>
    intro m' hm
    have key : ∃ k, ks[k]? = some r ∧ (m' = .own k p ∨ m' = .box k p) := by
      rcases hm with ⟨rfl, _⟩ | ⟨rfl, _⟩ | ⟨r0, k, p0, hk, rfl, rfl⟩ | ⟨r0, k, p0, hk, rfl, rfl⟩
      · rcases hm' with h | h <;> cases h
      · rcases hm' with h | h <;> cases h
      · rcases hm' with h | h <;> cases h
        exact ⟨k, hk, .inl rfl⟩
      · rcases hm' with h | h <;> cases h
        exact ⟨k, hk, .inr rfl⟩
    obtain ⟨k, hk, hm2⟩ := key
    refine .olist _ k p _ _ _ _ _ us hm2 hn hc hw (fun h0 => ?_) (fun i j x c hx hj => ?_)
    · obtain ⟨a, cs, ty, rfl, hsp, ho, hh, hz, hcell⟩ := ha h0
      exact ⟨a, cs, ty, rfl, hsp, by simp [Env.keep, ho, idx_of hd hk], hh, hz, hcell⟩
    · have := ih i j x c hx hj (m' := .own k (p ++ [(i, j)])) (.inr (.inr (.inl ⟨r, k, _, hk, rfl, rfl⟩)))
      rwa [(h i j x c hx hj).sub1_eq (.inr ⟨_, _, rfl⟩)] at this
  | ref m r wd vw v h' hs h =>
    intro m' hm
    simp only [sub1]
    split
    · rename_i k hk
      obtain ⟨i, rfl, hi⟩ := idx_some hk
      rw [Nat.zero_add]
      obtain ⟨h1, h2, h3⟩ := keep_at (E := E) hi
      refine .ref _ _ _ _ _ (hm.sb h') (by rw [h3]; exact hs) fun hal => ?_
      have hal' : Alive E r := by unfold Alive at *; rw [h3] at hal; exact hal
      obtain ⟨A, cap, rfl, hcap, hlen, hA⟩ := h hal'
      have hv : Vw (E.keep ks) i vw = Vw E r vw := by cases vw <;> simp [Vw, h2]
      rw [hv, h1, h2]
      exact ⟨A, cap, rfl, hcap, hlen, fun h0 => ⟨(hA h0).1, keep_shp hd hi (hA h0).2⟩⟩
    · exact .undef _ _ (hm.sb h')
  | ptr m r wd i j v h' hs h =>
    intro m' hm
    simp only [sub1]
    split
    · rename_i k hk
      obtain ⟨i', rfl, hi⟩ := idx_some hk
      rw [Nat.zero_add]
      obtain ⟨h1, h2, h3⟩ := keep_at (E := E) hi
      refine .ptr _ _ _ _ _ _ (hm.sb h') (by rw [h3]; exact hs) fun hal => ?_
      have hal' : Alive E r := by unfold Alive at *; rw [h3] at hal; exact hal
      rw [h1]
      exact h hal'
    · exact .undef _ _ (hm.sb h')
  | fptr m wd xs i j a us h' hw ha h ih =>
    intro m' hm
    obtain ⟨h1, h2, h3⟩ := ha
    refine .fptr _ _ _ _ _ _ us (hm.sb h') hw ⟨by simp [Env.keep, h1], h2, h3⟩ (fun i j x c hx hj => ?_)
    have := ih i j x c hx hj (m' := .fz) (.inr (.inl ⟨rfl, rfl⟩))
    rwa [(h i j x c hx hj).sub1_eq (.inl rfl)] at this
  | mref m r v h' hs h =>
    intro m' hm
    simp only [sub1]
    split
    · rename_i k hk
      obtain ⟨i', rfl, hi⟩ := idx_some hk
      rw [Nat.zero_add]
      obtain ⟨h1, h2, h3⟩ := keep_at (E := E) hi
      refine .mref _ _ _ (hm.sb h') (by rw [h3]; exact hs) fun hal => ?_
      have hal' : Alive E r := by unfold Alive at *; rw [h3] at hal; exact hal
      rw [h1]
      exact h hal'
    · exact .undef _ _ (hm.sb h')
  | fomap m l b es clk h' ho hh hf =>
    intro m' hm
    refine .fomap _ _ _ es clk ?_ (by simp [Env.keep, ho]) hh hf
    rcases hm with ⟨rfl, rfl⟩ | ⟨rfl, rfl⟩ | ⟨_, _, _, _, rfl, _⟩ | ⟨_, _, _, _, rfl, _⟩
    · exact .inl rfl
    · exact .inr rfl
    · rcases h' with h | h <;> cases h
    · rcases h' with h | h <;> cases h
  | foptr m wd xs a us h' hw ha h ih =>
    intro m' hm
    refine .foptr _ _ _ _ us ?_ hw ⟨by simp [Env.keep, ha.1], ha.2⟩ (fun i j x c hx hj => ?_)
    · rcases hm with ⟨rfl, rfl⟩ | ⟨rfl, rfl⟩ | ⟨_, _, _, _, rfl, _⟩ | ⟨_, _, _, _, rfl, _⟩
      · exact .inl rfl
      · exact .inr rfl
      · rcases h' with h | h <;> cases h
      · rcases h' with h | h <;> cases h
    · have := ih i j x c hx hj (m' := .fz) (.inr (.inl ⟨rfl, rfl⟩))
      rwa [(h i j x c hx hj).sub1_eq (.inl rfl)] at this
  | omap m r p l b es clk hm' ho hh hf =>
    intro m' hm
    have key : ∃ k, ks[k]? = some r ∧ (m' = .own k p ∨ m' = .box k p) := by
      rcases hm with ⟨rfl, _⟩ | ⟨rfl, _⟩ | ⟨r0, k, p0, hk, rfl, rfl⟩ | ⟨r0, k, p0, hk, rfl, rfl⟩
      · rcases hm' with h | h <;> cases h
      · rcases hm' with h | h <;> cases h
      · rcases hm' with h | h <;> cases h
        exact ⟨k, hk, .inl rfl⟩
      · rcases hm' with h | h <;> cases h
        exact ⟨k, hk, .inr rfl⟩
    obtain ⟨k, hk, hm2⟩ := key
    exact .omap _ k p _ _ es clk hm2 (by simp [Env.keep, ho, idx_of hd hk]) hh hf
  | optr m r p wd xs a us hm' hn hw ha h ih =>
    intro m' hm
    have key : ∃ k, ks[k]? = some r ∧ (m' = .own k p ∨ m' = .box k p) := by
      rcases hm with ⟨rfl, _⟩ | ⟨rfl, _⟩ | ⟨r0, k, p0, hk, rfl, rfl⟩ | ⟨r0, k, p0, hk, rfl, rfl⟩
      · rcases hm' with h | h <;> cases h
      · rcases hm' with h | h <;> cases h
      · rcases hm' with h | h <;> cases h
        exact ⟨k, hk, .inl rfl⟩
      · rcases hm' with h | h <;> cases h
        exact ⟨k, hk, .inr rfl⟩
    obtain ⟨k, hk, hm2⟩ := key
    obtain ⟨cs, ty, hsp, ho, hh, hz, hcell⟩ := ha
    refine .optr _ k p _ _ _ us hm2 hn hw ⟨cs, ty, hsp, by simp [Env.keep, ho, idx_of hd hk], hh, hz, hcell⟩ (fun i j x c hx hj => ?_)
    have := ih i j x c hx hj (m' := .own k (p ++ [(i, j)])) (.inr (.inr (.inl ⟨r, k, _, hk, rfl, rfl⟩)))
    rwa [(h i j x c hx hj).sub1_eq (.inr ⟨_, _, rfl⟩)] at this

theorem Rep.keptS (hd : distinct ks = true) {d : D} {v : Value} (h : Rep E w .slot d v) : Rep (E.keep ks) w .slot (sub ks d) v := by
  have hk := h.kept hd (m' := .slot) (.inl ⟨rfl, rfl⟩)
  cases d <;> try exact hk
  · obtain ⟨vs, rfl, hl, hr⟩ := h.agg_inv
    refine .agg _ _ (by simp [hl]) fun i c u hc hu => ?_
    rw [List.getElem?_map, Option.map_eq_some_iff] at hc
    obtain ⟨c0, hc0, rfl⟩ := hc
    exact (hr i c0 u hc0 hu).kept hd (.inl ⟨rfl, rfl⟩)
  · cases h with
    | fn f caps vs hl hr =>
      refine .fn _ _ _ (by simp [hl]) fun i c u hc hu => ?_
      rw [List.getElem?_map, Option.map_eq_some_iff] at hc
      obtain ⟨c0, hc0, rfl⟩ := hc
      exact (hr i c0 u hc0 hu).kept hd (.inl ⟨rfl, rfl⟩)

theorem sub1_cells (d : D) (hs : ∀ s, d ≠ .spc s) : (sub1 ks d).cells = [sub1 ks d] := by
  cases d <;> simp only [sub1] <;> first | rfl | (split <;> rfl) | exact absurd rfl (hs _)

theorem subE_cells (d : D) : (subE ks d).cells = d.cells.map (sub1 ks) := by
  cases d with
  | ref r w vw => exact sub1_cells (.ref r w vw) (by simp)
  | ptr r w i j => exact sub1_cells (.ptr r w i j) (by simp)
  | mref r => exact sub1_cells (.mref r) (by simp)
  | _ => rfl

theorem RootRel.kept (hd : distinct ks = true) {k r : Nat} {R : Root} (hk : ks[k]? = some r) (h : RootRel E w r R) : RootRel (E.keep ks) w k (subR ks R) := by
  obtain ⟨h1, h2, h3⟩ := keep_at (E := E) hk
  have hc : ∀ (i j : Nat) x c, R.xs[i]? = some x → x.cells[j]? = some c → ∃ u, w.cell? ((E.adr r).add (i * R.w + j)) = some u ∧ Rep (E.keep ks) w (R.md k i j) (sub1 ks c) u ∧ (R.box = false → sub1 ks c = c) := fun i j x c hx hj => by
    obtain ⟨u, hu, hr⟩ := h.cell i j x c hx hj
    refine ⟨u, hu, hr.kept hd ?_, fun hb => hr.sub1_eq ?_⟩
    · unfold Root.md
      split
      · exact .inr (.inl ⟨rfl, rfl⟩)
      · split
        · exact .inr (.inr (.inr ⟨r, k, _, hk, rfl, rfl⟩))
        · exact .inr (.inr (.inl ⟨r, k, _, hk, rfl, rfl⟩))
    · unfold Root.md
      split
      · exact .inl rfl
      · rw [hb]
        exact .inr ⟨_, _, rfl⟩
  unfold subR
  split
  · rename_i hb
    refine ⟨by rw [h3]; exact h.st, by rw [h2]; exact h.len, by simp [h.n], fun x hx => ?_, h.nobox, fun h0 h1 => keep_shp hd hk (h.shp h0 h1), fun h0 d' hd' => ?_, fun i j x c hx hj => ?_⟩
    · simp only [List.mem_map] at hx
      obtain ⟨y, hy, rfl⟩ := hx
      rw [subE_cells, List.length_map]
      exact h.wd y hy
    · by_cases hs : ∃ s, d' = .spc s
      · obtain ⟨s, rfl⟩ := hs
        obtain ⟨y, l, e1, e2, e3⟩ := List.map_eq_cons_iff.1 hd'
        have e4 := subE_spc e2
        subst e4
        have e5 : l = [] := by simpa using e3
        subst e5
        exact keep_sp hd hk (h.sp h0 _ e1)
      · exact .of_no fun s e => hs ⟨s, e⟩
    · simp only [List.getElem?_map, Option.map_eq_some_iff] at hx
      obtain ⟨y, hy, rfl⟩ := hx
      rw [subE_cells, List.getElem?_map, Option.map_eq_some_iff] at hj
      obtain ⟨c0, hc0, rfl⟩ := hj
      obtain ⟨u, hu, hr, _⟩ := hc i j y c0 hy hc0
      exact ⟨u, by rw [h1]; exact hu, hr⟩
  · rename_i hb
    refine ⟨by rw [h3]; exact h.st, by rw [h2]; exact h.len, h.n, h.wd, h.nobox, fun h0 h1 => keep_shp hd hk (h.shp h0 h1), fun h0 d hd' => keep_sp hd hk (h.sp h0 d hd'), fun i j x c hx hj => ?_⟩
    obtain ⟨u, hu, hr, he⟩ := hc i j x c hx hj
    rw [he (by simpa using hb)] at hr
    exact ⟨u, by rw [h1]; exact hu, hr⟩

theorem slots_get {live : List Nat} : ∀ {ds : List D} {b t : Nat} {x : D}, (slots ks live b ds)[t]? = some x → x = .undef ∨ ∃ d, ds[t]? = some d ∧ x = sub ks d
  | [], b, t, x, h => by simp [slots] at h
  | d :: ds, b, t, x, h => by
    cases t with
    | zero =>
      simp only [slots, List.getElem?_cons_zero, Option.some.injEq] at h
      split at h
      · exact .inr ⟨d, rfl, h.symm⟩
      · exact .inl h.symm
    | succ t =>
      simp only [slots, List.getElem?_cons_succ] at h
      have := slots_get (ds := ds) h
      simpa using this

theorem slots_len {live : List Nat} : ∀ (ds : List D) (b : Nat), (slots ks live b ds).length = ds.length
  | [], _ => rfl
  | d :: ds, b => by simp [slots, slots_len ds]

theorem getR_map {α : Type} (F : α → Option Root) : ∀ (l : List α) (k : Nat), getR (l.map F) k = (l[k]?).bind F
  | [], k => by simp [getR]
  | x :: l, 0 => by simp [getR]
  | x :: l, k + 1 => by simp [getR, getR_map F l k]

theorem canon_ok {live : List Nat} (h : canon M ks live σ = some σ') (hS : SR X M E0 w0 σ a w E) : SR X M E0 w0 σ' a w (E.keep ks) := by
  unfold canon at h
  split at h
  · rename_i hc
    simp only [Bool.and_eq_true] at hc
    obtain ⟨hc, hd⟩ := hc
    have hc : ks.take M = List.range M := by simpa using hc
    have hlow : ∀ r, r < M → ks[r]? = some r := fun r hr => by
      have h1 : (ks.take M)[r]? = some r := by rw [hc]; simp [hr]
      rwa [List.getElem?_take, if_pos hr] at h1
    cases h
    refine ⟨⟨hS.frm.sz, hS.frm.os, hS.frm.tape, hS.frm.output, fun b hb ho => ?_, fun b hb ho => ?_, fun r hr => ?_, hS.frm.shape, fun r hr hst => ?_⟩, fun r hr => ?_, fun x hx => ?_, hS.df, by simp only [slots_len]; exact hS.sz, fun t x hx => ?_, fun r R hR => ?_, fun r hr => ?_⟩
    · obtain ⟨h1, h2⟩ := hS.frm.fz b hb ho
      exact ⟨h1, by simp [Env.keep, h2]⟩
    · obtain ⟨h1, h2⟩ := hS.frm.far b hb ho
      exact ⟨h1, by simp [Env.keep, h2]⟩
    · rw [(keep_at (E := E) (hlow r hr)).1]
      exact hS.frm.adr r hr
    · rw [(keep_at (E := E) (hlow r hr)).2.2] at hst
      obtain ⟨h1, h2⟩ := hS.frm.shp r hr hst
      exact ⟨h1, fun N hN => keep_shp hd (hlow r hr) (h2 N hN)⟩
    · rw [(keep_at (E := E) (hlow r hr)).2.2]
      exact hS.low r hr
    · obtain ⟨⟨wd, xs, i, j, he⟩, hr, _, hcs⟩ := hS.gl x hx
      rw [he] at hr
      have hr' := hr.kept hd (m' := .slot) (.inl ⟨rfl, rfl⟩)
      refine ⟨⟨wd, xs, i, j, he⟩, ?_, fptr_ow hr', hcs⟩
      rw [he]
      exact hr'
    · rcases slots_get hx with rfl | ⟨d, hd', rfl⟩
      · exact .undef _ _ (.inl rfl)
      · exact (hS.sl t d hd').keptS hd
    · rw [getR_map] at hR
      obtain ⟨r0, hr0, hR⟩ := Option.bind_eq_some_iff.1 hR
      obtain ⟨R0, hR0, rfl⟩ := Option.map_eq_some_iff.1 hR
      exact (hS.rt r0 R0 hR0).kept hd hr0
    · have : ks[r]? = none := List.getElem?_eq_none (by simpa using hr)
      simp [Env.keep, this]
  · cases h

def Env.mk0 (E : Env) (n : Nat) : Env := { E with len := fun k => if k = n then 0 else E.len k, st := fun k => if k = n then .own else E.st k }

theorem mk0_shp {n : Nat} (hn : E.st n = .fresh) {r N : Nat} (hr : r ≠ n) (h : Shp E w r N) : Shp (E.mk0 n) w r N := by
  obtain ⟨h1, h2, h3⟩ := h
  exact ⟨h1, by simpa [Env.mk0, hr] using h2, h3⟩

theorem mk0_mv {n : Nat} (hn : E.st n = .fresh) : Mv E w (E.mk0 n) w where
  sz := Nat.le_refl _
  fz := fun b _ ho => ⟨rfl, ho⟩
  st := fun r hr => by
    simp only [Env.mk0]
    split
    · simp
    · exact hr
  ref := fun r hr hal => by
    have hne : r ≠ n := fun e => hr (by rw [e]; exact hn)
    refine ⟨?_, rfl, by simp [Env.mk0, hne], fun N hN => mk0_shp hn hne hN⟩
    unfold Alive at hal ⊢
    simpa [Env.mk0, hne] using hal

theorem mk0_ext {n wd : Nat} (hn : E.st n = .fresh) : Ext E w (E.mk0 n) w [(n, some ⟨false, false, wd, 0, []⟩)] where
  sz := Nat.le_refl _
  os := rfl
  tape := rfl
  output := ⟨rfl, drw_le (Nat.le_refl _)⟩
  fz := fun b _ ho => ⟨rfl, ho⟩
  far := fun b _ ho => ⟨rfl, ho⟩
  adr := fun _ _ => rfl
  keep := fun d v hd => hd.mv (mk0_mv hn) (m' := .slot) trivial
  root := fun r R hr hR => by
    have hne : r ≠ n := fun e => hr _ (List.mem_singleton.2 rfl) e.symm
    exact hR.mv (mk0_mv hn) (by simp [Env.mk0, hne]) fun b q _ ho => ⟨rfl, ho⟩
  new := fun r R hr => by
    simp only [List.mem_singleton, Prod.mk.injEq, Option.some.injEq] at hr
    obtain ⟨rfl, rfl⟩ := hr
    exact { st := by simp [Env.mk0], len := by simp [Env.mk0], n := rfl, wd := fun x hx => (List.not_mem_nil hx).elim, nobox := fun h => (by cases h), shp := fun h => absurd h (Nat.lt_irrefl 0), sp := fun _ d hd => (by cases hd), cell := fun i j x c hx => by simp at hx }
  fresh := fun r hr hf => by
    have hne : r ≠ n := fun e => hr _ (List.mem_singleton.2 rfl) e.symm
    simpa [Env.mk0, hne] using hf
  shape := fun b cs ty hh => ⟨cs, hh, rfl⟩
  shp := fun r N h1 _ hN => mk0_shp hn (fun e => by rw [e, hn] at h1; cases h1) hN
  back := fun r hr => by
    by_cases hne : r = n
    · subst hne; exact .inl hn
    · exact .inr (by simpa [Env.mk0, hne] using hr)

theorem own_ok {t wd : Nat} (ht : σ.sl[t]? = some .nil) (hS : SR X M E0 w0 σ a w E) : SR X M E0 w0 ⟨σ.sl.set t (.ref σ.G.length wd none), putR σ.G σ.G.length (some ⟨false, false, wd, 0, []⟩)⟩ a w (E.mk0 σ.G.length) := by
  have hn : E.st σ.G.length = .fresh := hS.fresh _ (Nat.le_refl _)
  have hx := mk0_ext (w := w) (wd := wd) hn
  refine ⟨hS.frm.trans (hx.frm hS.low), fun r hr => hx.st_ne (hS.low r hr), hx.gl hS.gl, hS.df, by simpa using hS.sz, fun u d hd => ?_, fun r R hR => ?_, fun r hr => ?_⟩
  · simp only at hd
    rw [List.getElem?_set] at hd
    split at hd
    · rename_i e
      subst e
      split at hd
      · cases hd
        rw [(hS.sl t _ ht).nil_inv]
        exact .ref _ _ _ _ _ (.inl rfl) (by simp [Env.mk0]) fun _ => ⟨none, 0, by simp [Vw, Env.mk0], by simp [Vw, Env.mk0], by simp [Vw, Env.mk0], fun h => by omega⟩
      · cases hd
    · exact hx.keep _ _ (hS.sl u d hd)
  · simp only at hR
    by_cases hr : r = σ.G.length
    · subst hr
      rw [getR_putR, if_pos rfl] at hR
      exact hx.new _ _ (by rw [← hR]; exact List.mem_singleton.2 rfl)
    · rw [getR_putR, if_neg (fun e => hr e.symm)] at hR
      exact hx.root r R (fun u hu => by rw [List.mem_singleton] at hu; subst hu; exact fun e => hr e.symm) (hS.rt r R hR)
  · have hlen := putR_len σ.G σ.G.length (some (⟨false, false, wd, 0, []⟩ : Root))
    simp only at hr
    exact hx.fresh r (fun u hu => by rw [List.mem_singleton] at hu; subst hu; simp only; omega) (hS.fresh r (by omega))

theorem add_none {a : Addr} (h : a.spot = none) (n : Nat) : a.add n = ⟨a.block, a.off + n, none⟩ := by
  obtain ⟨b, o, s⟩ := a
  simp only at h
  subst h
  unfold Addr.add
  split
  · rename_i e; subst e; rfl
  · rfl

def shift (lo : Nat) : Pth → Pth
  | [] => []
  | (i, j) :: p => (i - lo, j) :: p
def Env.viewAt (E : Env) (r nid lo wd n : Nat) : Env :=
  { adr := fun k => if k = nid then (E.adr r).add (lo * wd) else E.adr k
    len := fun k => if k = nid then n else E.len k
    ow := fun b => match E.ow b with
      | .own r' p => if r' = r then .own nid (shift lo p) else .own r' p
      | x => x
    st := fun k => if k = nid then .own else if k = r then .dead else E.st k }

section
variable {r nid n lo wd : Nat} {R : Root}

theorem view_shp (hn : E.st nid = .fresh) {k N : Nat} (hk : k ≠ r) (hk' : k ≠ nid) (h : Shp E w k N) : Shp (E.viewAt r nid lo wd n) w k N := by
  obtain ⟨h1, h2, cs, ty, h3, h4⟩ := h
  unfold Shp
  simp only [Env.viewAt, if_neg hk, if_neg hk']
  refine ⟨h1, ?_, cs, ty, h3, h4⟩
  rw [h2]
  by_cases ho : E.st k = .own
  · simp [ho, hk]
  · simp [ho]

theorem view_mv (hn : E.st nid = .fresh) (hr : E.st r = .own) : Mv E w (E.viewAt r nid lo wd n) w where
  sz := Nat.le_refl _
  fz := fun b _ ho => ⟨rfl, by simp [Env.viewAt, ho]⟩
  st := fun k hk => by
    simp only [Env.viewAt]
    split
    · simp
    · split
      · simp
      · exact hk
  ref := fun k hk hal => by
    have hne : k ≠ nid := fun e => hk (by rw [e]; exact hn)
    have hner : k ≠ r := fun e => by
      unfold Alive at hal
      simp [Env.viewAt, e, show r ≠ nid from fun e' => by rw [e', hn] at hr; cases hr] at hal
    refine ⟨?_, by simp [Env.viewAt, hne], by simp [Env.viewAt, hne], fun N hN => view_shp hn hner hne hN⟩
    unfold Alive at hal ⊢
    simpa [Env.viewAt, hne, hner] using hal

theorem w0_of {a b : Nat} (h : Nat.beq a b = true ∧ Nat.blt 0 b = true) : 0 < a := by
  obtain ⟨h1, h2⟩ := h
  have := Nat.eq_of_beq_eq_true h1
  simp only [Nat.blt, Nat.ble_eq] at h2
  omega
theorem view_ext (hn : E.st nid = .fresh) (h : RootRel E w r R) (hf : R.fz = false) (hb : R.box = false) (hw0 : 0 < R.w) (hlo : lo + n ≤ R.n) :
    Ext E w (E.viewAt r nid lo R.w n) w [(r, none), (nid, some ⟨false, false, R.w, n, (R.xs.drop lo).take n⟩)] := by
  have hr : E.st r = .own := by rw [h.st, hf]; rfl
  have hne : r ≠ nid := fun e => by rw [e, hn] at hr; cases hr
  have hmv := view_mv (w := w) (lo := lo) (wd := R.w) (n := n) hn hr
  have hlen : ((R.xs.drop lo).take n).length = n := by simp [h.n]; omega
  refine
    { sz := Nat.le_refl _, os := rfl, tape := rfl, output := ⟨rfl, drw_le (Nat.le_refl _)⟩
      fz := fun b _ ho => ⟨rfl, by simp [Env.viewAt, ho]⟩
      far := fun b _ ho => ⟨rfl, by simp [Env.viewAt, ho]⟩
      adr := fun k hk => by simp [Env.viewAt, show k ≠ nid from fun e => hk (by rw [e]; exact hn)]
      keep := fun d v hd => hd.mv hmv (m' := .slot) trivial
      root := fun k K hk hK => ?_
      new := fun k K hk => ?_
      fresh := fun k hk hs => ?_
      shape := fun b cs ty hh => ⟨cs, hh, rfl⟩
      shp := fun k N h1 h2 hN => ?_
      back := fun k hk => ?_ }
  · have h1 : k ≠ r := fun e => hk _ (List.mem_cons_self ..) e.symm
    have h2 : k ≠ nid := fun e => hk _ (List.mem_cons_of_mem _ (List.mem_singleton.2 rfl)) e.symm
    exact hK.mv hmv (by simp [Env.viewAt, h1, h2]) fun b q _ ho => ⟨rfl, by simp [Env.viewAt, ho, h1]⟩
  · simp only [List.mem_cons, Prod.mk.injEq, List.not_mem_nil, or_false] at hk
    rcases hk with ⟨_, hk⟩ | ⟨rfl, hk⟩
    · cases hk
    · cases hk
      refine ⟨by simp [Env.viewAt], by simp [Env.viewAt], hlen, fun x hx => h.wd x (List.mem_of_mem_drop (List.mem_of_mem_take hx)), fun h => (by cases h), fun h0 _ => ?_, fun h => absurd h (Nat.ne_of_gt hw0), fun i j x c hx hc => ?_⟩
      · obtain ⟨s1, s2, cs, ty, s3, s4⟩ := h.shp (show 0 < R.n by simp only at h0; omega) hw0
        rw [hr, if_pos rfl] at s2
        have hadd : (E.adr r).add (lo * R.w) = ⟨(E.adr r).block, (E.adr r).off + lo * R.w, none⟩ := add_none s1 _
        refine ⟨by simp [Env.viewAt, hadd], by simp [Env.viewAt, hadd, s2, shift], cs, ty, by simp [Env.viewAt, hadd, s3], ?_⟩
        simp only [Env.viewAt, if_true, hadd]
        have : lo * R.w + n * R.w ≤ R.n * R.w := by rw [← Nat.add_mul]; exact Nat.mul_le_mul_right _ hlo
        omega
      · obtain ⟨h1, _⟩ := take_drop_get hx
        obtain ⟨u, hu, hrep⟩ := h.cell (lo + i) j x c h1 hc
        refine ⟨u, ?_, ?_⟩
        · simp only [Env.viewAt, if_true]
          rw [add_add, show lo * R.w + (i * R.w + j) = (lo + i) * R.w + j by rw [Nat.add_mul]; omega]
          exact hu
        · have e1 : R.md r (lo + i) j = .own r [(lo + i, j)] := by simp [Root.md, hf, hb]
          rw [e1] at hrep
          exact hrep.mv hmv (m' := .own k [(i, j)]) fun b q _ ho => ⟨rfl, by simp [Env.viewAt, ho, shift]⟩
  · have h1 : k ≠ r := fun e => hk _ (List.mem_cons_self ..) e.symm
    have h2 : k ≠ nid := fun e => hk _ (List.mem_cons_of_mem _ (List.mem_singleton.2 rfl)) e.symm
    simpa [Env.viewAt, h1, h2] using hs
  · have hk1 : k ≠ nid := fun e => by rw [e, hn] at h1; cases h1
    have hk2 : k ≠ r := fun e => by subst e; simp [Env.viewAt, hne] at h2
    exact view_shp hn hk2 hk1 hN
  · simp only [Env.viewAt] at hk
    split at hk
    · rename_i e; rw [e]; exact .inl hn
    · split at hk
      · cases hk
      · exact .inr hk
end

theorem view_ref {m : Md} {r nid lo n wd cap : Nat} {A : Option Addr} (hm : m = .slot ∨ ∃ r' p', m = .box r' p') (hrs : E.st r = .own) (hcap : n ≤ cap) (hA : 0 < cap → A = some ((E.adr r).add (lo * wd)) ∧ Shp E w r ((lo + cap) * wd)) :
    Rep (E.viewAt r nid lo wd n) w m (.ref nid wd none) (.slice A n cap) := by
  refine .ref _ _ _ _ _ hm (by simp [Env.viewAt]) fun _ => ⟨A, cap, by simp [Vw, Env.viewAt], by simp [Vw, Env.viewAt]; exact hcap, by simp [Vw, Env.viewAt], fun h0 => ?_⟩
  obtain ⟨hA1, s1, s2, cs, ty, s3, s4⟩ := hA h0
  rw [hrs, if_pos rfl] at s2
  have hadd : (E.adr r).add (lo * wd) = ⟨(E.adr r).block, (E.adr r).off + lo * wd, none⟩ := add_none s1 _
  refine ⟨by rw [hA1]; simp [Vw, Env.viewAt, hadd, Addr.add], by simp [Env.viewAt, hadd], by simp [Env.viewAt, hadd, s2, shift], cs, ty, by simp [Env.viewAt, hadd, s3], ?_⟩
  simp only [Env.viewAt, Vw, if_true, hadd, Nat.zero_add]
  rw [Nat.add_mul] at s4
  omega

theorem view_ok {t r wd lo n : Nat} {vw : Option (Nat × Nat)} {R : Root} (ht : σ.sl[t]? = some (.ref r wd vw)) (hvw : vw = some (lo, n) ∨ vw = none ∧ lo = 0 ∧ n = R.n) (hR : getR σ.G r = some R) (hf : R.fz = false) (hb : R.box = false) (hw : R.w = wd) (hw0 : 0 < R.w) (hS : SR X M E0 w0 σ a w E) :
    SR X M E0 w0 ⟨σ.sl.set t (.ref σ.G.length wd none), putR (putR σ.G r none) σ.G.length (some ⟨false, false, wd, n, (R.xs.drop lo).take n⟩)⟩ a w (E.viewAt r σ.G.length lo wd n) := by
  subst hw
  have hn : E.st σ.G.length = .fresh := hS.fresh _ (Nat.le_refl _)
  have hrt := hS.rt r R hR
  have hrs : E.st r = .own := by rw [hrt.st, hf]; rfl
  have hne : r ≠ σ.G.length := fun e => by rw [e, hn] at hrs; cases hrs
  obtain ⟨_, _, hal⟩ := (hS.sl t _ ht).ref_inv
  obtain ⟨A, cap, hv, hcap, hlen, hA⟩ := hal (.inl hrs)
  have hl : E.len r = R.n := hrt.len
  have hVw : Vw E r vw = (lo, n) := by
    rcases hvw with rfl | ⟨rfl, rfl, rfl⟩
    · rfl
    · simp [Vw, hl]
  simp only [hVw] at hv hcap hlen hA
  rw [hl] at hlen
  have hx := view_ext (lo := lo) (n := n) hn hrt hf hb hw0 hlen
  refine ⟨hS.frm.trans (hx.frm hS.low), fun k hk => hx.st_ne (hS.low k hk), hx.gl hS.gl, hS.df, by simpa using hS.sz, fun u d hd => ?_, fun k K hK => ?_, fun k hk => ?_⟩
  · simp only at hd
    rw [List.getElem?_set] at hd
    split at hd
    · rename_i e
      subst e
      split at hd
      · cases hd
        rw [hv]
        exact view_ref (.inl rfl) hrs hcap hA
      · cases hd
    · exact hx.keep _ _ (hS.sl u d hd)
  · simp only at hK
    rw [getR_putR] at hK
    split at hK
    · rename_i e
      subst e
      exact hx.new _ _ (by rw [← hK]; exact List.mem_cons_of_mem _ (List.mem_singleton.2 rfl))
    · rename_i hk1
      rw [getR_putR] at hK
      split at hK
      · cases hK
      · rename_i hk2
        refine hx.root k K (fun u hu => ?_) (hS.rt k K hK)
        simp only [List.mem_cons, List.not_mem_nil, or_false] at hu
        rcases hu with rfl | rfl
        · exact hk2
        · exact hk1
  · simp only at hk
    have h1 := putR_len (putR σ.G r none) σ.G.length (some (⟨false, false, R.w, n, (R.xs.drop lo).take n⟩ : Root))
    have h2 := putR_len σ.G r none
    refine hx.fresh k (fun u hu => ?_) (hS.fresh k (by omega))
    simp only [List.mem_cons, List.not_mem_nil, or_false] at hu
    rcases hu with rfl | rfl
    · simp only; omega
    · simp only; omega

theorem viewb_ok {b j r wd lo n : Nat} {ds : List D} {R Rb : Root} (hB : getR σ.G b = some Rb) (hds : Rb.xs = [.agg ds]) (hj : ds[j]? = some (.ref r wd (some (lo, n)))) (hbf : Rb.fz = false) (hbb : Rb.box = true) (hR : getR σ.G r = some R) (hf : R.fz = false) (hb : R.box = false) (hw : R.w = wd) (hw0 : 0 < R.w) (hS : SR X M E0 w0 σ a w E) :
    SR X M E0 w0 ⟨σ.sl, putR (putR (putR σ.G r none) σ.G.length (some ⟨false, false, wd, n, (R.xs.drop lo).take n⟩)) b (some { Rb with xs := [.agg (ds.set j (.ref σ.G.length wd none))] })⟩ a w (E.viewAt r σ.G.length lo wd n) := by
  subst hw
  have hn : E.st σ.G.length = .fresh := hS.fresh _ (Nat.le_refl _)
  have hrt := hS.rt r R hR
  have hbt := hS.rt b Rb hB
  have hrs : E.st r = .own := by rw [hrt.st, hf]; rfl
  have hne : r ≠ σ.G.length := fun e => by rw [e, hn] at hrs; cases hrs
  have hbs : E.st b = .own := by rw [hbt.st, hbf]; rfl
  have hbn : b ≠ σ.G.length := fun e => by rw [e, hn] at hbs; cases hbs
  have hbr : b ≠ r := fun e => by
    subst e
    rw [hB] at hR
    cases hR
    rw [hbb] at hb
    cases hb
  obtain ⟨u, hu, hrep⟩ := hbt.cell 0 j (.agg ds) _ (by rw [hds]; rfl) hj
  obtain ⟨_, _, hal⟩ := hrep.ref_inv
  obtain ⟨A, cap, hv, hcap, hlen, hA⟩ := hal (.inl hrs)
  have hl : E.len r = R.n := hrt.len
  simp only [Vw] at hv hcap hlen hA
  rw [hl] at hlen
  have hx := view_ext (lo := lo) (n := n) hn hrt hf hb hw0 hlen
  have hbt2 : RootRel (E.viewAt r σ.G.length lo R.w n) w b Rb := hx.root b Rb (fun u hu => by
    simp only [List.mem_cons, List.not_mem_nil, or_false] at hu
    rcases hu with rfl | rfl
    · exact fun e => hbr e.symm
    · exact fun e => hbn e.symm) hbt
  refine ⟨hS.frm.trans (hx.frm hS.low), fun k hk => hx.st_ne (hS.low k hk), hx.gl hS.gl, hS.df, hS.sz, fun u d hd => hx.keep _ _ (hS.sl u d hd), fun k K hK => ?_, fun k hk => ?_⟩
  · simp only at hK
    rw [getR_putR] at hK
    split at hK
    · rename_i e
      subst e
      cases hK
      refine ⟨hbt2.st, hbt2.len, by rw [← hbt2.n, hds]; rfl, fun x hx => ?_, hbt2.nobox, hbt2.shp, fun _ d hd => .of_no fun s e => (by simp only [List.cons.injEq, and_true] at hd; rw [← hd] at e; cases e), fun i' j' x c hx hc => ?_⟩
      · have := hbt2.wd (.agg ds) (by rw [hds]; exact List.mem_singleton.2 rfl)
        rw [List.mem_singleton.1 hx]
        simpa [D.cells] using this
      · have hi0 : i' = 0 := by
          cases i' with
          | zero => rfl
          | succ i' => simp at hx
        subst hi0
        simp only [List.getElem?_cons_zero, Option.some.injEq] at hx
        subst hx
        simp only [D.cells] at hc
        rw [List.getElem?_set] at hc
        split at hc
        · rename_i e
          subst e
          split at hc
          · cases hc
            have ha : (E.viewAt r σ.G.length lo R.w n).adr b = E.adr b := by simp [Env.viewAt, hbn]
            refine ⟨u, by rw [ha]; exact hu, ?_⟩
            rw [hv]
            exact view_ref (.inr ⟨b, [(0, j)], by simp [Root.md, hbf, hbb]⟩) hrs hcap hA
          · cases hc
        · exact hbt2.cell 0 j' (.agg ds) c (by rw [hds]; rfl) hc
    · rename_i hkb
      rw [getR_putR] at hK
      split at hK
      · rename_i e
        subst e
        exact hx.new _ _ (by rw [← hK]; exact List.mem_cons_of_mem _ (List.mem_singleton.2 rfl))
      · rename_i hk1
        rw [getR_putR] at hK
        split at hK
        · cases hK
        · rename_i hk2
          refine hx.root k K (fun u hu => ?_) (hS.rt k K hK)
          simp only [List.mem_cons, List.not_mem_nil, or_false] at hu
          rcases hu with rfl | rfl
          · exact hk2
          · exact hk1
  · simp only at hk
    have h0 := putR_len (putR (putR σ.G r none) σ.G.length (some (⟨false, false, R.w, n, (R.xs.drop lo).take n⟩ : Root))) b (some { Rb with xs := [.agg (ds.set j (.ref σ.G.length R.w none))] })
    have h1 := putR_len (putR σ.G r none) σ.G.length (some (⟨false, false, R.w, n, (R.xs.drop lo).take n⟩ : Root))
    have h2 := putR_len σ.G r none
    refine hx.fresh k (fun u hu => ?_) (hS.fresh k (by omega))
    simp only [List.mem_cons, List.not_mem_nil, or_false] at hu
    rcases hu with rfl | rfl
    · simp only; omega
    · simp only; omega

theorem frz_ok {r : Nat} {R : Root} (hR : getR σ.G r = some R) (hf : R.fz = false) (hb : R.box = false) (hS : SR X M E0 w0 σ a w E) : SR X M E0 w0 ⟨σ.sl, putR σ.G r (some { R with fz := true })⟩ a w (E.frz r) := by
  have hx := frz_ext (hS.rt r R hR) hf hb
  have hlt := getR_some hR
  refine ⟨hS.frm.trans (hx.frm hS.low), fun k hk => hx.st_ne (hS.low k hk), hx.gl hS.gl, hS.df, hS.sz, fun u d hd => hx.keep _ _ (hS.sl u d hd), fun k K hK => ?_, fun k hk => ?_⟩
  · simp only at hK
    rw [getR_putR] at hK
    split at hK
    · rename_i e
      subst e
      exact hx.new _ _ (by rw [← hK]; exact List.mem_singleton.2 rfl)
    · rename_i hk1
      exact hx.root k K (fun u hu => by rw [List.mem_singleton] at hu; subst hu; exact hk1) (hS.rt k K hK)
  · simp only at hk
    have h1 := putR_len σ.G r (some ({ R with fz := true } : Root))
    exact hx.fresh k (fun u hu => by rw [List.mem_singleton] at hu; subst hu; simp only; omega) (hS.fresh k (by omega))

theorem upd_get {r : Nat} {R : Root} : ∀ (us : List (Nat × Option Root)) (x : Option Root), upd r us x = some R → (r, some R) ∈ us ∨ (∀ u ∈ us, u.1 ≠ r) ∧ x = some R
  | [], x, h => .inr ⟨fun u hu => (by cases hu), h⟩
  | u :: us, x, h => by
    rcases upd_get us _ h with h1 | ⟨h1, h2⟩
    · exact .inl (List.mem_cons_of_mem _ h1)
    · split at h2
      · rename_i he
        refine .inl ?_
        rw [← h2, ← he]
        exact List.mem_cons_self ..
      · rename_i he
        refine .inr ⟨fun v hv => ?_, h2⟩
        rcases List.mem_cons.1 hv with rfl | hv
        · exact he
        · exact h1 v hv
theorem bm_ok {m : BM} {ps : List Prop} {us : List (Nat × Option Root)} (h : bmove (getR σ.G) σ.G.length m = some (ps, us)) (hp : AllP ps) (hS : SR X M E0 w0 σ a w E) : ∃ E', SR X M E0 w0 ⟨σ.sl, putAll σ.G us⟩ a w E' := by
  obtain ⟨E', hx, _, _⟩ := bmove_ext (E := E) (w := w) (fun r R hR => hS.rt r R hR) h hp (fun _ => hS.fresh _ (Nat.le_refl _))
  refine ⟨E', hS.frm.trans (hx.frm hS.low), fun k hk => hx.st_ne (hS.low k hk), hx.gl hS.gl, hS.df, hS.sz, fun u d hd => hx.keep _ _ (hS.sl u d hd), fun k K hK => ?_, fun k hk => ?_⟩
  · simp only at hK
    rw [getR_putAll] at hK
    rcases upd_get us _ hK with h1 | ⟨h1, h2⟩
    · exact hx.new k K h1
    · exact hx.root k K h1 (hS.rt k K h2)
  · simp only at hk
    obtain ⟨h1, h2⟩ := putAll_len us σ.G
    exact hx.fresh k (fun u hu e => by have := h2 u hu; omega) (hS.fresh k (by omega))

theorem rep_fz {r lo n cap : Nat} {R : Root} {A : Option Addr} (h : RootRel E w r R) (hf : R.fz = true) (hn : lo + n ≤ R.n) (hc : n ≤ cap) (hA : 0 < cap → A = some ((E.adr r).add (lo * R.w)) ∧ Shp E w r ((lo + cap) * R.w)) :
    Rep E w .slot (.list false R.w n ((R.xs.drop lo).take n)) (.slice A n cap) := by
  have hlen : ((R.xs.drop lo).take n).length = n := by simp [h.n]; omega
  have h0 : ∃ us : Nat → Nat → Value, ∀ (i j : Nat) x c, ((R.xs.drop lo).take n)[i]? = some x → x.cells[j]? = some c → w.cell? ((E.adr r).add ((lo + i) * R.w + j)) = some (us i j) ∧ Rep E w (R.md r (lo + i) j) c (us i j) := by
    refine ⟨fun i j => (w.cell? ((E.adr r).add ((lo + i) * R.w + j))).getD undef, fun i j x c hx hj => ?_⟩
    obtain ⟨u, hu, hr⟩ := h.cell (lo + i) j x c (take_drop_get hx).1 hj
    refine ⟨by simp [hu], ?_⟩
    simp only [hu, Option.getD_some]
    exact hr
  obtain ⟨us, hus⟩ := h0
  refine .flist _ _ _ _ _ _ _ us (.inl rfl) hlen hc (fun x hx => h.wd x (List.mem_of_mem_drop (List.mem_of_mem_take hx))) (fun h0 => ?_) (fun i j x c hx hj => ?_)
  · obtain ⟨hA1, hs1, hs2, cs, ty, hs3, _⟩ := hA (by omega)
    refine ⟨_, hA1, ?_, ?_, fun i j x c hx hj => ?_⟩
    · rw [add_block, hs2, h.st, hf]; rfl
    · rw [add_block]; exact lt_of_get hs3
    · rw [add_add, show lo * R.w + (i * R.w + j) = (lo + i) * R.w + j by rw [Nat.add_mul]; omega]
      exact (hus i j x c hx hj).1
  · have := (hus i j x c hx hj).2
    simpa [Root.md, hf] using this
theorem vfz_ok {t r wd lo n : Nat} {R : Root} (ht : σ.sl[t]? = some (.ref r wd (some (lo, n)))) (hR : getR σ.G r = some R) (hf : R.fz = true) (hw : R.w = wd) (hw0 : 0 < R.w) (hS : SR X M E0 w0 σ a w E) :
    SR X M E0 w0 ⟨σ.sl.set t (.list false wd n ((R.xs.drop lo).take n)), σ.G⟩ a w E := by
  subst hw
  have hrt := hS.rt r R hR
  have hrs : E.st r = .fz := by rw [hrt.st, hf]; rfl
  obtain ⟨_, _, hal⟩ := (hS.sl t _ ht).ref_inv
  obtain ⟨A, cap, hv, hcap, hlen, hA⟩ := hal (.inr hrs)
  have hl : E.len r = R.n := hrt.len
  simp only [Vw] at hv hcap hlen hA
  rw [hl] at hlen
  refine ⟨hS.frm, hS.low, hS.gl, hS.df, by simpa using hS.sz, fun u d hd => ?_, hS.rt, hS.fresh⟩
  simp only at hd
  rw [List.getElem?_set] at hd
  split at hd
  · rename_i e
    subst e
    split at hd
    · cases hd
      rw [hv]
      exact rep_fz hrt hf hlen hcap hA
    · cases hd
  · exact hS.sl u d hd
theorem run_ok (hm : TabOK X.P X.T) (hmix : X.P.follows .mixedOrders = true) : ∀ {cmds : List Cmd} {k : List Item} {σ : St} {ps : List Prop}, run X M cmds k σ = some (ps, k', σ') → AllP ps → Wc X f M k' σ' res G' → Wc X f M k σ res G'
  | [], k, σ, ps, h, hp, hk => by
    simp only [run] at h
    split at h
    · rename_i k2 hc
      cases h
      exact fun G E0 w0 a w E hG hS => ctl_ok hS _ _ hc (hk G E0 w0 a w E hG hS)
    · cases h
  | .stop :: cs, k, σ, ps, h, hp, hk => by
    simp only [run, Option.some.injEq, Prod.mk.injEq] at h
    obtain ⟨rfl, rfl, rfl⟩ := h
    exact hk
  | .view t n' xs' :: cs, k, σ, ps, h, hp, hk => by
    simp only [run] at h
    split at h
    · rename_i k2 r wd lo n hc ht
      split at h
      · rename_i R hR
        split at h
        · cases h
        · rename_i hfb
          simp only [Bool.or_eq_true, not_or, Bool.not_eq_true, Bool.not_eq_true', Bool.not_eq_false, Bool.and_eq_true] at hfb
          split at h
          · rename_i qs x hrun
            simp only [Option.some.injEq, Prod.mk.injEq] at h
            obtain ⟨rfl, rfl⟩ := h
            obtain ⟨⟨rfl, rfl, _⟩, hp2⟩ := AllP_append hp
            have ih := run_ok hm hmix hrun hp2 hk
            exact fun G E0 w0 a w E hG hS => ctl_ok hS _ _ hc (ih G E0 w0 a w _ hG (view_ok ht (.inl rfl) hR hfb.1.1 hfb.1.2 (Nat.eq_of_beq_eq_true hfb.2.1) (w0_of hfb.2) hS))
          · cases h
      · cases h
    · cases h
  | .vfz t n' xs' :: cs, k, σ, ps, h, hp, hk => by
    simp only [run] at h
    split at h
    · rename_i k2 r wd lo n hc ht
      split at h
      · rename_i R hR
        split at h
        · cases h
        · rename_i hfb
          simp only [Bool.or_eq_true, not_or, Bool.not_eq_true, Bool.not_eq_true', Bool.not_eq_false, Bool.and_eq_true] at hfb
          split at h
          · rename_i qs x hrun
            simp only [Option.some.injEq, Prod.mk.injEq] at h
            obtain ⟨rfl, rfl⟩ := h
            obtain ⟨⟨rfl, rfl, _⟩, hp2⟩ := AllP_append hp
            have ih := run_ok hm hmix hrun hp2 hk
            exact fun G E0 w0 a w E hG hS => ctl_ok hS _ _ hc (ih G E0 w0 a w _ hG (vfz_ok ht hR hfb.1 (Nat.eq_of_beq_eq_true hfb.2.1) (w0_of hfb.2) hS))
          · cases h
      · cases h
    · cases h
  | .whole t :: cs, k, σ, ps, h, hp, hk => by
    simp only [run] at h
    split at h
    · rename_i k2 r wd hc ht
      split at h
      · rename_i R hR
        split at h
        · cases h
        · rename_i hfb
          simp only [Bool.or_eq_true, not_or, Bool.not_eq_true, Bool.not_eq_true', Bool.not_eq_false, Bool.and_eq_true] at hfb
          split at h
          · rename_i qs x hrun
            simp only [Option.some.injEq, Prod.mk.injEq] at h
            obtain ⟨rfl, rfl⟩ := h
            have ih := run_ok hm hmix hrun hp hk
            refine fun G E0 w0 a w E hG hS => ctl_ok hS _ _ hc (ih G E0 w0 a w (E.viewAt r σ.G.length 0 wd R.n) hG ?_)
            have hv := view_ok ht (.inr ⟨rfl, rfl, rfl⟩) hR hfb.1.1 hfb.1.2 (Nat.eq_of_beq_eq_true hfb.2.1) (w0_of hfb.2) hS
            have e : (R.xs.drop 0).take R.n = R.xs := by
              rw [List.drop_zero, ← (hS.rt r R hR).n]
              exact List.take_length
            rw [e] at hv
            exact hv
          · cases h
      · cases h
    · cases h
  | .viewb b j n' xs' :: cs, k, σ, ps, h, hp, hk => by
    simp only [run] at h
    split at h
    · rename_i k2 Rb hc hB
      split at h
      · rename_i ds hds
        split at h
        · rename_i r wd lo n hj
          split at h
          · rename_i R hR
            split at h
            · cases h
            · rename_i hfb
              simp only [Bool.or_eq_true, not_or, Bool.not_eq_true, Bool.not_eq_true', Bool.not_eq_false, Bool.and_eq_true] at hfb
              split at h
              · rename_i qs x hrun
                simp only [Option.some.injEq, Prod.mk.injEq] at h
                obtain ⟨rfl, rfl⟩ := h
                obtain ⟨⟨rfl, rfl, _⟩, hp2⟩ := AllP_append hp
                have ih := run_ok hm hmix hrun hp2 hk
                exact fun G E0 w0 a w E hG hS => ctl_ok hS _ _ hc (ih G E0 w0 a w _ hG (viewb_ok hB hds hj hfb.1.2 hfb.2 hR hfb.1.1.1.1 hfb.1.1.1.2 (Nat.eq_of_beq_eq_true hfb.1.1.2.1) (w0_of hfb.1.1.2) hS))
              · cases h
          · cases h
        · cases h
      · cases h
    · cases h
  | .er r xs :: cs, k, σ, ps, h, hp, hk => by
    simp only [run] at h
    split at h
    · rename_i k2 R hc hR
      split at h
      · rename_i hf
        split at h
        · rename_i qs x hrun
          simp only [Option.some.injEq, Prod.mk.injEq] at h
          obtain ⟨rfl, rfl⟩ := h
          obtain ⟨⟨he, _⟩, hp2⟩ := AllP_append hp
          have ih := run_ok hm hmix hrun hp2 hk
          refine fun G E0 w0 a w E hG hS => ctl_ok hS _ _ hc (ih G E0 w0 a w E hG ?_)
          have hlt := getR_some hR
          refine ⟨hS.frm, hS.low, hS.gl, hS.df, hS.sz, hS.sl, fun k K hK => ?_, fun k hk => ?_⟩
          · simp only at hK
            rw [getR_putR] at hK
            split at hK
            · rename_i e
              subst e
              cases hK
              exact (hS.rt r R hR).erased hf he
            · exact hS.rt k K hK
          · simp only at hk
            have h1 := putR_len σ.G r (some ({ R with xs := xs } : Root))
            exact hS.fresh k (by omega)
        · cases h
      · cases h
    · cases h
  | .bm m :: cs, k, σ, ps, h, hp, hk => by
    simp only [run] at h
    split at h
    · rename_i k2 ps1 us hc hb
      split at h
      · rename_i qs x hrun
        simp only [Option.some.injEq, Prod.mk.injEq] at h
        obtain ⟨rfl, rfl⟩ := h
        obtain ⟨hp1, hp2⟩ := AllP_append hp
        have ih := run_ok hm hmix hrun hp2 hk
        refine fun G E0 w0 a w E hG hS => ctl_ok hS _ _ hc ?_
        obtain ⟨E', hS'⟩ := bm_ok hb hp1 hS
        exact ih G E0 w0 a w E' hG hS'
      · cases h
    · cases h
  | .frz r :: cs, k, σ, ps, h, hp, hk => by
    simp only [run] at h
    split at h
    · rename_i k2 R hc hR
      split at h
      · cases h
      · rename_i hfb
        simp only [Bool.or_eq_true, not_or, Bool.not_eq_true] at hfb
        have ih := run_ok hm hmix h hp hk
        exact fun G E0 w0 a w E hG hS => ctl_ok hS _ _ hc (ih G E0 w0 a w _ hG (frz_ok hR hfb.1 hfb.2 hS))
    · cases h
  | .own t wd :: cs, k, σ, ps, h, hp, hk => by
    simp only [run] at h
    split at h
    · rename_i k2 hc ht
      have ih := run_ok hm hmix h hp hk
      exact fun G E0 w0 a w E hG hS => ctl_ok hS _ _ hc (ih G E0 w0 a w _ hG (own_ok ht hS))
    · cases h
  | .canon keep live :: cs, k, σ, ps, h, hp, hk => by
    simp only [run] at h
    split at h
    · rename_i k2 σ2 hc hcan
      have ih := run_ok hm hmix h hp hk
      exact fun G E0 w0 a w E hG hS => ctl_ok hS _ _ hc (ih G E0 w0 a w _ hG (canon_ok hcan hS))
    · cases h
  | .reg hs :: cs, k, σ, ps, h, hp, hk => by
    simp only [run] at h
    split at h
    · rename_i id ops draw k2 hc
      split at h
      · rename_i ps1 σ2 hr
        split at h
        · rename_i qs r hrun
          cases h
          obtain ⟨hp1, hp2⟩ := AllP_append hp
          have ih := run_ok hm hmix hrun hp2 hk
          exact fun G E0 w0 a w E hG hS => ctl_ok hS _ _ hc (.code (region_ok hm hmix hr hp1 hS fun a' w' E' hS' => ⟨rfl, ih G E0 w0 a' w' E' hG hS'⟩))
        · cases h
      · cases h
    · cases h

end
end
end Go.Proofs.Ytnfeelacifllmaa.Ab

namespace Go.Proofs.Ytnfeelacifllmaa.Ab

def give1q (q : Nat) : D → D → List (Nat × Nat)
  | .ref r _ none, .list true _ _ _ => [(r, q)]
  | .mref r, .omap _ => [(r, q)]
  | .ptr r _ 0 0, .optr _ _ => [(r, q)]
  | _, _ => []
def giveLq (q : Nat) : List D → List D → List (Nat × Nat)
  | d :: r, d' :: r' => give1q q d d' ++ giveLq (q + 1) r r'
  | _, _ => []
def giveVq (q : Nat) : D → D → List (Nat × Nat)
  | .agg cs, .agg cs' => giveLq q cs cs'
  | d, d' => give1q q d d'
def giveVsq (q : Nat) : List D → List D → List (Nat × Nat)
  | d :: r, d' :: r' => giveVq q d d' ++ giveVsq (q + d'.cells.length) r r'
  | _, _ => []

theorem give1_ids {g : Nat → Option Root} {M : Nat} {d d' : D} {ps : List Prop} {ids : List Nat} (h : give1 g M d d' = some (ps, ids)) (q : Nat) : (give1q q d d').map Prod.fst = ids ∧ ∀ r ∈ ids, M ≤ r ∧ ∃ R, g r = some R ∧ R.fz = false := by
  unfold give1 at h
  split at h
  · split at h <;> cases h; exact ⟨rfl, by simp⟩
  · cases h; exact ⟨rfl, by simp⟩
  · cases h; exact ⟨rfl, by simp⟩
  · cases h; exact ⟨rfl, by simp⟩
  · cases h; exact ⟨rfl, by simp⟩
  · split at h <;> cases h; exact ⟨rfl, by simp⟩
  · split at h
    · rename_i R hg
      split at h
      · rename_i hc
        simp only [Bool.and_eq_true, Bool.not_eq_true'] at hc
        cases h
        refine ⟨rfl, fun r hr => ?_⟩
        simp only [List.mem_cons, List.not_mem_nil, or_false] at hr
        subst hr
        exact ⟨Nat.le_of_ble_eq_true hc.1.1.2, R, (gw_some hg).1, hc.1.2⟩
      · cases h
    · cases h
  · split at h
    · split at h
      · cases h; exact ⟨rfl, by simp⟩
      · cases h
    · cases h
  · split at h
    · rename_i R l hg
      split at h
      · rename_i hc
        simp only [Bool.and_eq_true, Bool.not_eq_true'] at hc
        cases h
        refine ⟨rfl, fun r hr => ?_⟩
        simp only [List.mem_cons, List.not_mem_nil, or_false] at hr
        subst hr
        exact ⟨Nat.le_of_ble_eq_true hc.1, R, (mapR_some hg).1, hc.2⟩
      · cases h
    · cases h
  · split at h
    · rename_i R hg
      split at h
      · rename_i hc
        simp only [Bool.and_eq_true, boxOk, Bool.not_eq_true'] at hc
        cases h
        refine ⟨rfl, fun r hr => ?_⟩
        simp only [List.mem_cons, List.not_mem_nil, or_false] at hr
        subst hr
        exact ⟨Nat.le_of_ble_eq_true hc.1.2, R, (gw_some hg).1, hc.2.1.1.1.2⟩
      · cases h
    · cases h
  · cases h

theorem giveL_ids {g : Nat → Option Root} {M : Nat} : ∀ {ds ds' : List D} {ps : List Prop} {ids : List Nat}, giveL g M ds ds' = some (ps, ids) → ∀ q, (giveLq q ds ds').map Prod.fst = ids ∧ ∀ r ∈ ids, M ≤ r ∧ ∃ R, g r = some R ∧ R.fz = false
  | [], [], ps, ids, h, q => by cases h; exact ⟨rfl, by simp⟩
  | [], _ :: _, _, _, h, _ => by simp [giveL] at h
  | _ :: _, [], _, _, h, _ => by simp [giveL] at h
  | d :: ds, d' :: ds', ps, ids, h, q => by
    simp only [giveL] at h
    split at h
    · rename_i a b h1 h2
      cases h
      obtain ⟨e1, f1⟩ := give1_ids (ids := a.2) (ps := a.1) h1 q
      obtain ⟨e2, f2⟩ := giveL_ids (ids := b.2) (ps := b.1) h2 (q + 1)
      refine ⟨by simp [giveLq, e1, e2], fun r hr => ?_⟩
      rcases List.mem_append.1 hr with hr | hr
      · exact f1 r hr
      · exact f2 r hr
    · cases h

theorem giveV_ids {g : Nat → Option Root} {M : Nat} {d d' : D} {ps : List Prop} {ids : List Nat} (h : giveV g M d d' = some (ps, ids)) (q : Nat) : (giveVq q d d').map Prod.fst = ids ∧ ∀ r ∈ ids, M ≤ r ∧ ∃ R, g r = some R ∧ R.fz = false := by
  unfold giveV at h
  unfold giveVq
  split at h
  · exact giveL_ids h q
  · rename_i hne
    split
    · exact (hne _ _ rfl rfl).elim
    · exact give1_ids h q

theorem giveVs_ids {g : Nat → Option Root} {M : Nat} : ∀ {ds ds' : List D} {ps : List Prop} {ids : List Nat}, giveVs g M ds ds' = some (ps, ids) → ∀ q, (giveVsq q ds ds').map Prod.fst = ids ∧ ∀ r ∈ ids, M ≤ r ∧ ∃ R, g r = some R ∧ R.fz = false
  | [], [], ps, ids, h, q => by cases h; exact ⟨rfl, by simp⟩
  | [], _ :: _, _, _, h, _ => by simp [giveVs] at h
  | _ :: _, [], _, _, h, _ => by simp [giveVs] at h
  | d :: ds, d' :: ds', ps, ids, h, q => by
    simp only [giveVs] at h
    split at h
    · rename_i a b h1 h2
      cases h
      obtain ⟨e1, f1⟩ := giveV_ids (ids := a.2) (ps := a.1) h1 q
      obtain ⟨e2, f2⟩ := giveVs_ids (ids := b.2) (ps := b.1) h2 (q + d'.cells.length)
      refine ⟨by simp [giveVsq, e1, e2], fun r hr => ?_⟩
      rcases List.mem_append.1 hr with hr | hr
      · exact f1 r hr
      · exact f2 r hr
    · cases h

def lk (r : Nat) : List (Nat × Nat) → Option Nat
  | [] => none
  | x :: xs => if x.1 = r then some x.2 else lk r xs

theorem lk_of : ∀ {ps : List (Nat × Nat)} {r q : Nat}, distinct (ps.map Prod.fst) = true → (r, q) ∈ ps → lk r ps = some q
  | [], r, q, _, h => by cases h
  | x :: ps, r, q, hd, h => by
    simp only [List.map_cons, distinct, Bool.and_eq_true, Bool.not_eq_true'] at hd
    simp only [lk]
    rcases List.mem_cons.1 h with rfl | h
    · simp
    · have hne : ¬ x.1 = r := fun e => distinct_any hd.1 (e ▸ List.mem_map.2 ⟨(r, q), h, rfl⟩)
      rw [if_neg hne]
      exact lk_of hd.2 h

theorem lk_mem : ∀ {ps : List (Nat × Nat)} {r q : Nat}, lk r ps = some q → r ∈ ps.map Prod.fst
  | [], r, q, h => by simp [lk] at h
  | x :: ps, r, q, h => by
    simp only [lk] at h
    split at h
    · rename_i hx
      exact hx ▸ List.mem_cons_self ..
    · exact List.mem_cons_of_mem _ (lk_mem h)

def Env.give (E : Env) (M : Nat) (ps : List (Nat × Nat)) : Env :=
  { E with
    ow := fun b => match E.ow b with
      | .own r p => (match lk r ps with | some q => .own M ((q, 0) :: p) | none => .own r p)
      | x => x
    st := fun r => match lk r ps with | some _ => .dead | none => E.st r }

section
variable {X : Ctx} {f : FuncId} {M : Nat} {k k' : List Item} {σ σ' : St} {res res' : List D} {G' : List Root} {E0 E : Env} {w0 w : World} {a : Act} {R : Ending → World → Prop} {qs : List (Nat × Nat)}

theorem give_none {r : Nat} (h : lk r qs = none) : (E.give M qs).st r = E.st r := by simp [Env.give, h]

theorem mv_give : Mv E w (E.give M qs) w := by
  refine ⟨Nat.le_refl _, fun b hb ho => ⟨rfl, by simp [Env.give, ho]⟩, fun r hr => ?_, fun r hr hal => ?_⟩
  · simp only [Env.give]
    split
    · simp
    · exact hr
  · cases hl : lk r qs with
    | some q =>
      unfold Alive at hal
      simp [Env.give, hl] at hal
    | none =>
      refine ⟨by unfold Alive at *; rwa [give_none hl] at hal, rfl, rfl, fun N hs => ?_⟩
      obtain ⟨s1, s2, cs, ty, s3, s4⟩ := hs
      unfold Shp
      rw [give_none hl]
      refine ⟨s1, ?_, cs, ty, s3, s4⟩
      by_cases ho : E.st r = .own
      · rw [ho, if_pos rfl] at s2 ⊢
        simp [Env.give, s2, hl]
      · rw [if_neg ho] at s2 ⊢
        simp [Env.give, s2]

theorem give1_rep (hrt : ∀ r R, getR σ.G r = some R → RootRel E w r R) (hd : distinct (qs.map Prod.fst) = true) {d d' : D} {ps : List Prop} {ids : List Nat} {u : Value} {q : Nat} (h : give1 (getR σ.G) M d d' = some (ps, ids)) (hp : AllP ps)
    (hq : ∀ x ∈ give1q q d d', x ∈ qs) (hr : Rep E w .slot d u) : Rep (E.give M qs) w (.own M [(q, 0)]) d' u := by
  have hmv : Mv E w (E.give M qs) w := mv_give
  unfold give1 at h
  split at h
  · split at h <;> cases h
    rename_i hk
    subst hk
    rw [hr.int_inv, hp.1]
    exact .int _ _ _
  · cases h
    rw [hr.bool_inv, hp.1]
    exact .bool _ _
  · cases h
    rw [hr.str_inv, hp.1]
    exact .str _ _
  · rw [hr.nil_inv]
    exact .nil _
  · rename_i o wd n xs
    cases h
    obtain ⟨rfl, rfl, _⟩ := hp
    rw [hr.nil_inv]
    cases o with
    | true => exact .olist _ M [(q, 0)] _ _ _ _ _ (fun _ _ => undef) (.inl rfl) rfl (Nat.le_refl _) (by simp) (fun h => by omega) (fun i j x c h => by simp at h)
    | false => exact .flist _ _ _ _ _ _ _ (fun _ _ => undef) (.inr (.inr rfl)) rfl (Nat.le_refl _) (by simp) (fun h => by omega) (fun i j x c h => by simp at h)
  · rename_i oo wd n xs wd' n' xs'
    split at h
    · rename_i hw
      cases h
      have := Nat.eq_of_beq_eq_true hw
      subst this
      obtain ⟨rfl, rfl, _⟩ := hp
      obtain ⟨A, cap, us, rfl, hlen, hcap, hwd, ha, hrr⟩ := hr.list_inv (.inl rfl)
      refine .flist _ _ _ _ _ _ _ us (.inr (.inr rfl)) hlen hcap hwd (fun h0 => ?_) (fun i j x c hx hj => (hrr i j x c hx hj).mv hmv (m' := .fz) trivial)
      obtain ⟨b, hb, h1, h2, h3⟩ := ha h0
      exact ⟨b, hb, by simp [Env.give, h1], h2, h3⟩
    · cases h
  · rename_i r wd wd' n' xs'
    split at h
    · rename_i R hg
      split at h
      · rename_i hc
        simp only [Bool.and_eq_true, Bool.not_eq_true'] at hc
        obtain ⟨⟨⟨hw, hM⟩, hfz⟩, hbox⟩ := hc
        cases h
        have := Nat.eq_of_beq_eq_true hw
        subst this
        obtain ⟨rfl, rfl, _⟩ := hp
        obtain ⟨hg', rfl⟩ := gw_some hg
        have hR := hrt _ _ hg'
        have hst : E.st r = .own := by rw [hR.st, hfz]; rfl
        have hlk : lk r qs = some q := lk_of hd (hq _ (by simp [give1q]))
        obtain ⟨_, _, hal⟩ := hr.ref_inv
        obtain ⟨A, cap, rfl, hcap, hlen, hA⟩ := hal hR.alive
        rw [vw_eq hR none] at hcap hlen hA ⊢
        simp only [vlo, vln, Nat.zero_mul, Nat.zero_add] at hcap hlen hA ⊢
        have hadd : (E.adr r).add 0 = E.adr r := by simp [Addr.add]
        rw [hadd] at hA
        have hcell : ∃ us : Nat → Nat → Value, ∀ (i j : Nat) x c, R.xs[i]? = some x → x.cells[j]? = some c → w.cell? ((E.adr r).add (i * R.w + j)) = some (us i j) ∧ Rep E w (R.md r i j) c (us i j) := by
          refine ⟨fun i j => (w.cell? ((E.adr r).add (i * R.w + j))).getD undef, fun i j x c hx hj => ?_⟩
          obtain ⟨u, hu, hr⟩ := hR.cell i j x c hx hj
          refine ⟨by simp [hu], ?_⟩
          simp only [hu, Option.getD_some]
          exact hr
        obtain ⟨us, hus⟩ := hcell
        refine .olist _ M [(q, 0)] _ _ _ _ _ us (.inl rfl) hR.n hcap hR.wd (fun h0 => ?_) (fun i j x c hx hj => ?_)
        · obtain ⟨rfl, s1, s2, cs, ty, s3, s4⟩ := hA h0
          rw [hst, if_pos rfl] at s2
          exact ⟨_, cs, ty, rfl, s1, by simp [Env.give, s2, hlk], s3, s4, fun i j x c hx hj => (hus i j x c hx hj).1⟩
        · have := (hus i j x c hx hj).2
          unfold Root.md at this
          rw [hfz, hbox] at this
          simp only [Bool.false_eq_true, if_false] at this
          refine this.mv hmv (m' := .own M ([(q, 0)] ++ [(i, j)])) (fun b p hb ho => ⟨rfl, ?_⟩)
          simp [Env.give, ho, hlk]
      · cases h
    · cases h
  · rename_i r wd wd' n' xs'
    split at h
    · rename_i R hg
      split at h
      · rename_i hc
        simp only [Bool.and_eq_true] at hc
        obtain ⟨hw, hfz⟩ := hc
        cases h
        have := Nat.eq_of_beq_eq_true hw
        subst this
        obtain ⟨rfl, rfl, _⟩ := hp
        obtain ⟨hg', rfl⟩ := gw_some hg
        have hR := hrt _ _ hg'
        have hst : E.st r = .fz := by rw [hR.st, hfz]; rfl
        obtain ⟨_, _, hal⟩ := hr.ref_inv
        obtain ⟨A, cap, rfl, hcap, hlen, hA⟩ := hal hR.alive
        rw [vw_eq hR none] at hcap hlen hA ⊢
        simp only [vlo, vln, Nat.zero_mul, Nat.zero_add] at hcap hlen hA ⊢
        have hadd : (E.adr r).add 0 = E.adr r := by simp [Addr.add]
        rw [hadd] at hA
        have hcell : ∃ us : Nat → Nat → Value, ∀ (i j : Nat) x c, R.xs[i]? = some x → x.cells[j]? = some c → w.cell? ((E.adr r).add (i * R.w + j)) = some (us i j) ∧ Rep E w (R.md r i j) c (us i j) := by
          refine ⟨fun i j => (w.cell? ((E.adr r).add (i * R.w + j))).getD undef, fun i j x c hx hj => ?_⟩
          obtain ⟨u, hu, hr⟩ := hR.cell i j x c hx hj
          refine ⟨by simp [hu], ?_⟩
          simp only [hu, Option.getD_some]
          exact hr
        obtain ⟨us, hus⟩ := hcell
        refine .flist _ _ _ _ _ _ _ us (.inr (.inr rfl)) hR.n hcap hR.wd (fun h0 => ?_) (fun i j x c hx hj => ?_)
        · obtain ⟨rfl, s1, s2, cs, ty, s3, s4⟩ := hA (by omega)
          rw [hst] at s2
          exact ⟨_, rfl, by simp [Env.give, s2], lt_of_get s3, fun i j x c hx hj => (hus i j x c hx hj).1⟩
        · have := (hus i j x c hx hj).2
          unfold Root.md at this
          rw [hfz] at this
          simp only [if_true] at this
          exact this.mv hmv (m' := .fz) trivial
      · cases h
    · cases h
  · rename_i r l'
    split at h
    · rename_i R l hg
      split at h
      · rename_i hc
        simp only [Bool.and_eq_true, Bool.not_eq_true'] at hc
        cases h
        obtain ⟨rfl, _⟩ := hp
        obtain ⟨hg', hxs, hw⟩ := mapR_some hg
        have hR := hrt _ _ hg'
        have hst : E.st r = .own := by rw [hR.st, hc.2]; rfl
        have hlk : lk r qs = some q := lk_of hd (hq _ (by simp [give1q]))
        obtain ⟨s1, s2, s3, es, clk, s4, s5⟩ := hR.sp hw _ hxs
        rw [hst, if_pos rfl] at s3
        have hu : u = .map (some (E.adr r).block) := by
          cases hr with
          | mref m r v hm hs hh => exact hh hR.alive
        rw [hu]
        exact .omap _ M [(q, 0)] _ _ es clk (.inl rfl) (by simp [Env.give, s3, hlk]) s4 s5
      · cases h
    · cases h
  · rename_i r wd wd' xs'
    split at h
    · rename_i R hg
      split at h
      · rename_i hc
        simp only [Bool.and_eq_true, boxOk, Bool.not_eq_true'] at hc
        obtain ⟨⟨hw, hM⟩, ⟨⟨⟨hbox, hfz⟩, hn⟩, hw0⟩, hcs⟩ := hc
        cases h
        have := Nat.eq_of_beq_eq_true hw
        subst this
        have hn := Nat.eq_of_beq_eq_true hn
        obtain ⟨rfl, _⟩ := hp
        obtain ⟨hg', rfl⟩ := gw_some hg
        have hR := hrt _ _ hg'
        have hst : E.st r = .own := by rw [hR.st, hfz]; rfl
        have hlk : lk r qs = some q := lk_of hd (hq _ (by simp [give1q]))
        have hu := hr.ptr_inv.2.2 hR.alive
        have hadd : (E.adr r).add (0 * R.w + 0) = E.adr r := by simp [Addr.add]
        rw [hadd] at hu
        obtain ⟨s1, s2, cs, ty, s3, s4⟩ := hR.shp (by omega) (gw_pos hg)
        rw [hst, if_pos rfl] at s2
        have hcell : ∃ us : Nat → Nat → Value, ∀ (i j : Nat) x c, R.xs[i]? = some x → x.cells[j]? = some c → w.cell? ((E.adr r).add (i * R.w + j)) = some (us i j) ∧ Rep E w (R.md r i j) c (us i j) := by
          refine ⟨fun i j => (w.cell? ((E.adr r).add (i * R.w + j))).getD undef, fun i j x c hx hj => ?_⟩
          obtain ⟨u, hu, hr⟩ := hR.cell i j x c hx hj
          refine ⟨by simp [hu], ?_⟩
          simp only [hu, Option.getD_some]
          exact hr
        obtain ⟨us, hus⟩ := hcell
        rw [hu]
        refine .optr _ M [(q, 0)] _ _ _ us (.inl rfl) (by rw [hR.n, hn]) hR.wd ⟨cs, ty, s1, by simp [Env.give, s2, hlk], s3, by rw [hn, Nat.one_mul] at s4; exact s4, fun i j x c hx hj => (hus i j x c hx hj).1⟩ (fun i j x c hx hj => ?_)
        have h1 := (hus i j x c hx hj).2
        unfold Root.md at h1
        rw [hfz, hbox] at h1
        simp only [Bool.false_eq_true, if_false, if_true] at h1
        have hown : c.ownable = true := by
          split at hcs
          · rename_i ds hds
            rw [hds] at hx
            cases i with
            | zero =>
              simp only [List.getElem?_cons_zero, Option.some.injEq] at hx
              subst hx
              have := List.all_eq_true.1 hcs c (List.mem_of_getElem? hj)
              cases c <;> simp [D.fzc] at this <;> rfl
            | succ i => simp at hx
          · cases hcs
        refine (h1.boxOwn hown).mv hmv (m' := .own M ([(q, 0)] ++ [(i, j)])) (fun b p hb ho => ⟨rfl, ?_⟩)
        simp [Env.give, ho, hlk]
      · cases h
    · cases h
  · cases h

theorem giveL_rep (hrt : ∀ r R, getR σ.G r = some R → RootRel E w r R) (hd : distinct (qs.map Prod.fst) = true) : ∀ {ds ds' : List D} {ps : List Prop} {ids : List Nat} {q : Nat}, giveL (getR σ.G) M ds ds' = some (ps, ids) → AllP ps → (∀ x ∈ giveLq q ds ds', x ∈ qs) →
    ds'.length = ds.length ∧ ∀ (i : Nat) d d' u, ds[i]? = some d → ds'[i]? = some d' → Rep E w .slot d u → Rep (E.give M qs) w (.own M [(q + i, 0)]) d' u
  | [], [], ps, ids, q, h, hp, _ => ⟨rfl, fun i d d' u h => by simp at h⟩
  | [], _ :: _, _, _, _, h, _, _ => by simp [giveL] at h
  | _ :: _, [], _, _, _, h, _, _ => by simp [giveL] at h
  | d :: ds, d' :: ds', ps, ids, q, h, hp, hq => by
    simp only [giveL] at h
    split at h
    · rename_i a b h1 h2
      cases h
      obtain ⟨hp1, hp2⟩ := AllP_append hp
      obtain ⟨hl, hr⟩ := giveL_rep hrt hd (q := q + 1) (ps := b.1) (ids := b.2) h2 hp2 fun x hx => hq x (List.mem_append_right _ hx)
      refine ⟨by simp [hl], fun i c c' u hc hc' hcr => ?_⟩
      cases i with
      | zero =>
        simp only [List.getElem?_cons_zero, Option.some.injEq] at hc hc'
        subst hc hc'
        exact give1_rep hrt hd (ps := a.1) (ids := a.2) h1 hp1 (fun x hx => hq x (List.mem_append_left _ hx)) hcr
      | succ i =>
        have := hr i c c' u (by simpa using hc) (by simpa using hc') hcr
        rwa [show q + 1 + i = q + (i + 1) by omega] at this
    · cases h

theorem giveVs_rep (hrt : ∀ r R, getR σ.G r = some R → RootRel E w r R) (hd : distinct (qs.map Prod.fst) = true) : ∀ {ds ds' : List D} {us : List Value} {ps : List Prop} {ids : List Nat} {q : Nat}, giveVs (getR σ.G) M ds ds' = some (ps, ids) → AllP ps → (∀ x ∈ giveVsq q ds ds', x ∈ qs) →
    us.length = ds.length → (∀ (i : Nat) d u, ds[i]? = some d → us[i]? = some u → Rep E w .slot d u) → ResAll (E.give M qs) w M q ds' us
  | [], [], us, ps, ids, q, h, hp, _, hl, _ => by
    obtain rfl : us = [] := List.eq_nil_of_length_eq_zero (by simpa using hl)
    trivial
  | [], _ :: _, _, _, _, _, h, _, _, _, _ => by simp [giveVs] at h
  | _ :: _, [], _, _, _, _, h, _, _, _, _ => by simp [giveVs] at h
  | d :: ds, d' :: ds', [], ps, ids, q, h, hp, hq, hl, _ => by simp at hl
  | d :: ds, d' :: ds', u :: us, ps, ids, q, h, hp, hq, hl, hr => by
    simp only [giveVs] at h
    split at h
    · rename_i a b h1 h2
      cases h
      obtain ⟨hp1, hp2⟩ := AllP_append hp
      refine ⟨?_, giveVs_rep hrt hd (ps := b.1) (ids := b.2) h2 hp2 (fun x hx => hq x (List.mem_append_right _ hx)) (by simpa using hl) fun i d u hd hu => hr (i + 1) d u (by simpa using hd) (by simpa using hu)⟩
      have hr0 := hr 0 d u rfl rfl
      have hq0 : ∀ x ∈ giveVq q d d', x ∈ qs := fun x hx => hq x (List.mem_append_left _ hx)
      unfold giveV at h1
      split at h1
      · rename_i cs cs'
        obtain ⟨vs, rfl, hvl, hv⟩ := hr0.agg_inv
        obtain ⟨hl2, hr2⟩ := giveL_rep hrt hd (q := q) (ps := a.1) (ids := a.2) h1 hp1 hq0
        refine ⟨vs, rfl, by omega, fun j c x hc hx => ?_⟩
        have hlt : j < cs.length := by rw [← hl2]; exact (List.getElem?_eq_some_iff.1 hc).1
        exact hr2 j _ c x (List.getElem?_eq_getElem hlt) hc (hv j _ x (List.getElem?_eq_getElem hlt) hx)
      · rename_i hne
        have hnd : ∀ cs', d' ≠ .agg cs' := fun cs' e => by
          subst e
          cases d <;> simp [give1] at h1
        have e : ResRep (E.give M qs) w M q d' u = Rep (E.give M qs) w (.own M [(q, 0)]) d' u := by
          cases d' <;> first | rfl | exact absurd rfl (hnd _)
        rw [e]
        refine give1_rep hrt hd (ps := a.1) (ids := a.2) h1 hp1 (fun x hx => hq0 x ?_) hr0
        cases d' <;> first | exact absurd rfl (hnd _) | (cases d <;> exact hx)
    · cases h

theorem rootsEq_ok : ∀ {G : List (Option Root)} {G' : List Root} {ps : List Prop}, rootsEq G G' = some ps → AllP ps → ∀ (k : Nat) R, G'[k]? = some R → R.dead = false → getR G k = some R ∧ R.fz = false
  | _, [], ps, h, hp, k, R, hk, _ => by simp at hk
  | [], _ :: _, ps, h, hp, k, R, hk, _ => by simp [rootsEq] at h
  | none :: G, R' :: G', ps, h, hp, k, R, hk, hdd => by
    simp only [rootsEq] at h
    split at h
    · rename_i ps' h1
      split at h
      · rename_i hdead
        cases h
        cases k with
        | zero =>
          simp only [List.getElem?_cons_zero, Option.some.injEq] at hk
          subst hk
          rw [hdead] at hdd
          cases hdd
        | succ k => exact rootsEq_ok h1 hp k R (by simpa using hk) hdd
      · cases h
    · cases h
  | some R0 :: G, R' :: G', ps, h, hp, k, R, hk, hdd => by
    simp only [rootsEq] at h
    split at h
    · rename_i ps' h1
      split at h
      · cases h
      · rename_i hfz
        cases h
        obtain ⟨rfl, hp⟩ := hp
        cases k with
        | zero =>
          simp only [List.getElem?_cons_zero, Option.some.injEq] at hk
          subst hk
          exact ⟨rfl, by simpa using hfz⟩
        | succ k => exact rootsEq_ok h1 hp k R (by simpa using hk) hdd
    · cases h

def resVal (tmps : Array Value) (x : ResultVar) : Sem Value :=
  match x with
  | .tmp t => pure (tmps.getD t undef)
  | .cell a t => do loadVar t (← asAddr (tmps.getD a undef))

theorem resD_ok (hm : TabOK X.P X.T) (hS : SR X M E0 w0 σ a w E) : ∀ {rv : List ResultVar} {ds : List D}, resD X σ rv = some ds → ∃ us : List Value,
    (rv.mapM (resVal a.tmps)).run X.P w = .ok us w ∧ us.length = ds.length ∧ ∀ (i : Nat) d u, ds[i]? = some d → us[i]? = some u → Rep E w .slot d u
  | [], ds, h => by
    simp only [resD, Option.some.injEq] at h
    subst h
    exact ⟨[], by simp, rfl, fun i d u h => by simp at h⟩
  | .tmp t :: rv, ds, h => by
    simp only [resD] at h
    split at h
    · rename_i d ds' h1 h2
      cases h
      obtain ⟨us, hrun, hl, hr⟩ := resD_ok hm hS h2
      refine ⟨a.tmps.getD t undef :: us, by simp [List.mapM_cons, resVal, hrun], by simp [hl], fun i d' u hd hu => ?_⟩
      cases i with
      | zero =>
        simp only [List.getElem?_cons_zero, Option.some.injEq] at hd hu
        subst hd hu
        exact hS.sl t _ h1
      | succ i => exact hr i d' u (by simpa using hd) (by simpa using hu)
    · cases h
  | .cell t ty :: rv, ds, h => by
    simp only [resD] at h
    split at h
    · rename_i k w1 ti ds' h1 h2 h3
      split at h
      · rename_i fz wd n cs hg
        split at h
        · rename_i hc
          simp only [Bool.and_eq_true] at hc
          obtain ⟨⟨⟨hw, hload⟩, hn⟩, h0⟩ := hc
          have h0 : 0 < ti.size := by simp [Nat.blt] at h0; omega
          split at h
          · rename_i d hd
            cases h
            have hw := Nat.eq_of_beq_eq_true hw
            have hn := Nat.eq_of_beq_eq_true hn
            obtain ⟨us, hrun, hl, hr⟩ := resD_ok hm hS h3
            obtain ⟨hg', hRw⟩ := gw_some hg
            simp only at hRw
            have hR := hS.rt _ _ hg'
            obtain ⟨inf, z, hT⟩ := tyOK hm h2
            have hv := (hS.sl t _ h1).ptr_inv.2.2 hR.alive
            simp only [Nat.zero_mul, Nat.add_zero] at hv
            have hcells : ∃ vs : List Value, vs.length = cs.length ∧ (∀ (j : Nat) u, vs[j]? = some u → w.cell? ((E.adr k).add j) = some u) ∧ ∀ (j : Nat) c u, cs[j]? = some c → vs[j]? = some u → Rep E w .slot c u := by
              refine ⟨(List.range cs.length).map fun j => (w.cell? ((E.adr k).add j)).getD undef, by simp, fun j u hu => ?_, fun j c u hc hu => ?_⟩
              · have hlt : j < cs.length := by simpa using (List.getElem?_eq_some_iff.1 hu).1
                obtain ⟨u0, hu0, _⟩ := hR.cell 0 j (.agg cs) _ rfl (List.getElem?_eq_getElem hlt)
                simp only [Nat.zero_mul, Nat.zero_add] at hu0
                simp [hlt, hu0] at hu
                rw [hu0, hu]
              · have hlt : j < cs.length := (List.getElem?_eq_some_iff.1 hc).1
                obtain ⟨u0, hu0, hr0⟩ := hR.cell 0 j (.agg cs) c rfl hc
                simp only [Nat.zero_mul, Nat.zero_add] at hu0
                simp [hlt, hu0] at hu
                subst hu
                exact hr0.lift (.inr (List.all_eq_true.1 hload c (List.mem_of_getElem? hc)))
            obtain ⟨vs, hvl, hvc, hvr⟩ := hcells
            have hone := asOne_ok hd (us := vs) hvl hvr
            have hload' : ∃ u, (loadVar ty (E.adr k)).run X.P w = .ok u w ∧ Rep E w .slot d u := by
              cases ha : ti.k.agg with
              | true =>
                simp only [ha, if_true] at hone
                exact ⟨_, run_load_cells hT (w := w) (b := E.adr k) (us := vs) (v := .agg vs.toArray) (by omega) h0 hvc (by simp [ha]), hone⟩
              | false =>
                simp only [ha, Bool.false_eq_true, if_false] at hone
                obtain ⟨u, rfl, hru⟩ := hone
                exact ⟨u, run_load_cells hT (w := w) (b := E.adr k) (us := [u]) (v := u) (by omega) h0 hvc (by simp [ha]), hru⟩
            obtain ⟨u, hu, hru⟩ := hload'
            have hev : a.tmps.getD t undef = .pointer (some (E.adr k)) := by
              have : (E.adr k).add 0 = E.adr k := by simp [Addr.add]
              rw [this] at hv
              exact hv
            refine ⟨u :: us, ?_, by simp [hl], fun i d' u' hd' hu' => ?_⟩
            · rw [List.mapM_cons]
              simp only [resVal, hev, asAddr, Sem.run_bind, Sem.run_pure, Result.andThen_ok]
              rw [hu]
              simp only [Result.andThen_ok]
              rw [hrun]
              simp
            · cases i with
              | zero =>
                simp only [List.getElem?_cons_zero, Option.some.injEq] at hd' hu'
                subst hd' hu'
                exact hru
              | succ i => exact hr i d' u' (by simpa using hd') (by simpa using hu')
          · cases h
        · cases h
      · cases h
    · cases h

theorem results_run {P : Program} {fn : Func} {tmps : Array Value} {us : List Value} (h : (fn.results.toList.mapM (resVal tmps)).run P w = .ok us w) : (results fn tmps).run P w = .ok (pack us) w := by
  have e : results fn tmps = (do let vs ← fn.results.mapM (resVal tmps); pure (if h : vs.size = 1 then vs[0] else .tuple vs)) := rfl
  rw [e, Array.mapM_eq_mapM_toList]
  simp only [Sem.run_bind, Sem.run_map, h, Result.andThen_ok, Sem.run_pure]
  match us with
  | [] => rfl
  | [u] => rfl
  | u :: u' :: us => simp [pack]

theorem fin_ok (hm : TabOK X.P X.T) {fn : Func} (hf : X.P.funcs[f]? = some fn) {ps : List Prop} (h : fin X M fn.results.toList k σ res G' = some ps) (hp : AllP ps) : Wc X f M k σ res G' := by
  intro G E0 w0 a w E hG hS
  have key : ∃ ds ps' ids ps2, resD X σ fn.results.toList = some ds ∧ giveVs (getR σ.G) M ds res = some (ps', ids) ∧ rootsEq σ.G G' = some ps2 ∧ distinct ids = true ∧ G'.length = M ∧ AllP ps' ∧ AllP ps2 ∧ ((∃ r, k = .code .ret :: r) ∨ k = []) := by
    unfold fin at h
    split at h
    · split at h
      · rename_i ds hds
        split at h
        · rename_i ps' ids ps2 h1 h2
          split at h
          · rename_i hc
            simp only [Bool.and_eq_true] at hc
            cases h
            obtain ⟨hp1, hp2⟩ := AllP_append hp
            exact ⟨ds, ps', ids, ps2, hds, h1, h2, hc.1, Nat.eq_of_beq_eq_true hc.2, hp1, hp2, .inl ⟨_, rfl⟩⟩
          · cases h
        · cases h
      · cases h
    · split at h
      · rename_i ds hds
        split at h
        · rename_i ps' ids ps2 h1 h2
          split at h
          · rename_i hc
            simp only [Bool.and_eq_true] at hc
            cases h
            obtain ⟨hp1, hp2⟩ := AllP_append hp
            exact ⟨ds, ps', ids, ps2, hds, h1, h2, hc.1, Nat.eq_of_beq_eq_true hc.2, hp1, hp2, .inr rfl⟩
          · cases h
        · cases h
      · cases h
    · cases h
  obtain ⟨ds, ps', ids, ps2, hds, hg, hre, hd, hl, hp1, hp2, hk⟩ := key
  obtain ⟨us, hrun, hul, hr⟩ := resD_ok hm hS hds
  obtain ⟨hids, hlow⟩ := giveVs_ids hg 0
  have hv := results_run hrun
  have hlk : ∀ r, r < M → lk r (giveVsq 0 ds res) = none := fun r hr => by
    cases hx : lk r (giveVsq 0 ds res) with
    | none => rfl
    | some q =>
      have := lk_mem hx
      rw [hids] at this
      have := (hlow r this).1
      omega
  have hmv : Mv E w (E.give M (giveVsq 0 ds res)) w := mv_give
  have hPost : Post E0 w0 G res G' (.returned (pack us)) w := by
    refine ⟨E.give M (giveVsq 0 ds res), us, rfl, ?_, by rw [hl, hG], fun k R hk hdd => ?_, ?_⟩
    · rw [hG]
      refine ⟨hS.frm.sz, hS.frm.os, hS.frm.tape, hS.frm.output, fun b hb ho => ?_, fun b hb ho => ?_, fun r hr => ?_, hS.frm.shape, fun r hr hst => ?_⟩
      · obtain ⟨h1, h2⟩ := hS.frm.fz b hb ho
        exact ⟨h1, by simp [Env.give, h2]⟩
      · obtain ⟨h1, h2⟩ := hS.frm.far b hb ho
        exact ⟨h1, by simp [Env.give, h2]⟩
      · exact hS.frm.adr r hr
      · rw [give_none (hlk r hr)] at hst
        obtain ⟨h1, h2⟩ := hS.frm.shp r hr hst
        refine ⟨h1, fun N hN => ?_⟩
        exact (hmv.ref r (by rw [hst]; simp) (.inl (by rw [give_none (hlk r hr)]; exact hst))).2.2.2 N (h2 N hN)
    · obtain ⟨h1, h2⟩ := rootsEq_ok hre hp2 k R hk hdd
      have hklt : k < M := by rw [← hl]; exact (List.getElem?_eq_some_iff.1 hk).1
      have hR := hS.rt k R h1
      exact hR.mv hmv (give_none (hlk k hklt)) fun b q hb ho => ⟨rfl, by simp [Env.give, ho, hlk k hklt]⟩
    · rw [hG]
      exact giveVs_rep hS.rt (by rw [hids]; exact hd) hg hp1 (fun x hx => hx) hul hr
  rcases hk with ⟨r, rfl⟩ | rfl
  · exact .ret hf hS.df hv hPost
  · exact .done hf hS.df hv hPost

theorem give1C_ok {g : Nat → Option Root} {d d' c : D} {ids : List Nat} (h : give1C g M d d' = some (c, ids)) : ∃ ps, give1 g M d c = some (ps, ids) ∧ AllP ps := by
  unfold give1C at h
  split at h
  · rename_i k n _ _; cases h; exact ⟨[n = n], by simp [give1], rfl, trivial⟩
  · rename_i b _; cases h; exact ⟨[b = b], rfl, rfl, trivial⟩
  · rename_i s _; cases h; exact ⟨[s = s], rfl, rfl, trivial⟩
  · cases h; exact ⟨[], rfl, trivial⟩
  · cases h; exact ⟨[(0 : Nat) = 0, ([] : List D) = []], rfl, rfl, rfl, trivial⟩
  · rename_i w n xs w' _ _
    split at h
    · cases h; exact ⟨[n = n, xs = xs], by simp [give1], rfl, rfl, trivial⟩
    · cases h
  · split at h
    · rename_i R hg
      split at h
      · rename_i hc
        cases h
        simp only [Bool.and_eq_true] at hc
        exact ⟨[R.n = R.n, R.xs = R.xs], by simp only [give1, hg, Nat.beq_refl, hc.1.1.2, hc.1.2, hc.2, Bool.and_self, if_true], rfl, rfl, trivial⟩
      · cases h
    · cases h
  · split at h
    · rename_i R hg
      split at h
      · rename_i hc
        cases h
        simp only [Bool.and_eq_true] at hc
        exact ⟨[R.n = R.n, R.xs = R.xs], by simp only [give1, hg, Nat.beq_refl, hc.2, Bool.and_self, if_true], rfl, rfl, trivial⟩
      · cases h
    · cases h
  · split at h
    · rename_i R l hg
      split at h
      · rename_i hc
        cases h
        exact ⟨[l = l], by simp only [give1, hg, hc, if_true], rfl, trivial⟩
      · cases h
    · cases h
  · split at h
    · rename_i R hg
      split at h
      · rename_i hc
        cases h
        simp only [Bool.and_eq_true] at hc
        exact ⟨[R.xs = R.xs], by simp only [give1, hg, Nat.beq_refl, hc.1.2, hc.2, Bool.and_self, if_true], rfl, trivial⟩
      · cases h
    · cases h
  · cases h

theorem giveLC_ok {g : Nat → Option Root} : ∀ {ds ds' cs : List D} {ids : List Nat}, giveLC g M ds ds' = some (cs, ids) → ∃ ps, giveL g M ds cs = some (ps, ids) ∧ AllP ps
  | [], [], cs, ids, h => by cases h; exact ⟨_, rfl, trivial⟩
  | d :: r, d' :: r', cs, ids, h => by
    simp only [giveLC] at h
    split at h
    · rename_i a b ha hb
      cases h
      obtain ⟨ps, h1, h2⟩ := give1C_ok (M := M) (c := a.1) (ids := a.2) ha
      obtain ⟨qs, h3, h4⟩ := giveLC_ok (cs := b.1) (ids := b.2) hb
      exact ⟨ps ++ qs, by simp [giveL, h1, h3], AllP_app h2 h4⟩
    · cases h
  | [], _ :: _, cs, ids, h => by cases h
  | _ :: _, [], cs, ids, h => by cases h

theorem giveVC_ok {g : Nat → Option Root} {d d' c : D} {ids : List Nat} (h : giveVC g M d d' = some (c, ids)) : ∃ ps, giveV g M d c = some (ps, ids) ∧ AllP ps := by
  unfold giveVC at h
  split at h
  · rename_i cs cs'
    split at h
    · rename_i c' ids' hc
      cases h
      exact giveLC_ok hc
    · cases h
  · obtain ⟨ps, h1, h2⟩ := give1C_ok h
    cases d with
    | agg cs => simp [give1C] at h
    | _ => exact ⟨ps, h1, h2⟩

theorem giveVsC_ok {g : Nat → Option Root} : ∀ {ds ds' cs : List D} {ids : List Nat}, giveVsC g M ds ds' = some (cs, ids) → ∃ ps, giveVs g M ds cs = some (ps, ids) ∧ AllP ps
  | [], [], cs, ids, h => by cases h; exact ⟨_, rfl, trivial⟩
  | d :: r, d' :: r', cs, ids, h => by
    simp only [giveVsC] at h
    split at h
    · rename_i a b ha hb
      cases h
      obtain ⟨ps, h1, h2⟩ := giveVC_ok (M := M) (c := a.1) (ids := a.2) ha
      obtain ⟨qs, h3, h4⟩ := giveVsC_ok (cs := b.1) (ids := b.2) hb
      exact ⟨ps ++ qs, by simp [giveVs, h1, h3], AllP_app h2 h4⟩
    · cases h
  | [], _ :: _, cs, ids, h => by cases h
  | _ :: _, [], cs, ids, h => by cases h

theorem rootsC_ok : ∀ {n : Nat} {G : List (Option Root)} {Rs : List Root}, rootsC n G = some Rs → (∃ ps, rootsEq G Rs = some ps ∧ AllP ps) ∧ Rs.length = n
  | 0, G, Rs, h => by
    cases h
    refine ⟨⟨[], ?_, trivial⟩, rfl⟩
    cases G <;> rfl
  | n + 1, some R :: G, Rs, h => by
    simp only [rootsC] at h
    split at h
    · rename_i Rs' hR
      split at h
      · cases h
      · rename_i hf
        cases h
        obtain ⟨⟨ps, h1, h2⟩, h3⟩ := rootsC_ok hR
        exact ⟨⟨(R = R) :: ps, by simp [rootsEq, h1, hf], rfl, h2⟩, by simp [h3]⟩
    · cases h
  | n + 1, [], Rs, h => by cases h
  | n + 1, none :: G, Rs, h => by
    simp only [rootsC] at h
    split at h
    · rename_i Rs' hR
      cases h
      obtain ⟨⟨ps, h1, h2⟩, h3⟩ := rootsC_ok hR
      exact ⟨⟨ps, by simp [rootsEq, h1, deadR, Root.dead], h2⟩, by simp [h3]⟩
    · cases h

theorem finC_ok (hm : TabOK X.P X.T) {fn : Func} (hf : X.P.funcs[f]? = some fn) (h : finC X M fn.results.toList k σ res = some (res', G')) : Wc X f M k σ res' G' := by
  unfold finC at h
  have key : ∀ {ds c Rs ids}, resD X σ fn.results.toList = some ds → giveVsC (getR σ.G) M ds res = some (c, ids) → rootsC M σ.G = some Rs → distinct ids = true → ∃ ps, (match giveVs (getR σ.G) M ds c, rootsEq σ.G Rs with
      | some (ps, ids), some qs => if distinct ids && Nat.beq Rs.length M then some (ps ++ qs) else none
      | _, _ => none) = some ps ∧ AllP ps := fun h1 h2 h3 h4 => by
    obtain ⟨ps, h5, h6⟩ := giveVsC_ok h2
    obtain ⟨⟨qs, h7, h8⟩, h9⟩ := rootsC_ok h3
    exact ⟨ps ++ qs, by simp [h5, h7, h4, h9, Nat.beq_refl], AllP_app h6 h8⟩
  split at h
  · split at h
    · rename_i ds hds
      split at h
      · rename_i c ids Rs hg hR
        split at h
        · rename_i hd
          cases h
          obtain ⟨ps, h1, h2⟩ := key hds hg hR hd
          exact fin_ok hm hf (ps := ps) (by simp only [fin, hds]; exact h1) h2
        · cases h
      · cases h
    · cases h
  · split at h
    · rename_i ds hds
      split at h
      · rename_i c ids Rs hg hR
        split at h
        · rename_i hd
          cases h
          obtain ⟨ps, h1, h2⟩ := key hds hg hR hd
          exact fin_ok hm hf (ps := ps) (by simp only [fin, hds]; exact h1) h2
        · cases h
      · cases h
    · cases h
  · cases h

theorem runFinC_ok (hm : TabOK X.P X.T) (hmix : X.P.follows .mixedOrders = true) {fn : Func} (hf : X.P.funcs[f]? = some fn) {cmds : List Cmd} {ps : List Prop}
    (h : runFinC X M cmds k σ fn.results.toList res = some (ps, res', G')) (hp : AllP ps) : Wc X f M k σ res' G' := by
  unfold runFinC at h
  split at h
  · rename_i ps1 k' σ' hr
    split at h
    · rename_i c Rs hc
      cases h
      exact run_ok hm hmix hr hp (finC_ok hm hf hc)
    · cases h
  · cases h

theorem Ct.of {fn : Func} {c : Code} {args : List D} {G : List Root} (hf : X.P.funcs[f]? = some fn) (hb : fn.body = some c) (hn : (fn.name == "runtime.NumGoroutine") = false)
    (h : Wc X f G.length [.code c] ⟨args ++ List.replicate (fn.ntmps - args.length) .undef, G.map some⟩ res G') : Ct X.P X.gl f args G res G' := by
  refine ⟨⟨fn, hf, by rw [hb]; rfl, hn⟩, fun E w vs hgl hvs hargs hroots hfresh => ?_⟩
  refine W.calls hf hb (h G E w _ w E rfl ⟨.refl _ _ _, fun r hr => ?_, hgl, rfl, by simp [hvs], fun t d hd => ?_, fun r R hR => ?_, fun r hr => hfresh r (by simpa using hr)⟩)
  · have := (hroots r _ (List.getElem?_eq_getElem hr)).alive
    unfold Alive at this
    rcases this with h | h <;> rw [h] <;> simp
  · by_cases ht : t < args.length
    · rw [List.getElem?_append_left ht] at hd
      have hlt : t < vs.size := by omega
      have : (({ tmps := vs ++ Array.replicate (fn.ntmps - vs.size) undef, defers := [] } : Act).eval (.tmp t)) = vs[t] := by
        have hlt2 : t < (vs ++ Array.replicate (fn.ntmps - vs.size) undef).size := by simp; omega
        simp only [Act.eval, Array.getD_eq_getD_getElem?, Array.getElem?_eq_getElem hlt2, Option.getD_some]
        exact Array.getElem_append_left hlt
      rw [this]
      exact hargs t d _ hd (Array.getElem?_eq_getElem hlt)
    · rw [List.getElem?_append_right (by omega)] at hd
      have := List.mem_replicate.1 (List.mem_of_getElem? hd)
      rw [this.2]
      exact .undef _ _ (.inl rfl)
  · have e : G.map some = G.map (fun x => some x) := rfl
    simp only [getR_map, Option.bind_eq_some_iff, Option.some.injEq, exists_eq_right] at hR
    exact hroots r R hR

end
end Go.Proofs.Ytnfeelacifllmaa.Ab

namespace Go.Proofs.Ytnfeelacifllmaa.Ab

def sl {α : Type} (w : Nat) (f : α → D) (l : List α) : D := .list false w (List.length l) (List.map f l)
def ow {α : Type} (w : Nat) (f : α → D) (l : List α) : D := .list true w (List.length l) (List.map f l)

theorem getCells_map {α : Type} {f : α → D} {l : List α} {k j n : Nat} {x : α} {cs : List D} (hx : l[k]? = some x)
    (h : (if j + n ≤ (f x).cells.length then some (((f x).cells.drop j).take n) else none) = some cs) : getCells (List.map f l) k j n = some cs := by
  unfold getCells
  rw [List.getElem?_map, hx]
  exact h

theorem lt_of_at {α : Type} {l : List α} {k : Nat} {x : α} (hx : l[k]? = some x) : k < List.length l := (List.getElem?_eq_some_iff.1 hx).1

theorem int_lt_of_at {α : Type} {l : List α} {k : Int} {x : α} (h0 : 0 ≤ k) (hx : l[k.toNat]? = some x) : k < (List.length l : Int) := by
  have := lt_of_at hx
  omega

instance lawfulBytes : LawfulBEq ByteArray where
  eq_of_beq := fun {a b} h => by
    have h1 : (a.data == b.data) = true := h
    cases a; cases b
    simpa using h1
  rfl := fun {a} => by
    show (a.data == a.data) = true
    simp
theorem beqT {α : Type} [BEq α] [LawfulBEq α] {a b : α} (h : a = b) : (a == b) = true := by simp [h]
theorem beqF {α : Type} [BEq α] [LawfulBEq α] {a b : α} (h : ¬ a = b) : (a == b) = false := by simp [h]
theorem bneT {α : Type} [BEq α] [LawfulBEq α] {a b : α} (h : ¬ a = b) : (a != b) = true := by simp [h]
theorem bneF {α : Type} [BEq α] [LawfulBEq α] {a b : α} (h : a = b) : (a != b) = false := by simp [h]
theorem nbeqT {α : Type} [BEq α] [LawfulBEq α] {a b : α} (h : ¬ a = b) : (!(a == b)) = true := by simp [h]
theorem nbeqF {α : Type} [BEq α] [LawfulBEq α] {a b : α} (h : a = b) : (!(a == b)) = false := by simp [h]

theorem setCells_map {α : Type} {f : α → D} {l : List α} {k j : Nat} {x x' : α} {cs : List D} (hx : l[k]? = some x) (h : setCells [f x] 0 j cs = [f x']) : setCells (List.map f l) k j cs = List.map f (List.set l k x') := by
  have hm : (List.map f l)[k]? = some (f x) := by rw [List.getElem?_map, hx]; rfl
  have hset : List.map f (List.set l k x') = List.set (List.map f l) k (f x') := List.map_set
  unfold setCells at h ⊢
  rw [hm, hset]
  simp only [List.getElem?_cons_zero] at h
  generalize hfx : f x = y at *
  have same : List.set (List.map f l) k y = List.map f l := by
    refine List.ext_getElem? fun i => ?_
    rw [List.getElem?_set]
    split
    · rename_i e
      subst e
      rw [hm]
      simp [lt_of_at hx]
    · rfl
  cases y with
  | agg old =>
    simp only [List.set_cons_zero, List.cons.injEq, and_true] at h
    simp only [h]
  | _ =>
    match cs, h with
    | [c], h =>
      simp only [List.set_cons_zero, List.cons.injEq, and_true] at h
      simp only [h]
    | [], h =>
      simp only [List.cons.injEq, and_true] at h
      simp only [← h, same]
    | c :: c' :: r, h =>
      simp only [List.cons.injEq, and_true] at h
      simp only [← h, same]

theorem nfL_map {α : Type} {f : α → D} (h : ∀ x, (f x).nf) : ∀ l : List α, nfL (List.map f l)
  | [] => trivial
  | x :: l => ⟨h x, nfL_map h l⟩

def bytesOf (l : List Int) : ByteArray := ⟨(l.map fun x => UInt8.ofNat x.toNat).toArray⟩
theorem bytesD_of {l : List Int} (h : ∀ x ∈ l, 0 ≤ x ∧ x < 256) : List.map (D.int .u8) l = bytesD (bytesOf l) := by
  unfold bytesD bytesOf
  simp only [List.map_map]
  refine List.map_congr_left fun x hx => ?_
  have := h x hx
  simp only [Function.comp, UInt8.toNat_ofNat']
  rw [show ((x.toNat % 2 ^ 8 : Nat) : Int) = x by omega]

theorem nilC_s {c : D} {r s : List D} (h : NilC r s) : NilC (c :: r) (c :: s) := ⟨.inl rfl, h⟩
theorem nilC_n {w : Nat} {r s : List D} (h : NilC r s) : NilC (.nil :: r) (.list true w 0 [] :: s) := ⟨.inr ⟨rfl, w, rfl⟩, h⟩
theorem nilC_0 : NilC [] [] := trivial
theorem nilOk_rep {α : Type} {f : α → D} {z : D} {x : α} (h : NilC z.cells (f x).cells) : ∀ n : Nat, NilOk (List.replicate n z) (List.map f (List.replicate n x))
  | 0 => trivial
  | n + 1 => ⟨h, nilOk_rep h n⟩

theorem setCells_mapD {α : Type} {f : α → D} {l : List α} {k j : Nat} {x : α} {cs : List D} {d : D} (hx : l[k]? = some x) (h : setCells [f x] 0 j cs = [d]) : setCells (List.map f l) k j cs = List.set (List.map f l) k d := by
  have hm : (List.map f l)[k]? = some (f x) := by rw [List.getElem?_map, hx]; rfl
  unfold setCells at h ⊢
  rw [hm]
  simp only [List.getElem?_cons_zero] at h
  generalize hfx : f x = y at *
  have same : List.set (List.map f l) k y = List.map f l := by
    refine List.ext_getElem? fun i => ?_
    rw [List.getElem?_set]
    split
    · rename_i e
      subst e
      rw [hm]
      simp [lt_of_at hx]
    · rfl
  cases y with
  | agg old =>
    simp only [List.set_cons_zero, List.cons.injEq, and_true] at h
    simp only [h]
  | _ =>
    match cs, h with
    | [c], h =>
      simp only [List.set_cons_zero, List.cons.injEq, and_true] at h
      simp only [h]
    | [], h =>
      simp only [List.cons.injEq, and_true] at h
      simp only [← h, same]
    | c :: c' :: r, h =>
      simp only [List.cons.injEq, and_true] at h
      simp only [← h, same]
theorem at_set {α : Type} {f : α → D} {l : List α} {k : Nat} {x : α} (d : D) (hx : l[k]? = some x) : (List.set (List.map f l) k d)[k]? = some d := by
  rw [List.getElem?_set_self (by rw [List.length_map]; exact lt_of_at hx)]
theorem getCells_set {α : Type} {f : α → D} {l : List α} {k j n : Nat} {x : α} {d : D} {cs : List D} (hx : l[k]? = some x) (h : getCells [d] 0 j n = some cs) : getCells (List.set (List.map f l) k d) k j n = some cs := by
  unfold getCells at h ⊢
  rw [at_set d hx]
  exact h
theorem getCells_at {α : Type} {f : α → D} {l : List α} {k j n : Nat} {x : α} {cs : List D} (hx : l[k]? = some x) (h : getCells [f x] 0 j n = some cs) : getCells (List.map f l) k j n = some cs := by
  unfold getCells at h ⊢
  rw [List.getElem?_map, hx]
  exact h
theorem setCells_set {α : Type} {f : α → D} {l : List α} {k j : Nat} {x x' : α} {d : D} {cs : List D} (hx : l[k]? = some x) (h : setCells [d] 0 j cs = [f x']) : setCells (List.set (List.map f l) k d) k j cs = List.map f (List.set l k x') := by
  have hk : k < (List.map f l).length := by rw [List.length_map]; exact lt_of_at hx
  have e : List.set (List.map f l) k d = List.map id (List.set (List.map f l) k d) := (List.map_id _).symm
  rw [e, setCells_mapD (f := id) (x := d) (at_set d hx) h, List.map_id, List.set_set, List.map_set]
theorem setCells_setD {α : Type} {f : α → D} {l : List α} {k j : Nat} {x : α} {d d' : D} {cs : List D} (hx : l[k]? = some x) (h : setCells [d] 0 j cs = [d']) : setCells (List.set (List.map f l) k d) k j cs = List.set (List.map f l) k d' := by
  have hk : k < (List.map f l).length := by rw [List.length_map]; exact lt_of_at hx
  have e : List.set (List.map f l) k d = List.map id (List.set (List.map f l) k d) := (List.map_id _).symm
  rw [e, setCells_mapD (f := id) (x := d) (at_set d hx) h, List.map_id, List.set_set]
theorem allOw_map {α : Type} {f : α → D} (h : ∀ x c, c ∈ (f x).cells → c.ownable = true) (l : List α) : AllOw (List.map f l) := fun y hy c hc => by
  obtain ⟨x, _, rfl⟩ := List.mem_map.1 hy
  exact h x c hc
theorem erL_map2 {α : Type} {f g : α → D} (h : ∀ x, (f x).er = (g x).er) : ∀ l : List α, erL (List.map f l) = erL (List.map g l)
  | [] => rfl
  | x :: l => by
    simp only [List.map_cons, erL]
    rw [h x, erL_map2 h l]
theorem er_ow {α : Type} {f g : α → D} (h : ∀ x, (f x).er = (g x).er) (w : Nat) (l : List α) : (ow w f l).er = (sl w g l).er := by
  simp only [ow, sl, D.er]
  rw [erL_map2 h l]
theorem nf_ow {α : Type} {f : α → D} (h : ∀ x, (f x).nf) (w : Nat) (l : List α) : (ow w f l).nf := nfL_map h l

def runFin (X : Ctx) (M : Nat) (cmds : List Cmd) (k : List Item) (σ : St) (rv : List ResultVar) (res : List D) (G' : List Root) : Option (List Prop) :=
  match run X M cmds k σ with
  | some (ps, k', σ') => match fin X M rv k' σ' res G' with
    | some qs => some (ps ++ qs)
    | none => none
  | none => none

theorem runFin_ok {X : Ctx} {f : FuncId} {M : Nat} {k : List Item} {σ : St} {res : List D} {G' : List Root} (hm : TabOK X.P X.T) (hmix : X.P.follows .mixedOrders = true) {fn : Func} (hf : X.P.funcs[f]? = some fn) {cmds : List Cmd} {ps : List Prop}
    (h : runFin X M cmds k σ fn.results.toList res G' = some ps) (hp : AllP ps) : Wc X f M k σ res G' := by
  unfold runFin at h
  split at h
  · rename_i ps1 k' σ' hr
    split at h
    · rename_i qs hq
      cases h
      obtain ⟨h1, h2⟩ := AllP_append hp
      exact run_ok hm hmix hr h1 (fin_ok hm hf hq h2)
    · cases h
  · cases h

theorem allFl_map {α : Type} {f : α → D} (h : ∀ x c, c ∈ (f x).cells → c.plain = true) (l : List α) : AllFl (List.map f l) := fun y hy c hc => by
  obtain ⟨x, _, rfl⟩ := List.mem_map.1 hy
  exact h x c hc

def byteAt (s : ByteArray) (i : Nat) : Nat := match s.data.toList[i]? with
  | some b => b.toNat
  | none => 0
theorem byteAt_ok {s : ByteArray} {i : Nat} (h : i < s.size) : (s.data.toList[i]?.map fun b => (b.toNat : Int)) = some ((byteAt s i : Nat) : Int) := by
  unfold byteAt
  have : i < s.data.toList.length := by simpa using h
  rw [List.getElem?_eq_getElem this]
  rfl

theorem Wc.anyb {X : Ctx} {f : FuncId} {M : Nat} {k : List Item} {σ : St} {res : List D} {G' : List Root} (t : Nat) (ht : σ.sl[t]? = some .anyb) (h : ∀ b, Wc X f M k ⟨σ.sl.set t (.bool b), σ.G⟩ res G') : Wc X f M k σ res G' := by
  intro G E0 w0 a w E hG hS
  have hr := hS.sl t _ ht
  obtain ⟨b, hb⟩ : ∃ b, a.eval (.tmp t) = .bool b := by
    generalize a.eval (.tmp t) = v at hr
    cases hr
    exact ⟨_, rfl⟩
  refine h b G E0 w0 a w E hG ⟨hS.frm, hS.low, hS.gl, hS.df, by simpa using hS.sz, fun u d hd => ?_, hS.rt, hS.fresh⟩
  simp only at hd
  rw [List.getElem?_set] at hd
  split at hd
  · rename_i e
    subst e
    split at hd
    · cases hd
      rw [hb]
      exact .bool _ _
    · cases hd
  · exact hS.sl u d hd

def itn {σ ρ : Type} (B : σ → Option (σ ⊕ ρ)) : Nat → σ → Option ρ
  | 0, _ => none
  | n + 1, s => match B s with
    | some (.inl s') => itn B n s'
    | some (.inr r) => some r
    | none => none

theorem itn_succ {σ ρ : Type} {B : σ → Option (σ ⊕ ρ)} : ∀ {n : Nat} {s : σ} {r : ρ}, itn B n s = some r → itn B (n + 1) s = some r
  | n + 1, s, r, h => by
    unfold itn at h ⊢
    split at h
    · rename_i s' hs
      exact itn_succ h
    · exact h
    · cases h

theorem itn_le {σ ρ : Type} {B : σ → Option (σ ⊕ ρ)} {n m : Nat} {s : σ} {r : ρ} (hnm : n ≤ m) (h : itn B n s = some r) : itn B m s = some r := by
  induction hnm with
  | refl => exact h
  | step _ ih => exact itn_succ ih

open Classical in
noncomputable def loop {σ ρ : Type} (B : σ → Option (σ ⊕ ρ)) (s : σ) : Option ρ := if h : ∃ r n, itn B n s = some r then some h.choose else none

theorem loop_some {σ ρ : Type} {B : σ → Option (σ ⊕ ρ)} {s : σ} {r : ρ} : loop B s = some r ↔ ∃ n, itn B n s = some r := by
  unfold loop
  split
  · rename_i h
    have hc := h.choose_spec
    constructor
    · intro e
      cases e
      exact hc
    · rintro ⟨n, hn⟩
      obtain ⟨m, hm⟩ := hc
      have h1 := itn_le (Nat.le_max_left n m) hn
      have h2 := itn_le (Nat.le_max_right n m) hm
      rw [h1] at h2
      exact h2.symm
  · rename_i h
    constructor
    · intro e; cases e
    · rintro ⟨n, hn⟩
      exact absurd ⟨r, n, hn⟩ h

def goOn {σ ρ : Type} (L : σ → Option ρ) : Option (σ ⊕ ρ) → Option ρ
  | none => none
  | some (.inl s) => L s
  | some (.inr r) => some r

theorem loop_eq {σ ρ : Type} (B : σ → Option (σ ⊕ ρ)) (s : σ) : loop B s = goOn (loop B) (B s) := by
  refine Option.ext fun r => ?_
  rw [loop_some]
  constructor
  · rintro ⟨n, hn⟩
    cases n with
    | zero => cases hn
    | succ n =>
      unfold itn at hn
      split at hn
      · rename_i s' hs
        rw [hs]
        exact loop_some.2 ⟨n, hn⟩
      · rename_i r' hs
        rw [hs]
        exact hn
      · cases hn
  · intro h
    cases hB : B s with
    | none => rw [hB] at h; cases h
    | some o =>
      rw [hB] at h
      cases o with
      | inl s' =>
        obtain ⟨n, hn⟩ := loop_some.1 h
        exact ⟨n + 1, by unfold itn; rw [hB]; exact hn⟩
      | inr r' =>
        cases h
        exact ⟨1, by unfold itn; rw [hB]⟩

theorem loop_ok {σ ρ : Type} {B : σ → Option (σ ⊕ ρ)} {R : σ → ρ → Prop} (h1 : ∀ s s', B s = some (.inl s') → ∀ r, R s' r → R s r) (h2 : ∀ s r, B s = some (.inr r) → R s r) : ∀ s r, loop B s = some r → R s r := by
  intro s r h
  obtain ⟨n, hn⟩ := loop_some.1 h
  induction n generalizing s with
  | zero => cases hn
  | succ n ih =>
    unfold itn at hn
    split at hn
    · rename_i s' hs
      exact h1 s s' hs r (ih s' (loop_some.2 ⟨n, hn⟩) hn)
    · rename_i r' hs
      cases hn
      exact h2 s r hs
    · cases hn

def Nx {σ ρ : Type} (X : Ctx) (f : FuncId) (M : Nat) (K : σ → List Item) (Z : σ → St) (R : ρ → List D) (G : ρ → List Root) (k : List Item) (s : St) : σ ⊕ ρ → Prop
  | .inl s' => ∀ r, Wc X f M (K s') (Z s') (R r) (G r) → Wc X f M k s (R r) (G r)
  | .inr r => Wc X f M k s (R r) (G r)

theorem Nx.all {σ ρ : Type} {X : Ctx} {f : FuncId} {M : Nat} {K : σ → List Item} {Z : σ → St} {R : ρ → List D} {G : ρ → List Root} {B : σ → Option (σ ⊕ ρ)} (h : ∀ s o, B s = some o → Nx X f M K Z R G (K s) (Z s) o) : ∀ s r, loop B s = some r → Wc X f M (K s) (Z s) (R r) (G r) :=
  loop_ok (fun s s' hs r hr => h s (.inl s') hs r hr) fun s r hs => h s (.inr r) hs

theorem eIf {α : Type} {c : Prop} [Decidable c] {a b : Option α} {o : α} {Q : Prop} (H : (if c then a else b) = some o) (h1 : c → a = some o → Q) (h2 : ¬ c → b = some o → Q) : Q := by
  split at H
  · rename_i h; exact h1 h H
  · rename_i h; exact h2 h H
theorem eCk {α : Type} {c : Prop} [Decidable c] {a : Option α} {o : α} {Q : Prop} (H : (if c then a else none) = some o) (h1 : c → a = some o → Q) : Q := by
  split at H
  · rename_i h; exact h1 h H
  · cases H
theorem eBind {α β : Type} {x : Option α} {f : α → Option β} {o : β} {Q : Prop} (H : x.bind f = some o) (h : ∀ r, x = some r → f r = some o → Q) : Q := by
  cases x with
  | none => cases H
  | some r => exact h r rfl H
theorem eRet {α : Type} {v o : α} {P : α → Prop} (H : some v = some o) (h : P v) : P o := by cases H; exact h

theorem P0 : AllP [] := trivial
theorem P1 {p : Prop} {r : List Prop} (h : p) (hr : AllP r) : AllP (p :: r) := ⟨h, hr⟩
theorem P2 {r : List Prop} (p : Prop) (h : p) (hr : AllP r) : AllP (p :: r) := ⟨h, hr⟩
theorem PN {r : List Prop} (hr : AllP r) : AllP (((none : Option (Nat × Nat)) = none) :: r) := ⟨rfl, hr⟩
theorem PI {α : Type} {r : List Prop} (a : α) (hr : AllP r) : AllP ((a = a) :: r) := ⟨rfl, hr⟩
theorem PL {α : Type} {r : List Prop} (f : α → D) (l : List α) (hr : AllP r) : AllP ((l.length = l.length) :: (erL (l.map f) = erL (l.map f)) :: r) := ⟨rfl, rfl, hr⟩
theorem PE {α : Type} {r : List Prop} {f g : α → D} (h : ∀ x, (f x).er = (g x).er) (l : List α) (hr : AllP r) : AllP ((l.length = l.length) :: (erL (l.map f) = erL (l.map g)) :: r) := ⟨rfl, erL_map2 h l, hr⟩
theorem PR {α : Type} {r : List Prop} (f : α → D) (l : List α) (hr : AllP r) : AllP ((l.length = l.length) :: (l.map f = l.map f) :: r) := ⟨rfl, rfl, hr⟩
theorem eqF {b : Bool} (h : ¬ b = true) : b = false := by simpa using h

abbrev I (n : Int) : D := .int .i64 n
abbrev hT (i : Nat) : Hint := { i, dec := some true }
abbrev hF (i : Nat) : Hint := { i, dec := some false }
abbrev hE (i : Nat) (e : D) : Hint := { i, el := some e }
abbrev hA (i n : Nat) (xs : List D) : Hint := { i, n, xs }
abbrev hC (i : Nat) (cl : Bool) (ins : List Nat) (res : List D) (G' : List Root) : Hint := { i, call := some { cl, auto := true, ins, res, G' } }
abbrev rg (hs : List Hint) : Cmd := .reg hs
abbrev r0 : Cmd := .reg []
theorem at_map {α : Type} (f : α → D) {l : List α} {k : Nat} {x : α} (h : l[k]? = some x) : (List.map f l)[k]? = some (f x) := by rw [List.getElem?_map, h]; rfl
theorem apL {α : Type} (l m : List α) : (l ++ m).length = l.length + m.length := List.length_append
theorem apB {α : Type} {l m : List α} {b c : Nat} (h : (l ++ m).length * b ≤ c) : (l.length + m.length) * b ≤ c := by rw [List.length_append] at h; exact h
theorem apM {α : Type} (f : α → D) (l m : List α) : List.map f l ++ List.map f m = List.map f (l ++ m) := List.map_append.symm
theorem setLen {α : Type} (l : List α) (k : Nat) (x : α) : l.length = (List.set l k x).length := by simp

def bdy (fn : Func) : Code := match fn.body with
  | some c => c
  | none => .skip
abbrev RB (r : Bool) : List D := [.bool r]
abbrev RI (r : Int) : List D := [I r]
def runP (X : Ctx) (M : Nat) (cmds : List Cmd) (k : List Item) (σ : St) : Option (List Prop) := match run X M cmds k σ with
  | some (ps, _, _) => some ps
  | none => none
def runK (X : Ctx) (M : Nat) (cmds : List Cmd) (k : List Item) (σ : St) : List Item := match run X M cmds k σ with
  | some (_, k', _) => k'
  | none => []
def runS (X : Ctx) (M : Nat) (cmds : List Cmd) (k : List Item) (σ : St) : St := match run X M cmds k σ with
  | some (_, _, σ') => σ'
  | none => ⟨[], []⟩
theorem runP_ok {X : Ctx} {M : Nat} {cmds : List Cmd} {k : List Item} {σ : St} {ps : List Prop} (h : runP X M cmds k σ = some ps) : run X M cmds k σ = some (ps, runK X M cmds k σ, runS X M cmds k σ) := by
  unfold runP at h
  unfold runK runS
  split at h
  · rename_i hr; cases h; rw [hr]
  · cases h
theorem seg_ok {X : Ctx} {f : FuncId} {M : Nat} {k : List Item} {σ : St} {res : List D} {G' : List Root} (hm : TabOK X.P X.T) (hmix : X.P.follows .mixedOrders = true) (cmds : List Cmd) {ps : List Prop} (h : runP X M cmds k σ = some ps) (hp : AllP ps) (hk : Wc X f M (runK X M cmds k σ) (runS X M cmds k σ) res G') : Wc X f M k σ res G' :=
  run_ok hm hmix (runP_ok h) hp hk
theorem segN_ok {ς ρ : Type} {X : Ctx} {f : FuncId} {M : Nat} {K : ς → List Item} {Z : ς → St} {R : ρ → List D} {G : ρ → List Root} {k : List Item} {σ : St} {o : ς ⊕ ρ} (hm : TabOK X.P X.T) (hmix : X.P.follows .mixedOrders = true) (cmds : List Cmd) {ps : List Prop} (h : runP X M cmds k σ = some ps) (hp : AllP ps) (hk : Nx X f M K Z R G (runK X M cmds k σ) (runS X M cmds k σ) o) : Nx X f M K Z R G k σ o := by
  cases o with
  | inl s' => exact fun r hr => seg_ok hm hmix cmds h hp (hk r hr)
  | inr r => exact seg_ok hm hmix cmds h hp hk

theorem eN {ς ρ : Type} {X : Ctx} {f : FuncId} {M : Nat} {K : ς → List Item} {Z : ς → St} {R : ρ → List D} {G : ρ → List Root} {k : List Item} {σ : St} {v o : ς ⊕ ρ} (H : some v = some o) (h : Nx X f M K Z R G k σ v) : Nx X f M K Z R G k σ o := by cases H; exact h
theorem eW {ρ : Type} {X : Ctx} {f : FuncId} {M : Nat} (R : ρ → List D) (G : ρ → List Root) {k : List Item} {σ : St} {v o : ρ} (H : some v = some o) (h : Wc X f M k σ (R v) (G v)) : Wc X f M k σ (R o) (G o) := by cases H; exact h

theorem repLen {α : Type} (n : Nat) (z : α) : (List.replicate n z).length = n := List.length_replicate
theorem repMap {α : Type} (f : α → D) (n : Nat) (z : α) : List.replicate n (f z) = List.map f (List.replicate n z) := List.map_replicate.symm

def sts (n : Nat) (ps : List (Nat × D)) : List D := ps.foldl (fun l p => l.set p.1 p.2) (List.replicate n .undef)

theorem flat_drop {α : Type} {enc : α → D} {w : Nat} (hw : ∀ y, (enc y).cells.length = w) : ∀ (l : List α) (k : Nat) (x : α), l[k]? = some x → ∃ r, (l.flatMap fun y => (enc y).cells).drop (k * w) = (enc x).cells ++ r ∧ k * w + w ≤ (l.flatMap fun y => (enc y).cells).length
  | [], k, x, h => by simp at h
  | y :: l, 0, x, h => by
    simp at h
    subst h
    refine ⟨l.flatMap fun y => (enc y).cells, by simp, ?_⟩
    rw [List.flatMap_cons, List.length_append, hw y]
    omega
  | y :: l, k + 1, x, h => by
    obtain ⟨r, h1, h2⟩ := flat_drop hw l k x (by simpa using h)
    refine ⟨r, ?_, ?_⟩
    · rw [List.flatMap_cons, Nat.succ_mul, Nat.add_comm, ← List.drop_drop, ← h1, show List.drop w ((enc y).cells ++ List.flatMap (fun y => (enc y).cells) l) = List.flatMap (fun y => (enc y).cells) l from by rw [← hw y]; simp]
    · rw [List.flatMap_cons, List.length_append, hw y, Nat.succ_mul]
      omega
theorem flat_at {α : Type} {enc : α → D} {l : List α} {w k j n off : Nat} {x : α} (hw : ∀ y, (enc y).cells.length = w) (hx : l[k]? = some x) (hj : j = k * w + off) (hn : off + n ≤ w) :
    getCells [.agg (l.flatMap fun y => (enc y).cells)] 0 j n = some (((enc x).cells.drop off).take n) := by
  obtain ⟨r, h1, h2⟩ := flat_drop hw l k x hx
  show (if j + n ≤ (l.flatMap fun y => (enc y).cells).length then some (((l.flatMap fun y => (enc y).cells).drop j).take n) else none) = _
  rw [if_pos (by omega), hj, ← List.drop_drop, h1, List.drop_append_of_le_length (by rw [hw x]; omega), List.take_append_of_le_length (by rw [List.length_drop, hw x]; omega)]

def ltF {β : Type} (f : β → β → Option Int) (x y : β) : Bool := decide ((f x y).getD 0 < 0)
structure SortOk {β : Type} (f : β → β → Option Int) (l : List β) : Prop where
  len : (l.length : Int) ≤ 1000000000000
  tot : ∀ x ∈ l, ∀ y ∈ l, ∃ r, f x y = some r
  irr : ∀ x ∈ l, ltF f x x = false
  tr : ∀ x ∈ l, ∀ y ∈ l, ∀ z ∈ l, ltF f x y = true → ltF f y z = true → ltF f x z = true
  ntr : ∀ x ∈ l, ∀ y ∈ l, ∀ z ∈ l, ltF f x y = false → ltF f y z = false → ltF f x z = false
  tie : ∀ x ∈ l, ∀ y ∈ l, ltF f x y = false → ltF f y x = false → x = y
def srtF {β : Type} (f : β → β → Option Int) (l : List β) : List β := l.mergeSort fun x y => !ltF f y x
theorem srtF_len {β : Type} (f : β → β → Option Int) (l : List β) : (srtF f l).length = l.length := List.length_mergeSort l
open Classical in
noncomputable def sortD {β : Type} (f : β → β → Option Int) (l : List β) : Option (List β) := if SortOk f l then some (srtF f l) else none

def itoaB (n : Int) : ByteArray := ⟨(Go.Lib.itoa n).toArray⟩
def itoaD (n : Int) : Option ByteArray := if -9223372036854775808 ≤ n ∧ n ≤ 9223372036854775807 then some (itoaB n) else none
def splL (c : UInt8) : List UInt8 → List (List UInt8)
  | [] => [[]]
  | b :: l => if b = c then [] :: splL c l else match splL c l with
    | [] => [[b]]
    | x :: r => (b :: x) :: r
def splitB1 (s : ByteArray) (c : UInt8) : List ByteArray := (splL c s.data.toList).map fun x => ⟨x.toArray⟩
def splitD (s sep : ByteArray) : Option (List ByteArray) := if s.size < 4294967281 ∧ sep.size = 1 then some (splitB1 s (sep.data.getD 0 0)) else none
def atoiE (s : ByteArray) : Bool := match Go.Lib.atoiAll s.data.toList with
  | .ok _ => false
  | _ => true
def atoiV (s : ByteArray) : Int := match Go.Lib.atoiAll s.data.toList with
  | .ok v => v
  | .range => Go.Lib.atoiSat s.data.toList
  | _ => 0
def atoiD (s : ByteArray) : Option (Int × Bool) := if s.size ≤ 281474976710656 then some (atoiV s, atoiE s) else none
def joinB (xs : List ByteArray) (sep : ByteArray) : ByteArray := ⟨(Go.Lib.join (xs.map (·.data.toList)) sep.data.toList).toArray⟩
def joinD (xs : List ByteArray) (sep : ByteArray) : Option ByteArray := if xs.length ≤ 140737488355328 ∧ (Go.Lib.join (xs.map (·.data.toList)) sep.data.toList).length ≤ 140737488355328 then some (joinB xs sep) else none
end Go.Proofs.Ytnfeelacifllmaa.Ab
