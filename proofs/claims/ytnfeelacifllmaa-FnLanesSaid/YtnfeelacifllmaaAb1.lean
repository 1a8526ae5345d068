/- The steps of functions on plain data, part 1: no condition. -/
import Derived.Test.YtnfeelacifllmaaAb0
import Derived.Laws.StructEq
import Derived.Laws.BytesArg
set_option linter.unusedVariables false
set_option linter.unusedSimpArgs false
namespace Go.Proofs.Ytnfeelacifllmaa.Ab

structure Ext (E : Env) (w : World) (E' : Env) (w' : World) (us : List (Nat × Option Root)) : Prop where
  sz : w.heap.size ≤ w'.heap.size
  os : w'.os = w.os
  tape : w'.tape = w.tape
  output : w'.output = w.output ∧ DrawOk w w'
  fz : ∀ b, b < w.heap.size → E.ow b = .fz → w'.heap[b]? = w.heap[b]? ∧ E'.ow b = .fz
  far : ∀ b, b < w.heap.size → E.ow b = .far → w'.heap[b]? = w.heap[b]? ∧ E'.ow b = .far
  adr : ∀ r, E.st r ≠ .fresh → E'.adr r = E.adr r
  keep : ∀ d v, Rep E w .slot d v → Rep E' w' .slot d v
  root : ∀ r R, (∀ u ∈ us, u.1 ≠ r) → RootRel E w r R → RootRel E' w' r R
  new : ∀ r R, (r, some R) ∈ us → RootRel E' w' r R
  fresh : ∀ r, (∀ u ∈ us, u.1 ≠ r) → E.st r = .fresh → E'.st r = .fresh
  shape : ∀ (b : Nat) (cs : Array Value) (ty : Nat), w.heap[b]? = some (.cells cs ty (0, 0)) → ∃ cs' : Array Value, w'.heap[b]? = some (.cells cs' ty (0, 0)) ∧ cs'.size = cs.size
  shp : ∀ r N, E.st r = .own → E'.st r = .own → Shp E w r N → Shp E' w' r N
  back : ∀ r, E'.st r = .own → E.st r = .fresh ∨ E.st r = .own

theorem Ext.gl {E E' : Env} {w w' : World} {us : List (Nat × Option Root)} (h : Ext E w E' w' us) {gl : List (Nat × D)} (hg : GlOK gl E w) : GlOK gl E' w' := fun x hx => by
  obtain ⟨h1, h2, h3, cs, ty, z, h4, h5⟩ := hg x hx
  obtain ⟨k1, k2⟩ := h.fz _ (lt_of_get h4) h3
  exact ⟨h1, h.keep _ _ h2, k2, cs, ty, z, k1.trans h4, h5⟩

theorem Ext.refl (E : Env) (w : World) : Ext E w E w [] where
  sz := Nat.le_refl _
  os := rfl
  tape := rfl
  output := ⟨rfl, drw_le (Nat.le_refl _)⟩
  fz := fun _ _ h => ⟨rfl, h⟩
  far := fun _ _ h => ⟨rfl, h⟩
  adr := fun _ _ => rfl
  keep := fun _ _ h => h
  root := fun _ _ _ h => h
  new := fun _ _ h => by cases h
  fresh := fun _ _ h => h
  shape := fun b cs ty h => ⟨cs, h, rfl⟩
  shp := fun _ _ _ _ h => h
  back := fun _ h => .inr h

structure Hyp (X : Ctx) (E : Env) (w : World) (a : Act) (ρ : Operand → Option D) (g : Nat → Option Root) (nid : Nat) : Prop where
  T : TabOK X.P X.T
  op : ∀ x d, ρ x = some d → Rep E w .slot d (a.eval x)
  rt : ∀ r R, g r = some R → RootRel E w r R
  lt : ∀ r R, g r = some R → r < nid
  gl : GlOK X.gl E w

def Does (X : Ctx) (o : Oper) (E : Env) (w : World) (a : Act) (out : Out) : Prop :=
  ∀ (K : Act → World → Prop) (Q : Exit → Act → World → Prop), (∀ E' w' v, Ext E w E' w' out.us → Rep E' w' .slot out.v v → K (a.put o.dst v) w') → o.wp X.P a w K Q

theorem wp_val {P : Program} {o : Oper} {a : Act} {w w' : World} {v : Value} {K : Act → World → Prop} {Q : Exit → Act → World → Prop}
    (h : (execOp a.eval o).run P w = .ok (.value v) w') (hk : K (a.put o.dst v) w') : o.wp P a w K Q := by
  unfold Oper.wp
  rw [h]
  exact hk

theorem wp_skp {P : Program} {o : Oper} {a : Act} {w w' : World} {K : Act → World → Prop} {Q : Exit → Act → World → Prop}
    (h : (execOp a.eval o).run P w = .ok .skip w') (hk : K (a.put o.dst undef) w') : o.wp P a w K Q := by
  unfold Oper.wp
  rw [h]
  exact hk

theorem Does.pure {X : Ctx} {o : Oper} {E : Env} {w : World} {a : Act} {out : Out} {v : Value} (hu : out.us = []) (h : (execOp a.eval o).run X.P w = .ok (.value v) w) (hr : Rep E w .slot out.v v) : Does X o E w a out :=
  fun K Q k => wp_val h (k E w v (by rw [hu]; exact Ext.refl E w) hr)

theorem Does.of_out {X : Ctx} {o : Oper} {E : Env} {w : World} {a : Act} {out out' : Out} (h : Does X o E w a out) (e : out = out') : Does X o E w a out' := e ▸ h

theorem gw_some {g : Nat → Option Root} {r w : Nat} {R : Root} (h : gw g r w = some R) : g r = some R ∧ R.w = w := by
  unfold gw at h
  split at h
  · rename_i R' hg
    split at h
    · rename_i hb
      cases h
      simp only [Bool.and_eq_true] at hb
      exact ⟨hg, Nat.eq_of_beq_eq_true hb.1⟩
    · cases h
  · cases h
theorem gw_pos {g : Nat → Option Root} {r w : Nat} {R : Root} (h : gw g r w = some R) : 0 < R.w := by
  have h2 := (gw_some h).2
  unfold gw at h
  split at h
  · split at h
    · rename_i hb
      simp only [Bool.and_eq_true, Nat.blt, Nat.ble_eq] at hb
      omega
    · cases h
  · cases h

section
variable {X : Ctx} {o : Oper} {E : Env} {w : World} {a : Act} {ρ : Operand → Option D} {g : Nat → Option Root} {nid : Nat}

theorem vals_ok (H : Hyp X E w a ρ g nid) : ∀ {xs : List Operand} {ds : List D}, vals ρ xs = some ds → ds.length = xs.length ∧ ∀ (i : Nat) d x, ds[i]? = some d → xs[i]? = some x → Rep E w .slot d (a.eval x)
  | [], ds, h => by
    simp only [vals, Option.some.injEq] at h
    subst h
    exact ⟨rfl, fun i d x h => by simp at h⟩
  | x :: xs, ds, h => by
    simp only [vals] at h
    split at h
    · rename_i d ds' hx hds
      cases h
      obtain ⟨h1, h2⟩ := vals_ok H hds
      refine ⟨by simp [h1], fun i d' x' hd hx' => ?_⟩
      cases i with
      | zero =>
        simp only [List.getElem?_cons_zero, Option.some.injEq] at hd hx'
        subst hd hx'
        exact H.op _ _ hx
      | succ i => exact h2 i d' x' (by simpa using hd) (by simpa using hx')
    · cases h

theorem does_move (H : Hyp X E w a ρ g nid) {x : Operand} {d : D} (ho : o.op = .move x ∨ o.op = .assign x) (hx : ρ x = some d) : Does X o E w a ⟨[], d, []⟩ := by
  refine .pure (v := a.eval x) rfl ?_ (H.op _ _ hx)
  rcases ho with ho | ho <;> simp [execOp, ho]

theorem does_pick (H : Hyp X E w a ρ g nid) {c x y : Operand} {t : Bool} {d : D} (ho : o.op = .pick c x y) (hc : ρ c = some (.bool t)) (hx : (match t with | true => ρ x | false => ρ y) = some d) : Does X o E w a ⟨[], d, []⟩ := by
  have h1 := (H.op _ _ hc).bool_inv
  cases t with
  | true => exact .pure (v := a.eval x) rfl (by simp [execOp, ho, h1, asBool]) (H.op _ _ hx)
  | false => exact .pure (v := a.eval y) rfl (by simp [execOp, ho, h1, asBool]) (H.op _ _ hx)

theorem Rep.ptr_inv {m : Md} {r wd i j : Nat} {v : Value} (h : Rep E w m (.ptr r wd i j) v) : (m = .slot ∨ ∃ r' p', m = .box r' p') ∧ E.st r ≠ .fresh ∧ (Alive E r → v = .pointer (some ((E.adr r).add (i * wd + j)))) := by
  cases h with
  | ptr m r wd i j v hm hs h => exact ⟨hm, hs, h⟩

theorem RootRel.alive {r : Nat} {R : Root} (h : RootRel E w r R) : Alive E r := by
  have := h.st
  unfold Alive
  cases hf : R.fz <;> simp [hf] at this
  · exact .inl this
  · exact .inr this

theorem does_nilCheck_ptr (H : Hyp X E w a ρ g nid) {x : Operand} {r wd i j : Nat} {R : Root} (ho : o.op = .nilCheck x) (hx : ρ x = some (.ptr r wd i j)) (hg : g r = some R) : Does X o E w a ⟨[], .ptr r wd i j, []⟩ := by
  have h1 := H.op _ _ hx
  have h2 := h1.ptr_inv.2.2 (H.rt _ _ hg).alive
  exact .pure (v := a.eval x) rfl (by simp [execOp, ho, h2]) h1

theorem does_nilCheck_fptr (H : Hyp X E w a ρ g nid) {x : Operand} {wd i j : Nat} {xs : List D} (ho : o.op = .nilCheck x) (hx : ρ x = some (.fptr wd xs i j)) : Does X o E w a ⟨[], .fptr wd xs i j, []⟩ := by
  have h1 := H.op _ _ hx
  generalize hv : a.eval x = v at h1
  cases h1 with
  | fptr m wd xs i j b us hm hw ha h => exact .pure (v := .pointer (some (b.add (i * wd + j)))) rfl (by simp [execOp, ho, hv]) (.fptr _ _ _ _ _ _ us hm hw ha h)

theorem asOne_ok {agg : Bool} {cs : List D} {d : D} (h : asOne agg cs = some d) {us : List Value} (hl : us.length = cs.length) (hr : ∀ (t : Nat) c u, cs[t]? = some c → us[t]? = some u → Rep E w .slot c u) :
    if agg then Rep E w .slot d (.agg us.toArray) else ∃ u, us = [u] ∧ Rep E w .slot d u := by
  unfold asOne at h
  split at h
  · rename_i hagg
    simp only [hagg, if_true]
    cases h
    exact .agg _ _ (by simp [hl]) fun i c u hc hu => hr i c u hc (by simpa using hu)
  · rename_i hagg
    simp only [hagg, if_false, Bool.false_eq_true]
    split at h
    · rename_i c
      cases h
      match us, hl with
      | [u], _ => exact ⟨u, rfl, hr 0 _ u rfl rfl⟩
    · cases h

theorem run_load_cells {P : Program} {t : Nat} {ti : TI} {i : TypeInfo} {z : Value} (hT : TyOK P t ti i z) {b : Addr} {us : List Value} (hn : us.length = ti.size) (h0 : 0 < ti.size)
    (hc : ∀ (t : Nat) u, us[t]? = some u → w.cell? (b.add t) = some u) {v : Value} (hv : if ti.k.agg then v = .agg us.toArray else us = [v]) : (loadVar t b).run P w = .ok v w := by
  unfold loadVar
  simp only [Sem.run_bind, kind_agg hT.kind, Result.andThen]
  cases ha : ti.k.agg with
  | true =>
    simp only [ha, if_true] at hv
    subst hv
    have h1 := run_loadCells_list (P := P) w b us (fun j v hj => hc j v hj)
    rw [hn, hT.size] at h1
    simp [sizeOf, typeInfo, hT.info, h1]
  | false =>
    simp only [ha, Bool.false_eq_true, if_false] at hv
    subst hv
    have h1 := hc 0 v rfl
    simp [Addr.add] at h1
    simp [h1]

theorem does_load_ptr (H : Hyp X E w a ρ g nid) {t : Nat} {x : Operand} {r wd i j : Nat} {R : Root} {ti : TI} {cs : List D} {d : D} (ho : o.op = .load t x) (hx : ρ x = some (.ptr r wd i j)) (hg : gw g r wd = some R) (ht : look t X.T = some ti)
    (hl : (R.fz || cs.all D.loadable) = true) (hn : Nat.beq cs.length ti.size = true) (h0 : Nat.blt 0 ti.size = true) (hd : asOne ti.k.agg cs = some d) (hc : getCells R.xs i j ti.size = some cs) : Does X o E w a ⟨[getCells R.xs i j ti.size = some cs], d, []⟩ := by
  obtain ⟨hg', rfl⟩ := gw_some hg
  obtain ⟨inf, z, hT⟩ := tyOK H.T ht
  have hR := H.rt _ _ hg'
  have h2 := (H.op _ _ hx).ptr_inv.2.2 hR.alive
  obtain ⟨us, hul, hcell, hrep⟩ := hR.cells hc
  have hn' := Nat.eq_of_beq_eq_true hn
  have h0' : 0 < ti.size := by simp [Nat.blt] at h0; omega
  have hrep' : ∀ (t : Nat) c u, cs[t]? = some c → us[t]? = some u → Rep E w .slot c u := fun t c u htc hu => (hrep t c u htc hu).lift (by
    simp only [Bool.or_eq_true] at hl
    rcases hl with hl | hl
    · left
      simp [Root.md, hl]
    · right
      exact List.all_eq_true.1 hl c (List.mem_of_getElem? htc))
  have hone := asOne_ok hd (us := us) (by omega) hrep'
  have hrun : ∀ v, (if ti.k.agg then v = .agg us.toArray else us = [v]) → (execOp a.eval o).run X.P w = .ok (.value v) w := fun v hv => by
    have := run_load_cells hT (w := w) (b := (E.adr r).add (i * R.w + j)) hul h0' hcell hv
    simp [execOp, ho, h2, Instr.loadAt, Instr.sureAddr, this]
  cases ha : ti.k.agg with
  | true =>
    simp only [ha, if_true] at hone
    exact .pure (v := .agg us.toArray) rfl (hrun _ (by simp [ha])) hone
  | false =>
    simp only [ha, Bool.false_eq_true, if_false] at hone
    obtain ⟨u, rfl, hru⟩ := hone
    exact .pure (v := u) rfl (hrun _ (by simp [ha])) hru

theorem does_load_fptr (H : Hyp X E w a ρ g nid) {t : Nat} {x : Operand} {wd i j : Nat} {xs : List D} {ti : TI} {cs : List D} {d : D} (ho : o.op = .load t x) (hx : ρ x = some (.fptr wd xs i j)) (ht : look t X.T = some ti)
    (hn : Nat.beq cs.length ti.size = true) (h0 : Nat.blt 0 ti.size = true) (hd : asOne ti.k.agg cs = some d) (hc : getCells xs i j ti.size = some cs) : Does X o E w a ⟨[getCells xs i j ti.size = some cs], d, []⟩ := by
  obtain ⟨inf, z, hT⟩ := tyOK H.T ht
  obtain ⟨b, us, hv, hul, hcell, hrep⟩ := fptr_cells (H.op _ _ hx) hc
  have hn' := Nat.eq_of_beq_eq_true hn
  have h0' : 0 < ti.size := by simp [Nat.blt] at h0; omega
  have hone := asOne_ok hd (us := us) (by omega) (fun t c u htc hu => (hrep t c u htc hu).lift (.inl rfl))
  have hrun : ∀ v, (if ti.k.agg then v = .agg us.toArray else us = [v]) → (execOp a.eval o).run X.P w = .ok (.value v) w := fun v hv' => by
    have := run_load_cells hT (w := w) (b := b) hul h0' hcell hv'
    simp [execOp, ho, hv, Instr.loadAt, Instr.sureAddr, this]
  cases ha : ti.k.agg with
  | true =>
    simp only [ha, if_true] at hone
    exact .pure (v := .agg us.toArray) rfl (hrun _ (by simp [ha])) hone
  | false =>
    simp only [ha, Bool.false_eq_true, if_false] at hone
    obtain ⟨u, rfl, hru⟩ := hone
    exact .pure (v := u) rfl (hrun _ (by simp [ha])) hru

theorem Rep.agg_inv {cs : List D} {v : Value} (h : Rep E w .slot (.agg cs) v) : ∃ vs : Array Value, v = .agg vs ∧ cs.length = vs.size ∧ ∀ (i : Nat) c u, cs[i]? = some c → vs[i]? = some u → Rep E w .slot c u := by
  cases h with
  | agg cs vs hl h => exact ⟨vs, rfl, hl, h⟩
theorem Rep.tup_inv {cs : List D} {v : Value} (h : Rep E w .slot (.tup cs) v) : ∃ vs : Array Value, v = .tuple vs ∧ cs.length = vs.size ∧ ∀ (i : Nat) c u, cs[i]? = some c → vs[i]? = some u → Rep E w .slot c u := by
  cases h with
  | tup cs vs hl h => exact ⟨vs, rfl, hl, h⟩

theorem does_extract (H : Hyp X E w a ρ g nid) {x : Operand} {k : Nat} {vs : List D} {d : D} (ho : o.op = .extract x k) (hx : ρ x = some (.tup vs)) (hd : vs[k]? = some d) : Does X o E w a ⟨[], d, []⟩ := by
  obtain ⟨us, hv, hl, hr⟩ := (H.op _ _ hx).tup_inv
  have hlt : k < vs.length := (List.getElem?_eq_some_iff.1 hd).1
  have hu : us[k]? = some us[k] := Array.getElem?_eq_getElem (by omega)
  exact .pure (v := us[k]) rfl (by simp [execOp, ho, hv, Instr.extract, hu]) (hr k d _ hd hu)

theorem does_makeFunc (H : Hyp X E w a ρ g nid) {f : FuncId} {first caps : Array Operand} {cs : List D} (ho : o.op = .makeFunc (.func f) first caps) (h1 : first.toList = []) (hcs : vals ρ caps.toList = some cs) : Does X o E w a ⟨[], .fn f cs, []⟩ := by
  obtain ⟨hl, hr⟩ := vals_ok H hcs
  have hf : first = #[] := by simpa using h1
  refine .pure (v := .func (.func f) #[] (caps.map a.eval)) rfl (by simp [execOp, ho, hf, Instr.makeFunc]) (.fn _ _ _ (by simp [hl]) fun i c u hc hu => ?_)
  simp only [Array.getElem?_map, Option.map_eq_some_iff] at hu
  obtain ⟨x, hx, rfl⟩ := hu
  exact hr i c x hc (by simpa using hx)

theorem kAt_kind {P : Program} {T : Tab} {t : Nat} {k : TK} (hT : TabOK P T) (hk : kAt T t = some k) : kindOf P t = some k := by
  unfold kAt at hk
  split at hk
  · rename_i i hi
    cases hk
    obtain ⟨inf, z, hT⟩ := tyOK hT hi
    exact hT.kind
  · cases hk

theorem eqNil_run {P : Program} {w : World} {t e : Nat} (hu : P.underlying t = some (.slice e)) (d : Nat) (A : Option Addr) (n c : Nat) : (Op.equalIn (d + 1) t (.slice A n c) (.slice none 0 0)).run P w = .ok A.isNone w := by
  cases A <;> simp [Op.equalIn, run_underlying hu]

theorem ifcNil_run {P : Program} {w : World} {t : Nat} {ms : Array (String × TypeId)} (hu : P.underlying t = some (.interface ms)) (d : Nat) {b : Bool} {v : Value} (h : ifcV b v) : (Op.equalIn (d + 1) t v .nilIface).run P w = .ok (!b) w := by
  rcases h with ⟨rfl, rfl⟩ | ⟨rfl, t1, p1, rfl⟩ <;> simp [Op.equalIn, run_underlying hu]
theorem ifc_bin {P : Program} {w : World} {op : BinOp} {t : Nat} {x y : Operand} {p q : Value} {b : Bool} (hop : op = .eql ∨ op = .neq) (hc : ∃ c, y = .const c) (hu : ∃ ms, P.underlying t = some (.interface ms)) (hp : ifcV b p) (hq : q = .nilIface) :
    (do eqGuard op t x y p q; binOp op t p q).run P w = .ok (.bool (if op = .eql then !b else b)) w := by
  obtain ⟨c, rfl⟩ := hc
  obtain ⟨ms, hu⟩ := hu
  subst hq
  have he := fun d => ifcNil_run (w := w) hu d hp
  have hg : (eqGuard op t x (.const c) p .nilIface).run P w = .ok () w := by
    rcases hp with ⟨_, h⟩ | ⟨_, t1, p1, h⟩ <;> rw [h] <;> rcases hop with rfl | rfl <;> simp [eqGuard]
  rw [Sem.run_bind, hg]
  simp only [Result.andThen_ok]
  rcases hp with ⟨rfl, rfl⟩ | ⟨rfl, t1, p1, rfl⟩ <;> rcases hop with rfl | rfl <;> simp only [binOp] <;> simp [Op.equal, Op.maxDepth, he 9999]

theorem Rep.list_addr {o : Bool} {wd n : Nat} {xs : List D} {v : Value} (h : Rep E w .slot (.list o wd n xs) v) : ∃ A c, v = .slice A n c ∧ (0 < n → A ≠ none) := by
  cases h with
  | flist m o wd n xs A cap us hm hn hc hw ha h => exact ⟨A, cap, rfl, fun h0 => by obtain ⟨a, rfl, _⟩ := ha h0; simp⟩
  | olist m r p wd n xs A cap us hm hn hc hw ha h => rcases hm with h | h <;> cases h

theorem does_bin (H : Hyp X E w a ρ g nid) {op : BinOp} {t t' : Nat} {x y : Operand} {d e : D} {v : D} {ps : List Prop} (ho : o.op = .binOp op t x y t') (hx : ρ x = some d) (hy : ρ y = some e)
    {u : Value} (hrun : (do eqGuard op t x y (a.eval x) (a.eval y); binOp op t (a.eval x) (a.eval y)).run X.P w = .ok u w) (hr : Rep E w .slot v u) : Does X o E w a ⟨ps, v, []⟩ :=
  .pure (v := u) rfl (by simp only [execOp, ho]; rw [Sem.run_bind, hrun]; rfl) hr

theorem arith_run {P : Program} {op : BinOp} {k : IntKind} {x y : Int} {ps : List Prop} {d : D} (h : arith op k x y = some (ps, d)) (hp : AllP ps) (t : Nat) :
    ∃ u, (binOp op t (.int k x) (.int k y)).run P w = .ok u w ∧ Rep E w .slot d u := by
  unfold arith at h
  split at h <;> first | (cases h; done) | skip
  all_goals
    simp only [Option.some.injEq, Prod.mk.injEq] at h
    obtain ⟨rfl, rfl⟩ := h
    simp only [AllP, and_true] at hp
    first
      | exact ⟨_, by simp [binOp, Op.intArith, Op.intDiv, Op.intBits, Op.intCmp, hp] <;> rfl, .int _ _ _⟩
      | exact ⟨_, by simp [binOp, Op.intArith, Op.intDiv, Op.intBits, Op.intCmp, hp] <;> rfl, .bool _ _⟩
theorem strOp_run {P : Program} {op : BinOp} {x y : ByteArray} {ps : List Prop} {d : D} (h : strOp op x y = some (ps, d)) (hp : AllP ps) (t : Nat) :
    ∃ u, (binOp op t (.string x) (.string y)).run P w = .ok u w ∧ Rep E w .slot d u := by
  unfold strOp at h
  split at h <;> first | (cases h; done) | skip
  all_goals
    simp only [Option.some.injEq, Prod.mk.injEq] at h
    obtain ⟨rfl, rfl⟩ := h
    simp only [AllP, and_true] at hp
  · have h1 : ¬ (9223372036854775807 < ((x.size : Int) + (y.size : Int))) := by omega
    exact ⟨_, by simp [binOp, Op.stringOp, IntKind.max, IntKind.signed, IntKind.bits, h1] <;> rfl, .str _ _⟩
  all_goals
    refine ⟨_, rfl, ?_⟩
    first
      | exact .bool _ _
      | (simp only [beq_toListBytes]; exact .bool _ _)

theorem guard_plain {P : Program} {op : BinOp} {t : Nat} {x y : Operand} {u v : Value} (h : ¬ ((∃ a b, u = .agg a ∧ v = .agg b) ∨ (u = .nilIface ∧ v = .nilIface))) : (eqGuard op t x y u v).run P w = .ok () w := by
  unfold eqGuard
  cases op <;> simp
  all_goals
    split
    · exact absurd (.inr ⟨rfl, rfl⟩) h
    · exact absurd (.inl ⟨_, _, rfl, rfl⟩) h
    · rfl

theorem lk_part {P : Program} {t : Nat} {k : LK} (h : lkAt P t = some k) {xs : Array Value} {i : Nat} {u : Value} (hu : xs[i]? = some u) : (part t xs i).run P w = .ok u w := by
  have ha : (isAgg t).run P w = .ok false w := by
    unfold lkAt at h
    unfold isAgg
    split at h <;> rename_i hd <;> first | (cases h; done) | simp [run_underlying hd]
  simp [part, ha, hu]

theorem eqLeaf_run {P : Program} {t : Nat} {k : LK} (h : lkAt P t = some k) {x y : D} {e : Bool} (he : eqLeaf k x y = some e) {u v : Value} (hu : Rep E w .slot x u) (hv : Rep E w .slot y v) (d : Nat) :
    (Op.equalIn (d + 1) t u v).run P w = .ok e w := by
  unfold eqLeaf at he
  split at he <;> first | (cases he; done) | skip
  · rename_i k0 k a k' b
    split at he <;> first | (cases he; done) | skip
    rename_i hkk
    subst hkk
    cases he
    rw [hu.int_inv, hv.int_inv]
    unfold lkAt at h
    split at h <;> first | (cases h; done) | skip
    rename_i hd
    exact run_equalIn_int w d t _ _ _ _ hd
  · cases he
    rw [hu.bool_inv, hv.bool_inv]
    unfold lkAt at h
    split at h <;> first | (cases h; done) | skip
    rename_i hd
    exact run_equalIn_bool' w d t _ _ hd
  · cases he
    rw [hu.str_inv, hv.str_inv, beq_toListBytes]
    unfold lkAt at h
    split at h <;> first | (cases h; done) | skip
    rename_i hd
    exact run_equalIn_string w d t _ _ hd

theorem eqAll_run {P : Program} {xs ys : Array Value} (d : Nat) : ∀ (fs : List Field) (ks : List LK) (base : Nat), fs.map (·.offset) = List.range' base fs.length →
    eqsOf P fs = some ks → (∀ f ∈ fs, (f.name == "_") = false) →
    ∀ (cs cs' : List D) (e : Bool), eqAll ks cs cs' = some e → base + cs.length = xs.size → base + cs'.length = ys.size →
      (∀ (i : Nat) c u, cs[i]? = some c → xs[base + i]? = some u → Rep E w .slot c u) → (∀ (i : Nat) c u, cs'[i]? = some c → ys[base + i]? = some u → Rep E w .slot c u) →
      (Op.eqFields (d + 1) xs ys fs).run P w = .ok e w := by
  intro fs
  induction fs with
  | nil =>
    intro ks base _ hks _ cs cs' e he _ _ _ _
    simp only [eqsOf, Option.some.injEq] at hks
    subst hks
    cases cs <;> cases cs' <;> simp [eqAll] at he
    subst he
    simp [Op.eqFields]
  | cons f fs ih =>
    intro ks base hoff hks hname cs cs' e he hl hl' hr hr'
    have hf : f.offset = base := by simp [List.range'] at hoff; exact hoff.1
    have hoff' : fs.map (·.offset) = List.range' (base + 1) fs.length := by simp [List.range'] at hoff; exact hoff.2
    simp only [eqsOf] at hks
    split at hks
    · rename_i k ks' hlk hks'
      cases hks
      · skip
        have hnm : f.name ≠ "_" := by have := hname f (List.mem_cons_self ..); simpa using this
        match cs, cs' with
        | [], _ => cases ks' <;> simp [eqAll] at he
        | _ :: _, [] => cases ks' <;> simp [eqAll] at he
        | x :: cs, y :: cs' =>
          have hx : xs[base]? = some (xs[base]'(by simp at hl; omega)) := Array.getElem?_eq_getElem _
          have hy : ys[base]? = some (ys[base]'(by simp at hl'; omega)) := Array.getElem?_eq_getElem _
          have hrx := hr 0 x _ rfl (by rw [Nat.add_zero]; exact hx)
          have hry := hr' 0 y _ rfl (by rw [Nat.add_zero]; exact hy)
          have hee : ∃ a b, eqLeaf k x y = some a ∧ e = (a && b) ∧ eqAll ks' cs cs' = some b := by
            cases ks' with
            | nil =>
              cases cs <;> cases cs' <;> simp [eqAll] at he
              · exact ⟨e, true, he, by simp, rfl⟩
            | cons k2 ks2 =>
              simp only [eqAll] at he
              split at he
              · rename_i a b ha hb
                cases he
                exact ⟨a, b, ha, rfl, hb⟩
              · cases he
          obtain ⟨a, b, ha, rfl, hb⟩ := hee
          have h1 := eqLeaf_run (P := P) (w := w) hlk ha hrx hry d
          simp only [Op.eqFields, hnm, ne_eq, not_false_eq_true, if_true, Sem.run_bind, hf, lk_part hlk hx, lk_part hlk hy, Result.andThen_ok, h1]
          cases a with
          | false => simp
          | true =>
            simp only [Bool.not_true, Bool.false_eq_true, if_false, Bool.true_and]
            refine ih ks' (base + 1) hoff' hks' (fun f hf => hname f (List.mem_cons_of_mem _ hf)) cs cs' b hb (by simp at hl; omega) (by simp at hl'; omega) (fun i c u hc hu => hr (i + 1) c u (by simpa using hc) (by rw [← hu]; congr 1; omega)) (fun i c u hc hu => hr' (i + 1) c u (by simpa using hc) (by rw [← hu]; congr 1; omega))
    · cases hks

theorem bin_run (H : Hyp X E w a ρ g nid) {op : BinOp} {t : Nat} {d e v : D} {ps : List Prop} (h : binD X.T op t d e = some (ps, v)) (hp : AllP ps) {x y : Operand} {p q : Value} (hu : Rep E w .slot d p) (hv : Rep E w .slot e q) :
    ∃ u, (do eqGuard op t x y p q; binOp op t p q).run X.P w = .ok u w ∧ Rep E w .slot v u := by
  unfold binD at h
  split at h <;> first | (cases h; done) | skip
  · rename_i k x1 k' y1
    rw [hu.int_inv, hv.int_inv, Sem.run_bind, guard_plain (by rintro (⟨_, _, h, _⟩ | ⟨h, _⟩) <;> cases h)]
    simp only [Result.andThen_ok]
    split at h
    · simp only [Option.some.injEq, Prod.mk.injEq] at h
      obtain ⟨rfl, rfl⟩ := h
      simp only [AllP, and_true] at hp
      exact ⟨_, by simp [binOp, Op.shift, show ¬ y1 < 0 by omega] <;> rfl, .int _ _ _⟩
    · simp only [Option.some.injEq, Prod.mk.injEq] at h
      obtain ⟨rfl, rfl⟩ := h
      simp only [AllP, and_true] at hp
      exact ⟨_, by simp [binOp, Op.shift, show ¬ y1 < 0 by omega] <;> rfl, .int _ _ _⟩
    · split at h
      · rename_i hkk
        subst hkk
        exact arith_run h hp t
      · cases h
  · rw [hu.str_inv, hv.str_inv, Sem.run_bind, guard_plain (by rintro (⟨_, _, h, _⟩ | ⟨h, _⟩) <;> cases h)]
    exact strOp_run h hp t
  · rw [hu.bool_inv, hv.bool_inv, Sem.run_bind, guard_plain (by rintro (⟨_, _, h, _⟩ | ⟨h, _⟩) <;> cases h)]
    simp only [Result.andThen_ok]
    have key : ∀ {k : TK}, kAt X.T t = some k → kindOf X.P t = some k := fun {k} hk => by
      unfold kAt at hk
      split at hk
      · rename_i i hi
        cases hk
        obtain ⟨inf, z, hT⟩ := tyOK H.T hi
        exact hT.kind
      · cases hk
    split at h <;> first | (cases h; done) | skip
    · rename_i hk
      simp only [Option.some.injEq, Prod.mk.injEq] at h
      obtain ⟨rfl, rfl⟩ := h
      exact ⟨_, by simp [binOp, Op.equal, Op.maxDepth, run_equalIn_bool' w 9999 t _ _ (kind_bool (key hk))] <;> rfl, .bool _ _⟩
    · rename_i hk
      simp only [Option.some.injEq, Prod.mk.injEq] at h
      obtain ⟨rfl, rfl⟩ := h
      exact ⟨_, by simp [binOp, Op.equal, Op.maxDepth, run_equalIn_bool' w 9999 t _ _ (kind_bool (key hk))] <;> rfl, .bool _ _⟩
  · rename_i cs cs'
    obtain ⟨us, rfl, hl, hr⟩ := hu.agg_inv
    obtain ⟨vs, rfl, hl', hr'⟩ := hv.agg_inv
    split at h <;> first | (cases h; done) | skip
    rename_i fs ks sz_ by_ ze_ ht
    obtain ⟨inf, z, hT⟩ := tyOK H.T ht
    obtain ⟨fields, hun, hfs, heq, _⟩ := kind_struct hT.kind
    unfold eqAt at heq
    split at heq
    · cases heq
    · rename_i hcond
      simp only [Bool.or_eq_true, not_or, Bool.not_eq_true, bne_eq_false_iff_eq] at hcond
      obtain ⟨⟨⟨hc1, hc2⟩, hc3⟩, hc4⟩ := hcond
      have hfo : X.P.fieldsOf t = fields := by simp [Program.fieldsOf, hun]
      have hg : (eqGuard op t x y (.agg us) (.agg vs)).run X.P w = .ok () w := run_eqGuard_agg w op t x y us vs hc2
      have key : ∀ e, eqAll ks cs cs' = some e → (Op.equalIn 10000 t (.agg us) (.agg vs)).run X.P w = .ok e w := fun e he => by
        rw [run_equalIn_agg w 9999 t us vs (by rw [hfo]; exact hun) hc1, hfo]
        refine eqAll_run (E := E) (w := w) 9998 fields.toList ks 0 (by rw [hc4]; simp [List.range_eq_range']) heq.symm (fun f hf => ?_) cs cs' e he (by simp [hl]) (by simp [hl']) (fun i c u hc hu => hr i c u hc (by simpa using hu)) (fun i c u hc hu => hr' i c u hc (by simpa using hu))
        have := List.any_eq_false.1 hc3 f hf
        simpa using this
      split at h <;> first | (cases h; done) | skip
      · rename_i e he
        simp only [Option.some.injEq, Prod.mk.injEq] at h
        obtain ⟨rfl, rfl⟩ := h
        exact ⟨.bool e, by rw [Sem.run_bind, hg]; simp only [Result.andThen_ok]; rw [run_eql_struct, key e he]; rfl, .bool _ _⟩
      · rename_i e he
        simp only [Option.some.injEq, Prod.mk.injEq] at h
        obtain ⟨rfl, rfl⟩ := h
        exact ⟨.bool (!e), by rw [Sem.run_bind, hg]; simp only [Result.andThen_ok]; rw [run_neq_struct, key e he]; rfl, .bool _ _⟩

end

end Go.Proofs.Ytnfeelacifllmaa.Ab

namespace Go.Proofs.Ytnfeelacifllmaa.Ab

section
variable {X : Ctx} {o : Oper} {E : Env} {w : World} {a : Act} {ρ : Operand → Option D} {g : Nat → Option Root} {nid : Nat}

theorem kAt_ok (H : Hyp X E w a ρ g nid) {t : Nat} {k : TK} (h : kAt X.T t = some k) : kindOf X.P t = some k := by
  unfold kAt at h
  split at h
  · rename_i i hi
    cases h
    obtain ⟨inf, z, hT⟩ := tyOK H.T hi
    exact hT.kind
  · cases h

theorem does_un (H : Hyp X E w a ρ g nid) {op : UnOp} {t : Nat} {x : Operand} {d v : D} (ho : o.op = .unOp op t x) (hx : ρ x = some d) (h : unD op d = some v) : Does X o E w a ⟨[], v, []⟩ := by
  have h1 := H.op _ _ hx
  unfold unD at h
  split at h <;> first | (cases h; done) | skip
  · cases h
    exact .pure (v := .int _ _) rfl (by simp [execOp, ho, h1.int_inv, Op.unary, Op.intArith] <;> rfl) (.int _ _ _)
  · cases h
    exact .pure (v := .bool _) rfl (by simp [execOp, ho, h1.bool_inv, Op.unary] <;> rfl) (.bool _ _)
  · cases h
    exact .pure (v := .int _ _) rfl (by simp only [execOp, ho, h1.int_inv, Op.unary, Op.intBits]; rfl) (.int _ _ _)

theorem does_conv_int (H : Hyp X E w a ρ g nid) {s t : Nat} {x : Operand} {ks : TK} {k k0 : IntKind} {n : Int} (ho : o.op = .convert s t x) (hs : kAt X.T s = some ks) (ht : kAt X.T t = some (.int k)) (hx : ρ x = some (.int k0 n)) : Does X o E w a ⟨[], .int k (k.wrap n), []⟩ := by
  have h1 := (H.op _ _ hx).int_inv
  have h2 := kind_int (kAt_ok H ht)
  obtain ⟨d, hd⟩ : ∃ d, X.P.underlying s = some d := by
    have := kAt_ok H hs
    unfold kindOf at this
    split at this <;> first | exact ⟨_, by assumption⟩ | cases this
  exact .pure (v := .int k (k.wrap n)) rfl (by simp [execOp, ho, h1, convert, run_underlying h2, run_underlying hd, Conv.intToInt]) (.int _ _ _)

theorem does_conv_str (H : Hyp X E w a ρ g nid) {s t : Nat} {x : Operand} {ks : TK} {v : ByteArray} (ho : o.op = .convert s t x) (hs : kAt X.T s = some ks) (ht : kAt X.T t = some .str) (hx : ρ x = some (.str v)) : Does X o E w a ⟨[], .str v, []⟩ := by
  have h1 := (H.op _ _ hx).str_inv
  have h2 := kind_str (kAt_ok H ht)
  obtain ⟨d, hd⟩ : ∃ d, X.P.underlying s = some d := by
    have := kAt_ok H hs
    unfold kindOf at this
    split at this <;> first | exact ⟨_, by assumption⟩ | cases this
  refine .pure (v := .string v) rfl ?_ (.str _ _)
  simp [execOp, ho, h1, convert, run_underlying h2, run_underlying hd]

def OptI (l : Option Int) (v : Option Value) : Prop := (l = none ∧ v = none) ∨ ∃ n k, l = some n ∧ v = some (.int k n)

theorem optV_ok (H : Hyp X E w a ρ g nid) {x : Option Operand} {l : Option Int} (h : optV ρ x = some l) : OptI l (x.map a.eval) := by
  cases x with
  | none =>
    simp only [optV, Option.some.injEq] at h
    exact .inl ⟨h.symm, rfl⟩
  | some y =>
    simp only [optV] at h
    split at h
    · rename_i k n hy
      cases h
      exact .inr ⟨n, k, rfl, by simp [(H.op _ _ hy).int_inv]⟩
    · cases h

theorem run_bounds {P : Program} {lo hi : Option Int} {n A B : Nat} {ps : List Prop} (h : cutB lo hi n = some (A, B, ps)) (hp : AllP ps) {cap : Nat} (hc : n ≤ cap) {isSlice : Bool} {vl vh : Option Value}
    (hl : OptI lo vl) (hh : OptI hi vh) :
    (Instr.sliceBounds isSlice n cap vl vh none).run P w = .ok (A, B, cap) w ∧ A ≤ B ∧ B ≤ n := by
  rcases hl with ⟨rfl, rfl⟩ | ⟨l, k, rfl, rfl⟩ <;> rcases hh with ⟨rfl, rfl⟩ | ⟨u, k', rfl, rfl⟩
  all_goals
    simp only [cutB, Option.some.injEq, Prod.mk.injEq] at h
    obtain ⟨rfl, rfl, rfl⟩ := h
    simp only [AllP, and_true] at hp
  · exact ⟨by simp [Instr.sliceBounds], Nat.zero_le _, Nat.le_refl _⟩
  · refine ⟨?_, Nat.zero_le _, by omega⟩
    have : u ≤ (cap : Int) := by omega
    simp [Instr.sliceBounds, Instr.sliceBound, asIntOf, hp.1, this]
  · refine ⟨?_, by omega, Nat.le_refl _⟩
    simp [Instr.sliceBounds, Instr.sliceBound, asIntOf, hp.1, hp.2]
  · refine ⟨?_, by omega, by omega⟩
    have h1 : u ≤ (cap : Int) := by omega
    have h2 : 0 ≤ u := by omega
    have h3 : l ≤ max u 0 := by omega
    simp [Instr.sliceBounds, Instr.sliceBound, asIntOf, h1, h2, h3, hp.1]

theorem does_cut_str (H : Hyp X E w a ρ g nid) {t : Nat} {x : Operand} {lo hi : Option Operand} {l u : Option Int} {s : ByteArray} {A B : Nat} {ps : List Prop} (ho : o.op = .slice t x lo hi none) (hl : optV ρ lo = some l) (hu : optV ρ hi = some u)
    (hx : ρ x = some (.str s)) (hk : kAt X.T t = some .str) (hc : cutB l u s.size = some (A, B, ps)) (hp : AllP ps) : Does X o E w a ⟨ps, .str (s.extract A B), []⟩ := by
  have h1 := (H.op _ _ hx).str_inv
  have h2 := kind_str (kAt_ok H hk)
  have h3 := (run_bounds (P := X.P) (w := w) hc hp (Nat.le_refl _) (isSlice := false) (optV_ok H hl) (optV_ok H hu)).1
  refine .pure (v := .string (s.extract A B)) rfl ?_ (.str _ _)
  simp only [execOp, ho, h1]
  simp only [Instr.sliceAt, Instr.slice, Sem.run_bind, run_underlying h2, Result.andThen_ok, Option.map_none]
  simp [run_underlying h2, h3]

theorem Rep.list_inv {m : Md} (hm : m = .slot ∨ m = .fz) {oo : Bool} {wd n : Nat} {xs : List D} {v : Value} (h : Rep E w m (.list oo wd n xs) v) :
    ∃ A cap, ∃ us : Nat → Nat → Value, v = .slice A n cap ∧ xs.length = n ∧ n ≤ cap ∧ (∀ x ∈ xs, x.cells.length = wd) ∧
      (0 < n → ∃ b, A = some b ∧ E.ow b.block = .fz ∧ b.block < w.heap.size ∧ ∀ (i j : Nat) x c, xs[i]? = some x → x.cells[j]? = some c → w.cell? (b.add (i * wd + j)) = some (us i j)) ∧
      ∀ (i j : Nat) x c, xs[i]? = some x → x.cells[j]? = some c → Rep E w .fz c (us i j) := by
  cases h with
  | flist m o wd n xs A cap us hm' hn hc hw ha h => exact ⟨A, cap, us, rfl, hn, hc, hw, ha, h⟩
  | olist m r p wd n xs A cap us hm' hn hc hw ha h => rcases hm with rfl | rfl <;> rcases hm' with hm' | hm' <;> cases hm'

theorem Rep.ref_inv {m : Md} {r wd : Nat} {vw : Option (Nat × Nat)} {v : Value} (h : Rep E w m (.ref r wd vw) v) : (m = .slot ∨ ∃ r' p', m = .box r' p') ∧ E.st r ≠ .fresh ∧
    (Alive E r → ∃ A cap, v = .slice A (Vw E r vw).2 cap ∧ (Vw E r vw).2 ≤ cap ∧ (Vw E r vw).1 + (Vw E r vw).2 ≤ E.len r ∧ (0 < cap → A = some ((E.adr r).add ((Vw E r vw).1 * wd)) ∧ Shp E w r (((Vw E r vw).1 + cap) * wd))) := by
  cases h with
  | ref m r wd vw v hm hs h => exact ⟨hm, hs, h⟩

theorem run_slice {P : Program} {t e : Nat} {te : TI} {i : TypeInfo} {z : Value} (hu : P.underlying t = some (.slice e)) (hT : TyOK P e te i z) {A : Option Addr} {n cap lo hi : Nat} {vl vh : Option Value}
    (hb : (Instr.sliceBounds true n cap vl vh none).run P w = .ok (lo, hi, cap) w) :
    (Instr.sliceAt t (.slice A n cap) vl vh none).run P w = .ok (.slice (if cap = lo then A else A.map (·.add (lo * te.size))) (hi - lo) (cap - lo)) w := by
  simp only [Instr.sliceAt, Instr.slice, Sem.run_bind, run_underlying hu, Result.andThen_ok]
  simp [run_underlying hu, hb, sizeOf, typeInfo, hT.info, hT.size]

theorem take_drop_get {α : Type} {xs : List α} {k n i : Nat} {x : α} (h : ((xs.drop k).take n)[i]? = some x) : xs[k + i]? = some x ∧ i < n := by
  rw [List.getElem?_take] at h
  split at h
  · rename_i hlt
    rw [List.getElem?_drop] at h
    exact ⟨h, hlt⟩
  · cases h

theorem does_cut_list (H : Hyp X E w a ρ g nid) {t e : Nat} {te : TI} {x : Operand} {lo hi : Option Operand} {l u : Option Int} {oo : Bool} {wd n : Nat} {xs : List D} {A B : Nat} {ps : List Prop} {n' : Nat} {xs' : List D} (ho : o.op = .slice t x lo hi none) (hl : optV ρ lo = some l) (hu : optV ρ hi = some u)
    (hx : ρ x = some (.list oo wd n xs)) (hk : kAt X.T t = some (.slice e)) (hte : look e X.T = some te) (hw : Nat.beq wd te.size = true) (hc : cutB l u n = some (A, B, ps)) (hp : AllP ps) (hn' : n' = B - A) (hxs : (xs.drop A).take (B - A) = xs')
    {qs : List Prop} : Does X o E w a ⟨qs, .list false wd n' xs', []⟩ := by
  obtain ⟨ad, cap, us, hv, hlen, hcap, hwd, ha, hr⟩ := (H.op _ _ hx).list_inv (.inl rfl)
  obtain ⟨inf, z, hT⟩ := tyOK H.T hte
  have h2 := kind_slice (kAt_ok H hk)
  have hw' := Nat.eq_of_beq_eq_true hw
  obtain ⟨h3, h4, h5⟩ := run_bounds (P := X.P) (w := w) hc hp hcap (isSlice := true) (optV_ok H hl) (optV_ok H hu)
  have h6 := run_slice (w := w) h2 hT (A := ad) h3
  subst hn' hxs
  refine .pure (v := .slice (if cap = A then ad else ad.map (·.add (A * te.size))) (B - A) (cap - A)) rfl (by simp only [execOp, ho, hv, Option.map_none]; rw [Sem.run_bind, h6]; rfl) ?_
  refine .flist _ _ _ _ _ _ _ (fun i j => us (A + i) j) (.inl rfl) (by simp; omega) (by omega) (fun x hx => hwd x (List.mem_of_mem_drop (List.mem_of_mem_take hx))) (fun h0 => ?_) (fun i j x c hx hj => hr (A + i) j x c (take_drop_get hx).1 hj)
  obtain ⟨b, rfl, hb1, hb2, hb3⟩ := ha (by omega)
  refine ⟨b.add (A * te.size), by rw [if_neg (by omega)]; rfl, by rw [add_block]; exact hb1, by rw [add_block]; exact hb2, fun i j x c hx hj => ?_⟩
  rw [add_add, ← hw', show A * wd + (i * wd + j) = (A + i) * wd + j by rw [Nat.add_mul]; omega]
  exact hb3 (A + i) j x c (take_drop_get hx).1 hj

def vlo : Option (Nat × Nat) → Nat
  | none => 0
  | some v => v.1
def vln (R : Root) : Option (Nat × Nat) → Nat
  | none => R.n
  | some v => v.2

theorem vw_eq {r : Nat} {R : Root} (hR : RootRel E w r R) (vw : Option (Nat × Nat)) : Vw E r vw = (vlo vw, vln R vw) := by
  cases vw with
  | none => simp [Vw, hR.len, vlo, vln]
  | some v => rfl

theorem does_cut_ref (H : Hyp X E w a ρ g nid) {t e : Nat} {te : TI} {x : Operand} {lo hi : Option Operand} {l u : Option Int} {r wd : Nat} {vw : Option (Nat × Nat)} {R : Root} {A B : Nat} {ps : List Prop} (ho : o.op = .slice t x lo hi none) (hl : optV ρ lo = some l) (hu : optV ρ hi = some u)
    (hx : ρ x = some (.ref r wd vw)) (hk : kAt X.T t = some (.slice e)) (hte : look e X.T = some te) (hw : Nat.beq wd te.size = true) (hg : gw g r wd = some R)
    (hc : cutB l u (vln R vw) = some (A, B, ps)) (hp : AllP ps) {qs : List Prop} :
    Does X o E w a ⟨qs, .ref r wd (some (vlo vw + A, B - A)), []⟩ := by
  obtain ⟨hg', hRw⟩ := gw_some hg
  have hR := H.rt _ _ hg'
  have hV := vw_eq hR vw
  obtain ⟨_, hst, hal⟩ := (H.op _ _ hx).ref_inv
  obtain ⟨ad, cap, hv, hcap, hlen, ha⟩ := hal hR.alive
  rw [hV] at hv hcap hlen ha
  generalize vln R vw = n at *
  generalize vlo vw = k at *
  obtain ⟨inf, z, hT⟩ := tyOK H.T hte
  have h2 := kind_slice (kAt_ok H hk)
  have hw' := Nat.eq_of_beq_eq_true hw
  obtain ⟨h3, h4, h5⟩ := run_bounds (P := X.P) (w := w) hc hp hcap (isSlice := true) (optV_ok H hl) (optV_ok H hu)
  have h6 := run_slice (w := w) h2 hT (A := ad) h3
  refine .pure (v := .slice (if cap = A then ad else ad.map (·.add (A * te.size))) (B - A) (cap - A)) rfl (by simp only [execOp, ho, hv, Option.map_none]; rw [Sem.run_bind, h6]; rfl) ?_
  refine .ref _ _ _ _ _ (.inl rfl) hst fun _ => ⟨_, cap - A, rfl, by simp only [Vw]; omega, by simp only [Vw] at *; omega, fun h0 => ?_⟩
  obtain ⟨h7, h8⟩ := ha (by omega)
  subst h7
  refine ⟨by rw [if_neg (by omega)]; simp only [Option.map_some, Vw]; rw [add_add, ← hw', ← Nat.add_mul], ?_⟩
  have : k + A + (cap - A) = k + cap := by omega
  simp only [Vw]
  rw [this]
  exact h8

theorem does_fieldAddr_ptr (H : Hyp X E w a ρ g nid) {s : Nat} {x : Operand} {f r wd i j : Nat} {ti : TI} {fs : List FI} {eq : Option (List LK)} {fi : FI} {R : Root} (ho : o.op = .fieldAddr s x f) (hs : look s X.T = some ti) (hk : ti.k = .strct fs eq) (hf : fs[f]? = some fi)
    (hx : ρ x = some (.ptr r wd i j)) (hg : g r = some R) (h0 : Nat.blt 0 fi.size = true) : Does X o E w a ⟨[], .ptr r wd i (j + fi.off), []⟩ := by
  obtain ⟨inf, z, hT⟩ := tyOK H.T hs
  obtain ⟨fields, hun, hfs, _, hall⟩ := kind_struct (hk ▸ hT.kind)
  have h1 := H.op _ _ hx
  obtain ⟨hm, hst, h2⟩ := h1.ptr_inv
  have h2 := h2 (H.rt _ _ hg).alive
  rw [hfs, List.getElem?_map, Option.map_eq_some_iff] at hf
  obtain ⟨fl, hfl, rfl⟩ := hf
  have hfl' : fields[f]? = some fl := by simpa using hfl
  have hfi := List.all_eq_true.1 hall fl (List.mem_of_getElem? hfl)
  simp only [Bool.and_eq_true, Option.isSome_iff_exists] at hfi
  obtain ⟨⟨fin, hfin⟩, _⟩ := hfi
  have hsz : fin.size ≠ 0 := by simp [Nat.blt, Program.cellsOf, hfin] at h0; omega
  refine .pure (v := .pointer (some ((E.adr r).add (i * wd + (j + fl.offset))))) rfl ?_ (.ptr _ _ _ _ _ _ (.inl rfl) hst fun _ => rfl)
  simp [execOp, ho, Instr.fieldAt, run_underlying hun, hfl', h2, Instr.sureAddr, fieldPlace, sizeOf, typeInfo, hfin, hsz, add_add, Nat.add_assoc]

theorem does_fieldAddr_fptr (H : Hyp X E w a ρ g nid) {s : Nat} {x : Operand} {f wd i j : Nat} {xs : List D} {ti : TI} {fs : List FI} {eq : Option (List LK)} {fi : FI} (ho : o.op = .fieldAddr s x f) (hs : look s X.T = some ti) (hk : ti.k = .strct fs eq) (hf : fs[f]? = some fi)
    (hx : ρ x = some (.fptr wd xs i j)) (h0 : Nat.blt 0 fi.size = true) : Does X o E w a ⟨[], .fptr wd xs i (j + fi.off), []⟩ := by
  obtain ⟨inf, z, hT⟩ := tyOK H.T hs
  obtain ⟨fields, hun, hfs, _, hall⟩ := kind_struct (hk ▸ hT.kind)
  have h1 := H.op _ _ hx
  rw [hfs, List.getElem?_map, Option.map_eq_some_iff] at hf
  obtain ⟨fl, hfl, rfl⟩ := hf
  have hfl' : fields[f]? = some fl := by simpa using hfl
  have hfi := List.all_eq_true.1 hall fl (List.mem_of_getElem? hfl)
  simp only [Bool.and_eq_true, Option.isSome_iff_exists] at hfi
  obtain ⟨⟨fin, hfin⟩, _⟩ := hfi
  have hsz : fin.size ≠ 0 := by simp [Nat.blt, Program.cellsOf, hfin] at h0; omega
  generalize hv : a.eval x = v at h1
  cases h1 with
  | fptr m wd xs i j b us hm hw ha h =>
    refine .pure (v := .pointer (some (b.add (i * wd + (j + fl.offset))))) rfl ?_ (.fptr _ _ _ _ _ _ us (.inl rfl) hw ha h)
    simp [execOp, ho, Instr.fieldAt, run_underlying hun, hfl', hv, Instr.sureAddr, fieldPlace, sizeOf, typeInfo, hfin, hsz, add_add, Nat.add_assoc]

theorem run_isAgg_field {P : Program} {f : Field} (h : (P.underlying f.type).isSome = true) : (isAgg f.type).run P w = .ok (aggAt P f.type) w := by
  obtain ⟨d, hd⟩ := Option.isSome_iff_exists.1 h
  unfold isAgg aggAt
  simp only [Sem.run_bind, run_underlying hd, Result.andThen_ok, hd]
  cases d <;> rfl

theorem does_field (H : Hyp X E w a ρ g nid) {t : Nat} {x : Operand} {f : Nat} {ti : TI} {fs : List FI} {eq : Option (List LK)} {fi : FI} {cs : List D} {d : D} (ho : o.op = .field t x f) (ht : look t X.T = some ti) (hk : ti.k = .strct fs eq) (hf : fs[f]? = some fi)
    (hx : ρ x = some (.agg cs)) (hle : Nat.ble (fi.off + fi.size) cs.length = true) (hd : asOne fi.agg ((cs.drop fi.off).take fi.size) = some d) : Does X o E w a ⟨[], d, []⟩ := by
  obtain ⟨inf, z, hT⟩ := tyOK H.T ht
  obtain ⟨fields, hun, hfs, _, hall⟩ := kind_struct (hk ▸ hT.kind)
  obtain ⟨vs, hv, hl, hr⟩ := (H.op _ _ hx).agg_inv
  rw [hfs, List.getElem?_map, Option.map_eq_some_iff] at hf
  obtain ⟨fl, hfl, rfl⟩ := hf
  have hfl' : fields[f]? = some fl := by simpa using hfl
  have hfi := List.all_eq_true.1 hall fl (List.mem_of_getElem? hfl)
  simp only [Bool.and_eq_true] at hfi
  obtain ⟨hfi, hfu⟩ := hfi
  obtain ⟨fin, hfin⟩ := Option.isSome_iff_exists.1 hfi
  have hagg := run_isAgg_field (w := w) hfu
  simp only at hle hd
  have hle := Nat.le_of_ble_eq_true hle
  have hcells : X.P.cellsOf fl.type = fin.size := by simp [Program.cellsOf, hfin]
  rw [hcells] at hle hd
  have hone := asOne_ok (E := E) (w := w) hd (us := (vs.extract fl.offset (fl.offset + fin.size)).toList) (by simp; omega) (fun k c u hc hu => by
    have h1 := take_drop_get hc
    refine hr (fl.offset + k) c u h1.1 ?_
    have h2 : (vs.extract fl.offset (fl.offset + fin.size))[k]? = some u := by rw [← Array.getElem?_toList]; exact hu
    rw [Array.getElem?_extract] at h2
    split at h2
    · exact h2
    · cases h2)
  cases ha : aggAt X.P fl.type with
  | true =>
    simp only [ha, if_true] at hone
    exact .pure (v := .agg (vs.extract fl.offset (fl.offset + fin.size))) rfl (by simp [execOp, ho, Instr.field, run_underlying hun, hfl', hv, part, asAgg, hagg, ha, sizeOf, typeInfo, hfin]) (by rw [Array.toArray_toList] at hone; exact hone)
  | false =>
    simp only [ha, Bool.false_eq_true, if_false] at hone
    obtain ⟨u, hu, hru⟩ := hone
    have h1 : vs[fl.offset]? = some u := by
      have : (vs.extract fl.offset (fl.offset + fin.size))[0]? = some u := by
        rw [← Array.getElem?_toList, hu]
        rfl
      rw [Array.getElem?_extract] at this
      split at this
      · simpa using this
      · cases this
    exact .pure (v := u) rfl (by simp [execOp, ho, Instr.field, run_underlying hun, hfl', hv, part, asAgg, hagg, ha, h1]) hru


theorem run_indexAt {P : Program} {t e : Nat} {te : TI} {i : TypeInfo} {z : Value} (hu : P.underlying t = some (.slice e)) (hT : TyOK P e te i z) {b : Addr} {n cap : Nat} {kk : IntKind} {k : Int} (h0 : 0 ≤ k) (h1 : k < (n : Int)) :
    (Instr.indexAt t (.slice (some b) n cap) (.int kk k)).run P w = .ok (.pointer (some (b.add (k.toNat * te.size)))) w := by
  simp [Instr.indexAt, asIntOf, run_underlying hu, h0, h1, sizeOf, typeInfo, hT.info, hT.size]

theorem does_index_list (H : Hyp X E w a ρ g nid) {t e : Nat} {te : TI} {x i : Operand} {oo : Bool} {wd n : Nat} {xs : List D} {kk : IntKind} {k : Int} (ho : o.op = .indexAddr t x i) (hk : kAt X.T t = some (.slice e)) (hte : look e X.T = some te)
    (hx : ρ x = some (.list oo wd n xs)) (hi : ρ i = some (.int kk k)) (hw : Nat.beq wd te.size = true) (h0 : 0 ≤ k) (h1 : k < (n : Int)) {qs : List Prop} : Does X o E w a ⟨qs, .fptr wd xs k.toNat 0, []⟩ := by
  obtain ⟨A, cap, us, hv, hlen, hcap, hwd, ha, hr⟩ := (H.op _ _ hx).list_inv (.inl rfl)
  obtain ⟨inf, z, hT⟩ := tyOK H.T hte
  have hw' := Nat.eq_of_beq_eq_true hw
  obtain ⟨b, rfl, hb⟩ := ha (by omega)
  have h6 := run_indexAt (w := w) (kind_slice (kAt_ok H hk)) hT (b := b) (n := n) (cap := cap) (kk := kk) h0 h1
  refine .pure (v := .pointer (some (b.add (k.toNat * wd + 0)))) rfl (by simp [execOp, ho, hv, (H.op _ _ hi).int_inv, h6, hw']) (.fptr _ _ _ _ _ _ us (.inl rfl) hwd hb hr)

theorem does_index_ref (H : Hyp X E w a ρ g nid) {t e : Nat} {te : TI} {x i : Operand} {r wd : Nat} {vw : Option (Nat × Nat)} {R : Root} {kk : IntKind} {k : Int} (ho : o.op = .indexAddr t x i) (hk : kAt X.T t = some (.slice e)) (hte : look e X.T = some te)
    (hx : ρ x = some (.ref r wd vw)) (hi : ρ i = some (.int kk k)) (hg : gw g r wd = some R) (hw : Nat.beq wd te.size = true) (h0 : 0 ≤ k) (h1 : k < (vln R vw : Int)) {qs : List Prop} : Does X o E w a ⟨qs, .ptr r wd (vlo vw + k.toNat) 0, []⟩ := by
  obtain ⟨hg', hRw⟩ := gw_some hg
  have hR := H.rt _ _ hg'
  have hV := vw_eq hR vw
  obtain ⟨_, hst, hal⟩ := (H.op _ _ hx).ref_inv
  obtain ⟨A, cap, hv, hcap, hlen, ha⟩ := hal hR.alive
  rw [hV] at hv hcap hlen ha
  obtain ⟨inf, z, hT⟩ := tyOK H.T hte
  have hw' := Nat.eq_of_beq_eq_true hw
  obtain ⟨rfl, hb⟩ := ha (by simp only at hcap; omega)
  have h6 := run_indexAt (w := w) (kind_slice (kAt_ok H hk)) hT (b := (E.adr r).add (vlo vw * wd)) (n := vln R vw) (cap := cap) (kk := kk) h0 h1
  refine .pure (v := .pointer (some ((E.adr r).add ((vlo vw + k.toNat) * wd + 0)))) rfl ?_ (.ptr _ _ _ _ _ _ (.inl rfl) hst fun _ => rfl)
  simp only [execOp, ho, hv, (H.op _ _ hi).int_inv]
  rw [Sem.run_bind, h6]
  simp [add_add, ← hw', Nat.add_mul]

theorem does_index_arr (H : Hyp X E w a ρ g nid) {t n e : Nat} {te : TI} {x i : Operand} {wd i0 j0 : Nat} {xs : List D} {kk : IntKind} {k : Int} (ho : o.op = .indexAddr t x i) (hk : kAt X.T t = some (.arr n e)) (hte : look e X.T = some te)
    (hx : ρ x = some (.fptr wd xs i0 j0)) (hi : ρ i = some (.int kk k)) (hn : Nat.blt 1 n = true) (h0 : 0 ≤ k) (h1 : k < (n : Int)) {qs : List Prop} : Does X o E w a ⟨qs, .fptr wd xs i0 (j0 + k.toNat * te.size), []⟩ := by
  obtain ⟨inf, z, hT⟩ := tyOK H.T hte
  have h1' := H.op _ _ hx
  have h2 := kind_arr (kAt_ok H hk)
  have hn' : ¬ n ≤ 1 := by simp [Nat.blt] at hn; omega
  generalize hv : a.eval x = v at h1'
  cases h1' with
  | fptr m wd xs i j b us hm hw ha h =>
    refine .pure (v := .pointer (some (b.add (i0 * wd + (j0 + k.toNat * te.size))))) rfl ?_ (.fptr _ _ _ _ _ _ us (.inl rfl) hw ha h)
    simp [execOp, ho, hv, (H.op _ _ hi).int_inv, Instr.indexAt, asIntOf, run_underlying h2, Instr.sureAddr, h0, h1, sizeOf, typeInfo, hT.info, hT.size, add_add, Nat.add_assoc]

theorem does_index_arrf (H : Hyp X E w a ρ g nid) {t n e m : Nat} {te : TI} {x i : Operand} {wd i0 j0 : Nat} {xs : List D} {kk : IntKind} {k : Int} (ho : o.op = .indexAddr t x i) (hk : kAt X.T t = some (.arr n e)) (hte : look e X.T = some te)
    (hx : ρ x = some (.fptr wd xs i0 j0)) (hi : ρ i = some (.int kk k)) (hm : Nat.blt m n = true) (h0 : k = (m : Int)) {qs : List Prop} : Does X o E w a ⟨qs, .fptr wd xs i0 (j0 + m * te.size), []⟩ := by
  obtain ⟨inf, z, hT⟩ := tyOK H.T hte
  have h1' := H.op _ _ hx
  have h2 := kind_arr (kAt_ok H hk)
  have hm' : m < n := by simp [Nat.blt] at hm; omega
  subst h0
  generalize hv : a.eval x = v at h1'
  cases h1' with
  | fptr m' wd xs i j b us hm hw ha h =>
    refine .pure (v := .pointer (some (b.add (i0 * wd + (j0 + m * te.size))))) rfl ?_ (.fptr _ _ _ _ _ _ us (.inl rfl) hw ha h)
    simp [execOp, ho, hv, (H.op _ _ hi).int_inv, Instr.indexAt, asIntOf, run_underlying h2, Instr.sureAddr, hm', sizeOf, typeInfo, hT.info, hT.size, add_add, Nat.add_assoc]

theorem does_index_arrp (H : Hyp X E w a ρ g nid) {t n e m : Nat} {te : TI} {x i : Operand} {r wd i0 j0 : Nat} {R : Root} {kk : IntKind} {k : Int} (ho : o.op = .indexAddr t x i) (hk : kAt X.T t = some (.arr n e)) (hte : look e X.T = some te)
    (hx : ρ x = some (.ptr r wd i0 j0)) (hg : g r = some R) (hi : ρ i = some (.int kk k)) (hm : Nat.blt m n = true) (h0 : k = (m : Int)) {qs : List Prop} : Does X o E w a ⟨qs, .ptr r wd i0 (j0 + m * te.size), []⟩ := by
  obtain ⟨inf, z, hT⟩ := tyOK H.T hte
  have h1' := H.op _ _ hx
  obtain ⟨_, hst, hv⟩ := h1'.ptr_inv
  have hv := hv (H.rt _ _ hg).alive
  have h2 := kind_arr (kAt_ok H hk)
  have hm' : m < n := by simp [Nat.blt] at hm; omega
  subst h0
  refine .pure (v := .pointer (some ((E.adr r).add (i0 * wd + (j0 + m * te.size))))) rfl ?_ (.ptr _ _ _ _ _ _ (.inl rfl) hst fun _ => rfl)
  simp [execOp, ho, hv, (H.op _ _ hi).int_inv, Instr.indexAt, asIntOf, run_underlying h2, Instr.sureAddr, hm', sizeOf, typeInfo, hT.info, hT.size, add_add, Nat.add_assoc]

theorem does_index_val (H : Hyp X E w a ρ g nid) {t n e m : Nat} {te : TI} {x i : Operand} {cs : List D} {d : D} {kk : IntKind} {k : Int} (ho : o.op = .index t x i) (hk : kAt X.T t = some (.arr n e)) (hte : look e X.T = some te)
    (hx : ρ x = some (.agg cs)) (hi : ρ i = some (.int kk k)) (hm : Nat.blt m n = true) (hle : Nat.ble (m * te.size + te.size) cs.length = true) (hd : asOne te.k.agg ((cs.drop (m * te.size)).take te.size) = some d) (h0 : k = (m : Int)) {qs : List Prop} : Does X o E w a ⟨qs, d, []⟩ := by
  obtain ⟨inf, z, hT⟩ := tyOK H.T hte
  obtain ⟨vs, hv, hl, hr⟩ := (H.op _ _ hx).agg_inv
  have h2 := kind_arr (kAt_ok H hk)
  have hm' : m < n := by simp [Nat.blt] at hm; omega
  have hle := Nat.le_of_ble_eq_true hle
  have hagg := kind_agg hT.kind w
  subst h0
  have hone := asOne_ok (E := E) (w := w) hd (us := (vs.extract (m * te.size) (m * te.size + te.size)).toList) (by simp; omega) (fun k c u hc hu => by
    have h1 := take_drop_get hc
    refine hr (m * te.size + k) c u h1.1 ?_
    have h2 : (vs.extract (m * te.size) (m * te.size + te.size))[k]? = some u := by rw [← Array.getElem?_toList]; exact hu
    rw [Array.getElem?_extract] at h2
    split at h2
    · exact h2
    · cases h2)
  cases ha : te.k.agg with
  | true =>
    simp only [ha, if_true] at hone
    exact .pure (v := .agg (vs.extract (m * te.size) (m * te.size + te.size))) rfl (by simp [execOp, ho, hv, (H.op _ _ hi).int_inv, Instr.index, asIntOf, run_underlying h2, hm', part, hagg, ha, sizeOf, typeInfo, hT.info, hT.size]) (by rw [Array.toArray_toList] at hone; exact hone)
  | false =>
    simp only [ha, Bool.false_eq_true, if_false] at hone
    obtain ⟨u, hu, hru⟩ := hone
    have h1 : vs[m * te.size]? = some u := by
      have : (vs.extract (m * te.size) (m * te.size + te.size))[0]? = some u := by
        rw [← Array.getElem?_toList, hu]
        rfl
      rw [Array.getElem?_extract] at this
      split at this
      · simpa using this
      · cases this
    rw [hT.size] at h1
    exact .pure (v := u) rfl (by simp [execOp, ho, hv, (H.op _ _ hi).int_inv, Instr.index, asIntOf, run_underlying h2, hm', part, hagg, ha, h1, sizeOf, typeInfo, hT.info]) hru

theorem byte_at {s : ByteArray} {k : Nat} {n : Nat} (h : (s.data.toList[k]?.map fun b => (b.toNat : Int)) = some (n : Int)) : ∃ b, s[k]? = some b ∧ b.toNat = n := by
  rw [Option.map_eq_some_iff] at h
  obtain ⟨b, hb, he⟩ := h
  refine ⟨b, ?_, by omega⟩
  rw [Array.getElem?_toList] at hb
  obtain ⟨hlt, hb'⟩ := Array.getElem?_eq_some_iff.1 hb
  have hlt' : k < s.size := hlt
  rw [getElem?_pos s k hlt']
  exact congrArg some hb'

theorem does_index_str (H : Hyp X E w a ρ g nid) {t : Nat} {x i : Operand} {s : ByteArray} {kk : IntKind} {k : Int} {n : Nat} (ho : o.op = .index t x i) (hk : kAt X.T t = some .str) (hx : ρ x = some (.str s)) (hi : ρ i = some (.int kk k))
    (h0 : 0 ≤ k) (h1 : k < (s.size : Int)) (hb : (s.data.toList[k.toNat]?.map fun b => (b.toNat : Int)) = some (n : Int)) {qs : List Prop} : Does X o E w a ⟨qs, .int .u8 n, []⟩ := by
  obtain ⟨b, hb', rfl⟩ := byte_at hb
  exact .pure (v := .int .u8 b.toNat) rfl (by simp [execOp, ho, (H.op _ _ hx).str_inv, (H.op _ _ hi).int_inv, Instr.index, asIntOf, run_underlying (kind_str (kAt_ok H hk)), h0, hb']) (.int _ _ _)

theorem run_builtin {P : Program} {c : Call} {b : Builtin} {v : Value} {w' : World} (ho : o.op = .call c) (hc : c.callee = .builtin b)
    (h : (builtin b c.argTypes o.type (c.args.map fun | .const _ => true | _ => false) (c.args.map a.eval)).run P w = .ok (.value v) w') : (execOp a.eval o).run P w = .ok (.value v) w' := by
  simp only [execOp, ho, resolve, hc]
  rw [Sem.run_bind]
  simp only [Sem.run_pure, Result.andThen_ok, invoke]
  exact h

theorem does_len (H : Hyp X E w a ρ g nid) {c : Call} {x : Operand} {t : Nat} {k : TK} {n : Nat} (ho : o.op = .call c) (hc : c.callee = .builtin .len) (ht : c.argTypes.toList[0]? = some t) (hx : c.args.toList = [x]) (hk : kAt X.T t = some k)
    (hv : (k = .str ∧ ∃ s, ρ x = some (.str s) ∧ n = s.size) ∨ (∃ e, k = .slice e) ∧ (∃ A cap, a.eval x = .slice A n cap)) : Does X o E w a ⟨[], .int .i64 n, []⟩ := by
  have ha : c.args = #[x] := by
    rw [← Array.toArray_toList (xs := c.args), hx]
  have ht' : c.argTypes[0]? = some t := by simpa using ht
  refine .pure (v := .int .i64 n) rfl (run_builtin ho hc ?_) (.int _ _ _)
  rcases hv with ⟨rfl, s, hs, rfl⟩ | ⟨⟨e, rfl⟩, A, cap, hv⟩
  · have h1 := (H.op _ _ hs).str_inv
    simp [builtin, Builtin.len_, ha, ht', h1, run_underlying (kind_str (kAt_ok H hk)), goInt]
  · simp [builtin, Builtin.len_, ha, ht', hv, run_underlying (kind_slice (kAt_ok H hk)), goInt]

theorem mm_run {P : Program} {mn : Bool} {k : IntKind} : ∀ {ds : List D} {a0 : Int} {d : D} (vs : List Value), stepOp.mm mn k a0 ds = some d → vs.length = ds.length → (∀ (i : Nat) c u, ds[i]? = some c → vs[i]? = some u → Rep E w .slot c u) →
    ∃ u, (vs.foldlM (if mn then Builtin.min2 else Builtin.max2) (.int k a0)).run P w = .ok u w ∧ Rep E w .slot d u
  | [], a0, d, vs, h, hl, _ => by
    simp only [stepOp.mm, Option.some.injEq] at h
    subst h
    obtain rfl : vs = [] := List.eq_nil_of_length_eq_zero (by simpa using hl)
    exact ⟨.int k a0, by simp, .int _ _ _⟩
  | x :: ds, a0, d, [], h, hl, _ => by simp at hl
  | x :: ds, a0, d, v :: vs, h, hl, hr => by
    unfold stepOp.mm at h
    split at h
    · rename_i heq
      cases heq
    · rename_i k' b r heq
      obtain ⟨rfl, rfl⟩ := List.cons.inj heq
      split at h
      · rename_i hkk
        subst hkk
        have h1 := (hr 0 _ v rfl rfl).int_inv
        subst h1
        obtain ⟨u, h2, h3⟩ := mm_run (P := P) vs h (by simpa using hl) (fun i c u hc hu => hr (i + 1) c u (by simpa using hc) (by simpa using hu))
        refine ⟨u, ?_, h3⟩
        rw [List.foldlM_cons]
        cases mn
        · simp only [Bool.false_eq_true, if_false] at h2 ⊢
          simp only [Builtin.max2, Sem.run_bind, Sem.run_pure, Result.andThen_ok]
          exact h2
        · simp only [if_true] at h2 ⊢
          simp only [Builtin.min2, Sem.run_bind, Sem.run_pure, Result.andThen_ok]
          exact h2
      · cases h
    · cases h

end
end Go.Proofs.Ytnfeelacifllmaa.Ab

namespace Go.Proofs.Ytnfeelacifllmaa.Ab

section
variable {X : Ctx} {o : Oper} {E : Env} {w : World} {a : Act} {ρ : Operand → Option D} {g : Nat → Option Root} {nid : Nat}

theorem does_minmax (H : Hyp X E w a ρ g nid) {c : Call} {mn : Bool} {out : Out} (ho : o.op = .call c) (hc : c.callee = .builtin (if mn then .min else .max)) (h : stepOp.minmax mn c ρ = some out) : Does X o E w a out := by
  unfold stepOp.minmax at h
  split at h
  · rename_i k a0 r hv
    split at h
    · rename_i d hd
      cases h
      obtain ⟨hl, hr⟩ := vals_ok H hv
      cases hxs : c.args.toList with
      | nil => simp [hxs] at hl
      | cons x0 xs =>
        have h0 := (hr 0 _ x0 rfl (by rw [hxs]; rfl)).int_inv
        obtain ⟨u, h2, h3⟩ := mm_run (P := X.P) (w := w) (E := E) (xs.map a.eval) hd (by rw [hxs] at hl; simpa using hl.symm) (fun i c' u hc' hu => by
          simp only [List.getElem?_map, Option.map_eq_some_iff] at hu
          obtain ⟨x, hx, rfl⟩ := hu
          exact hr (i + 1) c' x (by simpa using hc') (by rw [hxs]; simpa using hx))
        have hl2 : (c.args.map a.eval).toList = .int k a0 :: xs.map a.eval := by simp [hxs, h0]
        refine .pure (v := u) rfl (run_builtin ho hc ?_) h3
        cases mn
        · simp only [Bool.false_eq_true, if_false] at h2 ⊢
          simp [builtin, Builtin.max_, hxs, h0, h2]
        · simp only [if_true] at h2 ⊢
          simp [builtin, Builtin.min_, hxs, h0, h2]
    · cases h
  · cases h

theorem bytesD_get {s : ByteArray} {i : Nat} {x : D} (h : (bytesD s)[i]? = some x) : ∃ b, s.data.toList[i]? = some b ∧ x = .int .u8 b.toNat := by
  unfold bytesD at h
  rw [List.getElem?_map, Option.map_eq_some_iff] at h
  obtain ⟨b, hb, rfl⟩ := h
  exact ⟨b, hb, rfl⟩

theorem bytesD_length (s : ByteArray) : (bytesD s).length = s.size := by
  simp [bytesD]

theorem strOfNums_self (s : ByteArray) : strOfNums (s.data.toList.map fun x => (x.toNat : Int)) = s := by
  cases s with
  | mk d =>
    have h : ∀ l : List UInt8, l.map ((fun n : Int => UInt8.ofNat n.toNat) ∘ fun x : UInt8 => (x.toNat : Int)) = l := by
      intro l
      induction l with
      | nil => rfl
      | cons x r ih => simp [ih]
    simp only [strOfNums, List.map_map, h]

theorem run_toString {P : Program} {src dst e : TypeId} (hs : P.underlying src = some (.slice e)) (he : P.underlying e = some (.int .u8)) (hd : P.underlying dst = some .string) {s : ByteArray} {A : Option Addr} {cap : Nat}
    (h : 0 < s.size → ∃ b, A = some b ∧ ∀ (i : Nat) y, s.data.toList[i]? = some y → w.cell? (b.add i) = some (.int .u8 y.toNat)) :
    (convert src dst (.slice A s.size cap)).run P w = .ok (.string s) w := by
  have hlen : s.data.toList.length = s.size := by simp
  rcases Nat.eq_zero_or_pos s.size with h0 | h0
  · have hs0 : s = ⟨#[]⟩ := by
      cases s with
      | mk d => congr 1; exact Array.eq_empty_of_size_eq_zero h0
    rw [h0]
    cases A with
    | none => rw [run_convert_bytes_nil w src e hs he 0 cap dst hd, hs0]; rfl
    | some b =>
      rw [run_convert_bytes_string w src dst e _ 0 cap hs he hd]
      simp [Conv.bytesToString, loadCells, loadCellsFrom, hs0]
      rfl
  · obtain ⟨b, rfl, hc⟩ := h h0
    have hsp : b.spot = none := by
      have h1 : ∃ y, s.data.toList[0]? = some y := ⟨_, List.getElem?_eq_getElem (by omega)⟩
      obtain ⟨y, hy⟩ := h1
      have := hc 0 y hy
      simp only [Addr.add, if_true] at this
      unfold World.cell? at this
      split at this
      · split at this
        · cases this
        · rename_i hn; simpa using hn
      · cases this
    obtain ⟨b1, b2, b3⟩ := b
    simp only at hsp
    subst hsp
    have := run_convert_bytes_arg (P := P) w src e hs he b1 b2 s.size cap (s.data.toList.map fun x => (x.toNat : Int)) (by simp) (fun i hi => by
      have h1 : s.data.toList[i]? = some (s.data.toList[i]'(by omega)) := List.getElem?_eq_getElem _
      have h2 := hc i _ h1
      have h3 : (⟨b1, b2, none⟩ : Addr).add i = ⟨b1, b2 + i, none⟩ := by unfold Addr.add; split <;> simp_all
      rw [h3] at h2
      rw [h2]
      congr 2
      rw [List.getD_eq_getElem?_getD, List.getElem?_map, h1]
      rfl) dst hd
    rw [this, strOfNums_self]

theorem bytes_cells {xs : List D} {s : ByteArray} (h : xs = bytesD s) {b : Addr} {f : Nat → Nat → Value} {wd : Nat} (hwd : wd = 1) (hcell : ∀ (i j : Nat) x c, xs[i]? = some x → x.cells[j]? = some c → w.cell? (b.add (i * wd + j)) = some (f i j))
    {m : Nat → Nat → Md} (hr : ∀ (i j : Nat) x c, xs[i]? = some x → x.cells[j]? = some c → Rep E w (m i j) c (f i j)) : ∀ (i : Nat) y, s.data.toList[i]? = some y → w.cell? (b.add i) = some (.int .u8 y.toNat) := by
  intro i y hy
  have hx : xs[i]? = some (.int .u8 y.toNat) := by
    rw [h, bytesD, List.getElem?_map, hy]
    rfl
  have h1 := hcell i 0 _ _ hx rfl
  have h2 := (hr i 0 _ _ hx rfl).int_inv
  rw [h2, hwd] at h1
  simpa using h1

theorem does_conv_bytes_list (H : Hyp X E w a ρ g nid) {s t e : Nat} {x : Operand} {oo : Bool} {n : Nat} {xs : List D} {v : ByteArray} (ho : o.op = .convert s t x) (hs : kAt X.T s = some (.slice e)) (he : kAt X.T e = some (.int .u8)) (ht : kAt X.T t = some .str)
    (hx : ρ x = some (.list oo 1 n xs)) (hv : xs = bytesD v) {qs : List Prop} : Does X o E w a ⟨qs, .str v, []⟩ := by
  obtain ⟨A, cap, us, hval, hlen, hcap, hwd, ha, hr⟩ := (H.op _ _ hx).list_inv (.inl rfl)
  have hn : n = v.size := by rw [← hlen, hv, bytesD_length]
  subst hn
  refine .pure (v := .string v) rfl ?_ (.str _ _)
  simp only [execOp, ho, hval]
  rw [Sem.run_bind, run_toString (kind_slice (kAt_ok H hs)) (kind_int (kAt_ok H he)) (kind_str (kAt_ok H ht)) (fun h0 => by
    obtain ⟨b, hb, _, _, hc⟩ := ha h0
    exact ⟨b, hb, bytes_cells hv rfl hc hr⟩)]
  rfl

theorem does_conv_bytes_ref (H : Hyp X E w a ρ g nid) {s t e : Nat} {x : Operand} {r : Nat} {vw : Option (Nat × Nat)} {R : Root} {v : ByteArray} (ho : o.op = .convert s t x) (hs : kAt X.T s = some (.slice e)) (he : kAt X.T e = some (.int .u8)) (ht : kAt X.T t = some .str)
    (hx : ρ x = some (.ref r 1 vw)) (hg : gw g r 1 = some R) (hv : (R.xs.drop (vlo vw)).take (vln R vw) = bytesD v) {qs : List Prop} : Does X o E w a ⟨qs, .str v, []⟩ := by
  obtain ⟨hg', hRw⟩ := gw_some hg
  have hR := H.rt _ _ hg'
  have hV := vw_eq hR vw
  obtain ⟨_, hst, hal⟩ := (H.op _ _ hx).ref_inv
  obtain ⟨A, cap, hval, hcap, hlen, ha⟩ := hal hR.alive
  rw [hV] at hval hcap hlen ha
  simp only at hval hcap hlen ha
  have hn : vln R vw = v.size := by
    rw [← bytesD_length, ← hv, List.length_take, List.length_drop, hR.n]
    have := hR.len
    omega
  refine .pure (v := .string v) rfl ?_ (.str _ _)
  simp only [execOp, ho, hval]
  rw [hn, Sem.run_bind, run_toString (kind_slice (kAt_ok H hs)) (kind_int (kAt_ok H he)) (kind_str (kAt_ok H ht)) (fun h0 => by
    obtain ⟨hA, hsh⟩ := ha (by omega)
    refine ⟨_, hA, fun i y hy => ?_⟩
    have hx : (bytesD v)[i]? = some (.int .u8 y.toNat) := by
      rw [bytesD, List.getElem?_map, hy]
      rfl
    rw [← hv] at hx
    obtain ⟨u, h1, h2⟩ := hR.cell (vlo vw + i) 0 _ _ (take_drop_get hx).1 rfl
    rw [h2.int_inv] at h1
    rw [add_add]
    simpa [hRw] using h1)]
  rfl


def CellsRep (E : Env) (w : World) (cs : List D) (vs : Array Value) : Prop := cs.length = vs.size ∧ ∀ (i : Nat) c u, cs[i]? = some c → vs[i]? = some u → Rep E w .slot c u

theorem CellsRep.set {cs : List D} {vs : Array Value} (h : CellsRep E w cs vs) {c : D} {u : Value} (hr : Rep E w .slot c u) (j : Nat) : CellsRep E w (cs.set j c) (vs.setIfInBounds j u) := by
  refine ⟨by simp [h.1], fun i c' u' hc hu => ?_⟩
  by_cases hij : j = i
  · subst hij
    rw [List.getElem?_set_self'] at hc
    have hlt : j < vs.size := by
      rcases Nat.lt_or_ge j vs.size with hl | hl
      · exact hl
      · rw [Array.getElem?_eq_none (by simpa using hl)] at hu
        cases hu
    rw [Array.getElem?_setIfInBounds_self_of_lt hlt] at hu
    rw [List.getElem?_eq_getElem (by rw [h.1]; exact hlt)] at hc
    cases hc
    cases hu
    exact hr
  · rw [List.getElem?_set_ne hij] at hc
    rw [Array.getElem?_setIfInBounds_ne hij] at hu
    exact h.2 i c' u' hc hu

theorem CellsRep.setIn {off : Nat} : ∀ (ds : List D) (us : List Value) (k : Nat) (cs : List D) (vs : Array Value), CellsRep E w cs vs → ds.length = us.length → (∀ (i : Nat) c u, ds[i]? = some c → us[i]? = some u → Rep E w .slot c u) →
    CellsRep E w (setIn cs (off + k) ds) ((us.zipIdx k).foldl (fun cs (c, j) => cs.setIfInBounds (off + j) c) vs)
  | [], us, k, cs, vs, h, hl, _ => by
    obtain rfl : us = [] := List.eq_nil_of_length_eq_zero (by simpa using hl.symm)
    exact h
  | d :: ds, [], k, cs, vs, h, hl, _ => by simp at hl
  | d :: ds, u :: us, k, cs, vs, h, hl, hr => by
    simp only [Ab.setIn, List.zipIdx_cons, List.foldl_cons]
    exact CellsRep.setIn ds us (k + 1) _ _ (h.set (hr 0 d u rfl rfl) (off + k)) (by simpa using hl) (fun i c u hc hu => hr (i + 1) c u (by simpa using hc) (by simpa using hu))

theorem Rep.cells_of {d : D} {v : Value} (h : Rep E w .slot d v) (hg : ∀ r R, g r = some R → RootRel E w r R) (hd : whole g d = true) : CellsRep E w d.cells v.cells := by
  have one : ∀ {v : Value}, v.cells = #[v] → Rep E w .slot d v → d.cells = [d] → CellsRep E w d.cells v.cells := fun {v} h1 h2 h3 => by
    rw [h1, h3]
    exact ⟨rfl, fun i c u hc hu => by cases i <;> simp at hc hu; subst hc hu; exact h2⟩
  cases h with
  | agg cs vs hl h => exact ⟨hl, h⟩
  | tup cs vs hl h => simp [whole, okc] at hd
  | fn f caps vs hl h => simp [whole, okc] at hd
  | undef m v hm => simp [whole, okc] at hd
  | hid m v h1 h2 hm => exact one h2 (.hid _ _ h1 h2 hm) rfl
  | anyb b => simp [whole, okc] at hd
  | int m k n => exact one rfl (.int _ _ _) rfl
  | bool m b => exact one rfl (.bool _ _) rfl
  | ifc m b v hv => exact one (ifcV_one hv).1 (.ifc _ _ _ hv) rfl
  | str m s => exact one rfl (.str _ _) rfl
  | nil m => exact one rfl (.nil _) rfl
  | flist m o wd n xs A cap us hm hn hc hw ha h => exact one rfl (.flist _ _ _ _ _ _ _ us hm hn hc hw ha h) rfl
  | olist m r p wd n xs A cap us hm hn hc hw ha h => rcases hm with hm | hm <;> cases hm
  | ref m r wd vw v hm hs h =>
    simp only [whole, okc, Option.isSome_iff_exists] at hd
    obtain ⟨R, hR⟩ := hd
    obtain ⟨A, cap, rfl, _⟩ := h (hg r R hR).alive
    exact one rfl (.ref _ _ _ _ _ hm hs h) rfl
  | ptr m r wd i j v hm hs h =>
    simp only [whole, okc, Option.isSome_iff_exists] at hd
    obtain ⟨R, hR⟩ := hd
    obtain rfl := h (hg r R hR).alive
    exact one rfl (.ptr _ _ _ _ _ _ hm hs h) rfl
  | fptr m wd xs i j a us hm hw ha h => exact one rfl (.fptr _ _ _ _ _ _ us hm hw ha h) rfl
  | mref m r v hm hs h => simp [whole, okc] at hd
  | omap m r p l b es clk hm => simp [whole, okc] at hd
  | optr m r p wd xs a us hm => simp [whole, okc] at hd
  | fomap m l b es clk hm => simp [whole, okc] at hd
  | foptr m wd xs a us hm => simp [whole, okc] at hd

theorem okc_cells {d : D} {v : Value} (h : Rep E w .slot d v) (hg : ∀ r R, g r = some R → RootRel E w r R) (hd : okc g d = true) : v.cells = #[v] := by
  cases h with
  | agg cs vs hl h => simp [okc] at hd
  | tup cs vs hl h => simp [okc] at hd
  | fn f caps vs hl h => rfl
  | undef m v hm => simp [okc] at hd
  | hid m v h1 h2 hm => exact h2
  | anyb b => simp [okc] at hd
  | int m k n => rfl
  | bool m b => rfl
  | ifc m b v hv => exact (ifcV_one hv).1
  | str m s => rfl
  | nil m => rfl
  | flist m o wd n xs A cap us hm hn hc hw ha h => rfl
  | olist m r p wd n xs A cap us hm hn hc hw ha h => rfl
  | ref m r wd vw v hm hs h =>
    simp only [okc, Option.isSome_iff_exists] at hd
    obtain ⟨R, hR⟩ := hd
    obtain ⟨A, cap, rfl, _⟩ := h (hg r R hR).alive
    rfl
  | ptr m r wd i j v hm hs h =>
    simp only [okc, Option.isSome_iff_exists] at hd
    obtain ⟨R, hR⟩ := hd
    obtain rfl := h (hg r R hR).alive
    rfl
  | fptr m wd xs i j a us hm hw ha h => rfl
  | mref m r v hm hs h => simp [okc] at hd
  | omap m r p l b es clk hm => simp [okc] at hd
  | optr m r p wd xs a us hm => simp [okc] at hd
  | fomap m l b es clk hm => simp [okc] at hd
  | foptr m wd xs a us hm => simp [okc] at hd

theorem okc_one {d : D} {v : Value} (h : Rep E w .slot d v) (hg : ∀ r R, g r = some R → RootRel E w r R) (hd : okc g d = true) : v.oneCell' = true := by
  cases h with
  | agg cs vs hl h => simp [okc] at hd
  | tup cs vs hl h => simp [okc] at hd
  | fn f caps vs hl h => rfl
  | undef m v hm => simp [okc] at hd
  | hid m v h1 h2 hm => exact h1
  | anyb b => simp [okc] at hd
  | int m k n => rfl
  | bool m b => rfl
  | ifc m b v hv => exact (ifcV_one hv).2
  | str m s => rfl
  | nil m => rfl
  | flist m o wd n xs A cap us hm hn hc hw ha h => rfl
  | olist m r p wd n xs A cap us hm hn hc hw ha h => rfl
  | ref m r wd vw v hm hs h =>
    simp only [okc, Option.isSome_iff_exists] at hd
    obtain ⟨R, hR⟩ := hd
    obtain ⟨A, cap, rfl, _⟩ := h (hg r R hR).alive
    rfl
  | ptr m r wd i j v hm hs h =>
    simp only [okc, Option.isSome_iff_exists] at hd
    obtain ⟨R, hR⟩ := hd
    obtain rfl := h (hg r R hR).alive
    rfl
  | fptr m wd xs i j a us hm hw ha h => rfl
  | mref m r v hm hs h => simp [okc] at hd
  | omap m r p l b es clk hm => simp [okc] at hd
  | optr m r p wd xs a us hm => simp [okc] at hd
  | fomap m l b es clk hm => simp [okc] at hd
  | foptr m wd xs a us hm => simp [okc] at hd

theorem setIn_length : ∀ (ds cs : List D) (j : Nat), (setIn cs j ds).length = cs.length
  | [], cs, j => rfl
  | d :: ds, cs, j => by simp [setIn, setIn_length ds]

theorem fill_run {fs : List FI} {place : Nat → Option (Nat × Nat)} (hp : ∀ i f, fs[i]? = some f → place i = some (f.off, f.size)) (hg : ∀ r R, g r = some R → RootRel E w r R) (hop : ∀ x d, ρ x = some d → Rep E w .slot d (a.eval x)) :
    ∀ (parts : List (Nat × Operand)) (cs : List D) (vs : Array Value) (cs' : List D), CellsRep E w cs vs → fillD g fs ρ cs parts = some cs' →
      ∃ vs', Instr.fill place vs (parts.map fun p => (p.1, a.eval p.2)) = some vs' ∧ CellsRep E w cs' vs'
  | [], cs, vs, cs', h, hf => by
    simp only [fillD, Option.some.injEq] at hf
    subst hf
    exact ⟨vs, rfl, h⟩
  | (i, x) :: parts, cs, vs, cs', h, hf => by
    simp only [fillD] at hf
    split at hf
    · rename_i f d hfi hx
      split at hf
      · rename_i hc
        simp only [Bool.and_eq_true] at hc
        obtain ⟨⟨hc1, hc2⟩, hc3⟩ := hc
        have hc1 := Nat.eq_of_beq_eq_true hc1
        have hc2 := Nat.le_of_ble_eq_true hc2
        have hr := hop x d hx
        have hcr := hr.cells_of hg hc3
        have hs := CellsRep.setIn (off := f.off) d.cells (a.eval x).cells.toList 0 cs vs h (by rw [hcr.1]; simp) (fun i c u hc hu => hcr.2 i c u hc (by simpa using hu))
        obtain ⟨vs', h1, h2⟩ := fill_run hp hg hop parts _ _ cs' hs hf
        refine ⟨vs', ?_, h2⟩
        simp only [List.map_cons, Instr.fill, hp i f hfi]
        have e1 : (a.eval x).cells.size = f.size := by rw [← hcr.1]; exact hc1
        have e2 : ¬ (f.off + (a.eval x).cells.size > vs.size) := by rw [e1, ← h.1]; omega
        simp only [e1, ne_eq, not_true_eq_false, decide_false, Bool.false_or]
        rw [if_neg (by rw [← e1]; simpa using e2)]
        rw [← h1]
        congr 1
        rw [← Array.foldl_toList, Array.toList_zipIdx]
      · cases hf
    · cases hf

theorem leafOf_not {v : Value} {zs : List D} : leafOf v ≠ .agg zs := by
  unfold leafOf
  split <;> intro h <;> cases h

theorem does_build_arr (H : Hyp X E w a ρ g nid) {t n e : Nat} {parts : Array (Nat × Operand)} {ti te : TI} {zs cs : List D} (ho : o.op = .build t parts) (ht : look t X.T = some ti) (hk : ti.k = .arr n e) (hz0 : ti.zero = .agg zs) (hte : look e X.T = some te)
    (hcs : fillD g ((List.range n).map fun i => ⟨i * te.size, te.size, false⟩) ρ zs parts.toList = some cs) : Does X o E w a ⟨[], .agg cs, []⟩ := by
  obtain ⟨inf, z, hT⟩ := tyOK H.T ht
  obtain ⟨infe, ze, hTe⟩ := tyOK H.T hte
  have hun := kind_arr (hk ▸ hT.kind)
  have hz : CellsRep E w zs z.cells := by
    have h1 : Rep E w .slot (ofVal z) z := .ofVal z
    rw [← hT.zeroD, hz0] at h1
    obtain ⟨vs, hv, hl, hr⟩ := h1.agg_inv
    subst hv
    exact ⟨hl, hr⟩
  have hpl : ∀ (i : Nat) (f : FI), ((List.range n).map fun i => (⟨i * te.size, te.size, false⟩ : FI))[i]? = some f → (fun i : Nat => some (i * te.size, te.size)) i = some (f.off, f.size) := fun i f hf => by
    rw [List.getElem?_map, Option.map_eq_some_iff] at hf
    obtain ⟨j, hj, rfl⟩ := hf
    have hlt := (List.getElem?_eq_some_iff.1 hj).1
    rw [List.length_range] at hlt
    rw [List.getElem?_range hlt] at hj
    cases hj
    rfl
  obtain ⟨vs', h1, h2⟩ := fill_run (g := g) hpl H.rt H.op parts.toList zs z.cells cs hz hcs
  refine .pure (v := .agg vs') rfl ?_ (.agg _ _ h2.1 h2.2)
  have hparts : (parts.map fun (x : Nat × Operand) => (x.1, a.eval x.2)).toList = parts.toList.map fun p => (p.1, a.eval p.2) := by simp
  simp only [execOp, ho]
  rw [Sem.run_bind]
  have : (Instr.build t (parts.map fun x => (x.1, a.eval x.2))).run X.P w = .ok (.agg vs') w := by
    simp only [Instr.build, Sem.run_bind, zeroValue, sizeOf, typeInfo, run_program, Result.andThen_ok, hT.info, hT.zero, Sem.run_pure, run_underlying hun, hTe.info, ← hTe.size, hparts, h1]
  rw [this]
  rfl

theorem does_build (H : Hyp X E w a ρ g nid) {t : Nat} {parts : Array (Nat × Operand)} {ti : TI} {fs : List FI} {eq : Option (List LK)} {zs cs : List D} (ho : o.op = .build t parts) (ht : look t X.T = some ti) (hk : ti.k = .strct fs eq) (hz0 : ti.zero = .agg zs) (hcs : fillD g fs ρ zs parts.toList = some cs) : Does X o E w a ⟨[], .agg cs, []⟩ := by
  obtain ⟨inf, z, hT⟩ := tyOK H.T ht
  obtain ⟨fields, hun, hfs, _, hall⟩ := kind_struct (hk ▸ hT.kind)
  have hz : CellsRep E w zs z.cells := by
    have h1 : Rep E w .slot (ofVal z) z := .ofVal z
    rw [← hT.zeroD, hz0] at h1
    obtain ⟨vs, hv, hl, hr⟩ := h1.agg_inv
    subst hv
    exact ⟨hl, hr⟩
  have hmap : ∀ (l : List Field), (∀ f ∈ l, ((X.P.info? f.type).isSome && (X.P.underlying f.type).isSome) = true) →
      (l.mapM (m := Sem) fun f => do pure (f.offset, ← sizeOf f.type)).run X.P w = .ok (l.map fun f => (f.offset, X.P.cellsOf f.type)) w := by
    intro l
    induction l with
    | nil => intro _; simp
    | cons f l ih =>
      intro hl
      have h1 := hl f (List.mem_cons_self ..)
      simp only [Bool.and_eq_true, Option.isSome_iff_exists] at h1
      obtain ⟨⟨fin, hfin⟩, _⟩ := h1
      have h2 := ih fun f hf => hl f (List.mem_cons_of_mem _ hf)
      rw [List.mapM_cons]
      simp only [Sem.run_bind, sizeOf, typeInfo] at h2 ⊢
      simp only [run_program, Result.andThen_ok, hfin, Sem.run_pure, h2, List.map_cons, Program.cellsOf, Option.map_some, Option.getD_some]
  have hm := hmap fields.toList (fun f hf => List.all_eq_true.1 hall f hf)
  have hpl : ∀ (i : Nat) (f : FI), fs[i]? = some f → (fields.toList.map fun f => (f.offset, X.P.cellsOf f.type)).toArray[i]? = some (f.off, f.size) := fun i f hf => by
    rw [hfs, List.getElem?_map, Option.map_eq_some_iff] at hf
    obtain ⟨fl, hfl, rfl⟩ := hf
    rw [List.getElem?_toArray, List.getElem?_map, hfl]
    rfl
  obtain ⟨vs', h1, h2⟩ := fill_run (g := g) hpl H.rt H.op parts.toList zs z.cells cs hz hcs
  refine .pure (v := .agg vs') rfl ?_ (.agg _ _ h2.1 h2.2)
  have hparts : (parts.map fun (x : Nat × Operand) => (x.1, a.eval x.2)).toList = parts.toList.map fun p => (p.1, a.eval p.2) := by simp
  have hmA : (fields.mapM (m := Sem) fun f => do pure (f.offset, ← sizeOf f.type)).run X.P w = .ok (fields.toList.map fun f => (f.offset, X.P.cellsOf f.type)).toArray w := by
    rw [Array.mapM_eq_mapM_toList, Sem.run_map, hm]
    rfl
  simp only [execOp, ho]
  rw [Sem.run_bind]
  have : (Instr.build t (parts.map fun x => (x.1, a.eval x.2))).run X.P w = .ok (.agg vs') w := by
    simp only [Instr.build, Sem.run_bind, zeroValue, typeInfo, run_program, Result.andThen_ok, hT.info, Sem.run_pure, hT.zero, run_underlying hun, hmA, hparts, h1]
  rw [this]
  rfl

end
end Go.Proofs.Ytnfeelacifllmaa.Ab

namespace Go.Proofs.Ytnfeelacifllmaa.Ab

section
variable {X : Ctx} {o : Oper} {E E' : Env} {w w' : World} {a : Act} {ρ : Operand → Option D} {g : Nat → Option Root} {nid : Nat}

theorem SpAt.of_no {r : Nat} {d : D} (h : ∀ s, d ≠ .spc s) : SpAt E w r d := by
  unfold SpAt
  split
  · exact absurd rfl (h _)
  · exact absurd rfl (h _)
  · trivial
theorem SpAt.mv {r : Nat} {d : D} (h : SpAt E w r d) (M : Mv E w E' w') (hst : E'.st r = E.st r) (hadr : E'.adr r = E.adr r) (hL : Lab E w E' w' r [] r []) : SpAt E' w' r d := by
  have key : ∀ b, b < w.heap.size → E.ow b = (if E.st r = .own then .own r [] else .fz) → w'.heap[b]? = w.heap[b]? ∧ E'.ow b = (if E'.st r = .own then .own r [] else .fz) := fun b hb ho => by
    by_cases hs : E.st r = .own
    · rw [if_pos hs] at ho
      obtain ⟨h1, h2⟩ := hL b [] hb (by simpa using ho)
      rw [hst, if_pos hs]
      exact ⟨h1, by simpa using h2⟩
    · rw [if_neg hs] at ho
      rw [hst, if_neg hs]
      exact M.fz b hb ho
  unfold SpAt at h ⊢
  split at h
  · obtain ⟨h1, h2, h3, es, clk, h4, h5⟩ := h
    rw [hadr]
    obtain ⟨k1, k2⟩ := key _ (lt_of_get h4) h3
    exact ⟨h1, h2, k2, es, clk, k1.trans h4, h5⟩
  · obtain ⟨h1, h2, h3, b, clk, seen, es, h4, h5, h6, h7⟩ := h
    rw [hadr]
    obtain ⟨k1, k2⟩ := key _ (lt_of_get h4) h3
    obtain ⟨k3, k4⟩ := M.fz b (lt_of_get h6) h5
    exact ⟨h1, h2, k2, b, clk, seen, es, k1.trans h4, k4, k3.trans h6, h7⟩
  · trivial
theorem RootRel.mv {r : Nat} {R : Root} (h : RootRel E w r R) (M : Mv E w E' w') (hst : E'.st r = E.st r) (hL : Lab E w E' w' r [] r []) : RootRel E' w' r R := by
  have hne : E.st r ≠ .fresh := by rw [h.st]; split <;> simp
  have hal : Alive E' r := by
    have := h.alive
    unfold Alive at *
    rw [hst]
    exact this
  obtain ⟨_, hadr, hlen, hshp⟩ := M.ref r hne hal
  refine ⟨by rw [hst]; exact h.st, by rw [hlen]; exact h.len, h.n, h.wd, h.nobox, fun h0 h1 => hshp _ (h.shp h0 h1), fun h0 d hd => (h.sp h0 d hd).mv M hst hadr hL, fun i j x c hx hj => ?_⟩
  obtain ⟨u, hu, hr⟩ := h.cell i j x c hx hj
  have hpos : 0 < R.n := by
    rw [← h.n]
    exact Nat.lt_of_le_of_lt (Nat.zero_le _) (List.getElem?_eq_some_iff.1 hx).1
  have hposw : 0 < R.w := by
    rw [← h.wd x (List.mem_of_getElem? hx)]
    exact Nat.lt_of_le_of_lt (Nat.zero_le _) (List.getElem?_eq_some_iff.1 hj).1
  obtain ⟨_, how, cs, ty, hh, _⟩ := h.shp hpos hposw
  have hb := lt_of_get hh
  have hsame : w'.heap[(E.adr r).block]? = w.heap[(E.adr r).block]? := by
    rw [h.st] at how
    cases hf : R.fz with
    | true =>
      simp [hf] at how
      exact (M.fz _ hb how).1
    | false =>
      simp [hf] at how
      exact (hL _ [] hb (by simpa using how)).1
  refine ⟨u, by rw [hadr, cell_same (w := w) (w' := w') (by rw [add_block]; exact hsame)]; exact hu, hr.mv M ?_⟩
  unfold Root.md
  split
  · exact trivial
  · split
    · exact hL.kid (i, j)
    · exact hL.kid (i, j)

def Env.new (E : Env) (nid blk n : Nat) : Env :=
  { adr := fun r => if r = nid then ⟨blk, 0, none⟩ else E.adr r, len := fun r => if r = nid then n else E.len r, ow := fun b => if b = blk then .own nid [] else E.ow b, st := fun r => if r = nid then .own else E.st r }

theorem alloc_heap (w : World) (ob : Obj) : (w.alloc ob).heap = w.heap.push ob := rfl

theorem mv_new (w1 : World) (hh : w1.heap = w.heap) (ob : Obj) (n : Nat) (hf : E.st nid = .fresh) : Mv E w (E.new nid w.heap.size n) (w1.alloc ob) := by
  have hget : ∀ b, b < w.heap.size → (w1.alloc ob).heap[b]? = w.heap[b]? := fun b hb => by
    rw [alloc_heap, hh, Array.getElem?_push, if_neg (by omega)]
  refine ⟨by rw [alloc_heap, hh]; simp, fun b hb ho => ⟨hget b hb, ?_⟩, fun r hr => ?_, fun r hr hal => ?_⟩
  · simp only [Env.new]
    rw [if_neg (by omega)]
    exact ho
  · simp only [Env.new]
    split
    · simp
    · exact hr
  · have hne : r ≠ nid := fun e => hr (e ▸ hf)
    refine ⟨?_, by simp [Env.new, hne], by simp [Env.new, hne], fun N hs => ?_⟩
    · unfold Alive at *
      simpa [Env.new, hne] using hal
    · obtain ⟨h1, h2, cs, ty, h3, h4⟩ := hs
      have hb := lt_of_get h3
      unfold Shp
      simp only [Env.new, hne, if_false]
      refine ⟨h1, ?_, cs, ty, (hget _ hb).trans h3, h4⟩
      rw [if_neg (by omega)]
      exact h2

theorem lab_new (w1 : World) (hh : w1.heap = w.heap) (ob : Obj) (n : Nat) (r : Nat) (p : Pth) : Lab E w (E.new nid w.heap.size n) (w1.alloc ob) r p r p := fun b q hb ho => by
  refine ⟨by rw [alloc_heap, hh, Array.getElem?_push, if_neg (by omega)], ?_⟩
  simp only [Env.new]
  rw [if_neg (by omega)]
  exact ho

theorem ext_new (w1 : World) (hh : w1.heap = w.heap) (h1 : w1.os = w.os) (h2 : w1.tape = w.tape) (h3 : w1.output = w.output ∧ DrawOk w w1) {box : Bool} {wd n : Nat} {xs : List D} (cs : Array Value) (e : Nat) (hf : E.st nid = .fresh)
    (hsp : ∀ s, xs ≠ [.spc s]) (hn : xs.length = n) (hwd : ∀ x ∈ xs, x.cells.length = wd) (hsz : n * wd ≤ cs.size)
    (hc : ∀ (i j : Nat) x c, xs[i]? = some x → x.cells[j]? = some c → ∃ u d, cs[i * wd + j]? = some u ∧ Rep E w .slot d u ∧ c = d.fl ∧ (c.plain = true ∨ c.boxy = true ∧ box = true)) :
    Ext E w (E.new nid w.heap.size n) (w1.alloc (.cells cs e)) [(nid, some ⟨false, box, wd, n, xs⟩)] ∧
    (∀ cap, n ≤ cap → cap * wd ≤ cs.size → Rep (E.new nid w.heap.size n) (w1.alloc (.cells cs e)) .slot (.ref nid wd none) (.slice (some ⟨w.heap.size, 0, none⟩) n cap)) ∧
    Rep (E.new nid w.heap.size n) (w1.alloc (.cells cs e)) .slot (.ptr nid wd 0 0) (.pointer (some ⟨w.heap.size, 0, none⟩)) := by
  have M := mv_new (E := E) w1 hh (.cells cs e) n hf
  have hget : (w1.alloc (.cells cs e)).heap[w.heap.size]? = some (.cells cs e (0, 0)) := by
    rw [alloc_heap, hh]
    simp
  have hcell : ∀ k, (w1.alloc (.cells cs e)).cell? ((⟨w.heap.size, 0, none⟩ : Addr).add k) = cs[k]? := fun k => by
    unfold World.cell?
    rw [add_block]
    simp only [hget]
    unfold Addr.add
    split
    · rename_i hk; subst hk; rfl
    · simp
  have hadr : (E.new nid w.heap.size n).adr nid = ⟨w.heap.size, 0, none⟩ := by simp [Env.new]
  have hst : (E.new nid w.heap.size n).st nid = .own := by simp [Env.new]
  have hshp : ∀ N, N ≤ cs.size → Shp (E.new nid w.heap.size n) (w1.alloc (.cells cs e)) nid N := fun N hN => by
    unfold Shp
    rw [hadr]
    refine ⟨rfl, ?_, cs, e, hget, by simpa using hN⟩
    rw [hst]
    simp [Env.new]
  refine ⟨⟨M.sz, h1, h2, h3, M.fz, fun b hb ho => ⟨?_, ?_⟩, fun r hr => ?_, fun d v h => h.mv M trivial, fun r R hr h => ?_, fun r R hmem => ?_, fun r hr hfr => ?_, fun b cs1 ty1 h => ?_, fun r N hr hr' h => ?_, fun r hr => ?_⟩, fun cap hcap hs => ?_, ?_⟩
  · rw [alloc_heap, hh, Array.getElem?_push, if_neg (by omega)]
  · simp only [Env.new]
    rw [if_neg (by omega)]
    exact ho
  · have hne : r ≠ nid := fun e => hr (e ▸ hf)
    simp [Env.new, hne]
  · have hne : r ≠ nid := fun e => hr _ (List.mem_cons_self ..) e.symm
    exact h.mv M (by simp [Env.new, hne]) (lab_new w1 hh _ n r [])
  · simp only [List.mem_cons, Prod.mk.injEq, Option.some.injEq, List.not_mem_nil, or_false] at hmem
    obtain ⟨rfl, rfl⟩ := hmem
    refine ⟨by simp [hst], by simp [Env.new], hn, hwd, (fun h => by cases h), fun _ _ => hshp _ hsz, fun _ d hd => .of_no fun s hs => hsp s (by rw [← hs]; exact hd), fun i j x c hx hj => ?_⟩
    obtain ⟨u, d, hu, hr, rfl, hp⟩ := hc i j x c hx hj
    refine ⟨u, by rw [hadr, hcell]; exact hu, (hr.mv M (m' := .slot) trivial).lay ?_⟩
    rcases hp with hp | ⟨hp, rfl⟩
    · exact .inl hp
    · exact .inr ⟨hp, r, [(i, j)], by simp [Root.md]⟩
  · have hne : r ≠ nid := fun e => hr _ (List.mem_cons_self ..) e.symm
    simpa [Env.new, hne] using hfr
  · have hb := lt_of_get h
    exact ⟨cs1, by rw [alloc_heap, hh, Array.getElem?_push, if_neg (by omega)]; exact h, rfl⟩
  · exact (M.ref r (by rw [hr]; simp) (.inl hr')).2.2.2 N h
  · by_cases hne : r = nid
    · subst hne; exact .inl hf
    · simp only [Env.new, hne, if_false] at hr; exact .inr hr
  · refine .ref _ _ _ _ _ (.inl rfl) (by rw [hst]; simp) fun _ => ⟨some ⟨w.heap.size, 0, none⟩, cap, by simp [Vw, Env.new], by simpa [Vw, Env.new] using hcap, by simp [Vw, Env.new], fun _ => ⟨by simp [Vw, hadr, Addr.add], ?_⟩⟩
    simp only [Vw, Nat.zero_add]
    exact hshp _ hs
  · refine .ptr _ _ _ _ _ _ (.inl rfl) (by rw [hst]; simp) fun _ => ?_
    rw [hadr]
    simp [Addr.add]

theorem fl_get {cs : List D} {j : Nat} {c : D} (h : (cs.map D.fl)[j]? = some c) : ∃ d, cs[j]? = some d ∧ c = d.fl := by
  rw [List.getElem?_map, Option.map_eq_some_iff] at h
  obtain ⟨d, hd, rfl⟩ := h
  exact ⟨d, hd, rfl⟩

theorem okc_boxy {d : D} (h : okc g d = true) : d.boxy = true := by
  cases d <;> simp [okc] at h <;> rfl

theorem box_cells {cs : List D} {vs : Array Value} (hcr : CellsRep E w cs vs) (hb : (cs.map D.fl).all (okc g) = true) :
    ∀ (i j : Nat) x c, [D.agg (cs.map D.fl)][i]? = some x → x.cells[j]? = some c → ∃ u d, vs[i * (cs.map D.fl).length + j]? = some u ∧ Rep E w .slot d u ∧ c = d.fl ∧ (c.plain = true ∨ c.boxy = true ∧ true = true) := by
  intro i j x c hx hj
  cases i with
  | succ i => simp at hx
  | zero =>
    simp only [List.getElem?_cons_zero, Option.some.injEq] at hx
    subst hx
    simp only [D.cells] at hj
    obtain ⟨d, hd, rfl⟩ := fl_get hj
    have hlt : j < vs.size := by rw [← hcr.1]; exact (List.getElem?_eq_some_iff.1 hd).1
    refine ⟨vs[j], d, by simp [hlt], hcr.2 j d _ hd (Array.getElem?_eq_getElem hlt), rfl, .inr ⟨okc_boxy (List.all_eq_true.1 hb _ (List.mem_of_getElem? hj)), rfl⟩⟩

theorem does_box (H : Hyp X E w a ρ g nid) (hf : E.st nid = .fresh) {t : Nat} {x : Operand} {d : D} (ho : o.op = .box t x) (hx : ρ x = some d) (hw : whole g d = true) (hb : (d.cells.map D.fl).all (okc g) = true) :
    Does X o E w a ⟨[], .ptr nid (d.cells.map D.fl).length 0 0, [(nid, some ⟨false, true, (d.cells.map D.fl).length, 1, [.agg (d.cells.map D.fl)]⟩)]⟩ := by
  have hr := H.op _ _ hx
  have hcr := hr.cells_of H.rt hw
  intro K Q k
  obtain ⟨h1, _, h3⟩ := ext_new (E := E) (w := w) w rfl rfl rfl ⟨rfl, drw_le (Nat.le_refl _)⟩ (box := true) (a.eval x).cells t hf (n := 1) (xs := [.agg (d.cells.map D.fl)]) (by simp) rfl (by simp [D.cells]) (by simp [hcr.1]) (box_cells hcr hb)
  refine wp_val (v := .pointer (some ⟨w.heap.size, 0, none⟩)) (w' := w.alloc (.cells (a.eval x).cells t)) ?_ (k _ _ _ h1 h3)
  simp [execOp, ho, Instr.box, newVar, newRow]

theorem leafOf_cells (v : Value) : (leafOf v).cells = [leafOf v] := by
  unfold leafOf
  split <;> rfl

theorem ofVal_cells (z : Value) : CellsRep E w (ofVal z).cells z.cells := by
  have h1 : Rep E w .slot (ofVal z) z := .ofVal z
  by_cases hz : ∃ cs, z = .agg cs
  · obtain ⟨cs, rfl⟩ := hz
    obtain ⟨vs, hv, hl, hr⟩ := h1.agg_inv
    cases hv
    exact ⟨hl, hr⟩
  · have e1 : ofVal z = leafOf z := by cases z <;> first | rfl | exact absurd ⟨_, rfl⟩ hz
    have e2 : z.cells = #[z] := by cases z <;> first | rfl | exact absurd ⟨_, rfl⟩ hz
    rw [e1, leafOf_cells, e2, ← e1]
    exact ⟨rfl, fun i c u hc hu => by cases i <;> simp at hc hu; subst hc hu; exact h1⟩

theorem plain_fl {d : D} (h : d.plain = true) : d.fl = d := by
  unfold D.plain at h
  split at h <;> first | rfl | cases h

theorem plain_boxy {d : D} (h : d.plain = true) : d.boxy = true := by
  unfold D.plain at h
  split at h <;> first | rfl | cases h

theorem does_alloc (H : Hyp X E w a ρ g nid) (hf : E.st nid = .fresh) {t : Nat} {ti : TI} (ho : o.op = .alloc t) (ht : look t X.T = some ti) (hn : Nat.beq ti.zero.cells.length ti.size = true) (hp : ti.zero.cells.all D.plain = true) :
    Does X o E w a ⟨[], .ptr nid ti.size 0 0, [(nid, some ⟨false, true, ti.size, 1, [.agg ti.zero.cells]⟩)]⟩ := by
  obtain ⟨inf, z, hT⟩ := tyOK H.T ht
  have hn := Nat.eq_of_beq_eq_true hn
  have hcr : CellsRep E w ti.zero.cells z.cells := by rw [hT.zeroD]; exact ofVal_cells z
  intro K Q k
  obtain ⟨h1, _, h3⟩ := ext_new (E := E) (w := w) w rfl rfl rfl ⟨rfl, drw_le (Nat.le_refl _)⟩ (box := true) z.cells t hf (n := 1) (wd := ti.size) (xs := [.agg ti.zero.cells]) (by simp) rfl (by intro x hx; simp only [List.mem_cons, List.not_mem_nil, or_false] at hx; subst hx; exact hn) (by rw [← hcr.1]; omega) (by
    intro i j x c hx hj
    cases i with
    | succ i => simp at hx
    | zero =>
      simp only [List.getElem?_cons_zero, Option.some.injEq] at hx
      subst hx
      simp only [D.cells] at hj
      have hpl := List.all_eq_true.1 hp _ (List.mem_of_getElem? hj)
      have hlt : j < z.cells.size := by rw [← hcr.1]; exact (List.getElem?_eq_some_iff.1 hj).1
      exact ⟨z.cells[j], c, by simp [hlt], hcr.2 j c _ hj (Array.getElem?_eq_getElem hlt), (plain_fl hpl).symm, .inl hpl⟩)
  refine wp_val (v := .pointer (some ⟨w.heap.size, 0, none⟩)) (w' := w.alloc (.cells z.cells t)) ?_ (k _ _ _ h1 h3)
  simp [execOp, ho, Instr.alloc, zeroValue, typeInfo, hT.info, hT.zero, newVar, newRow]

theorem fill_lit {wd : Nat} (hg : ∀ r R, g r = some R → RootRel E w r R) (hop : ∀ x d, ρ x = some d → Rep E w .slot d (a.eval x)) :
    ∀ (parts : List (Nat × Operand)) (k : Nat) (ds : List D) (vs : Array Value), litD g ρ wd k parts = some ds → (k + ds.length) * wd ≤ vs.size →
      ∃ vs', Instr.fill (fun i => some (i * wd, wd)) vs (parts.map fun p => (p.1, a.eval p.2)) = some vs' ∧ vs'.size = vs.size ∧ (∀ d ∈ ds, d.cells.length = wd) ∧
        (∀ b, b < k * wd → vs'[b]? = vs[b]?) ∧ ∀ (i j : Nat) d c, ds[i]? = some d → d.cells[j]? = some c → ∃ u, vs'[(k + i) * wd + j]? = some u ∧ Rep E w .slot c u
  | [], k, ds, vs, h, _ => by
    simp only [litD, Option.some.injEq] at h
    subst h
    exact ⟨vs, rfl, rfl, (fun d hd => by cases hd), fun _ _ => rfl, (fun i j d c hd => by simp at hd)⟩
  | (i, x) :: parts, k, ds, vs, h, hs => by
    simp only [litD] at h
    split at h
    · rename_i hik
      have hik := Nat.eq_of_beq_eq_true hik
      subst hik
      split at h
      · rename_i d ds' hx hds
        split at h
        · rename_i hc
          cases h
          simp only [Bool.and_eq_true] at hc
          obtain ⟨hc1, hc2⟩ := hc
          have hc1 := Nat.eq_of_beq_eq_true hc1
          have hcr := (hop x d hx).cells_of hg hc2
          have e1 : (a.eval x).cells.size = wd := by rw [← hcr.1]; exact hc1
          have hs1 : (i + 1) * wd ≤ vs.size := Nat.le_trans (Nat.mul_le_mul_right _ (by simp)) hs
          -- the array behind this part
          have fold : ∀ (us : List Value) (b : Nat) (vs : Array Value), ((us.zipIdx b).foldl (fun cs (c, j) => cs.setIfInBounds (i * wd + j) c) vs).size = vs.size ∧
              ∀ m, ((us.zipIdx b).foldl (fun cs (c, j) => cs.setIfInBounds (i * wd + j) c) vs)[m]? = if i * wd + b ≤ m ∧ m < i * wd + b + us.length ∧ m < vs.size then us[m - (i * wd + b)]? else vs[m]? := by
            intro us
            induction us with
            | nil => intro b vs; exact ⟨rfl, fun m => by simp; omega⟩
            | cons u us ih =>
              intro b vs
              simp only [List.zipIdx_cons, List.foldl_cons]
              obtain ⟨h1, h2⟩ := ih (b + 1) (vs.setIfInBounds (i * wd + b) u)
              refine ⟨by rw [h1]; simp, fun m => ?_⟩
              rw [h2 m]
              simp only [Array.size_setIfInBounds, List.length_cons]
              by_cases hm : m = i * wd + b
              · subst hm
                rw [if_neg (by omega)]
                by_cases hlt : i * wd + b < vs.size
                · rw [if_pos ⟨by omega, by omega, hlt⟩, Array.getElem?_setIfInBounds_self_of_lt hlt]
                  simp
                · rw [if_neg (by omega), Array.getElem?_eq_none (by simp; omega), Array.getElem?_eq_none (by omega)]
              · rw [Array.getElem?_setIfInBounds_ne (Ne.symm hm)]
                by_cases hc : i * wd + (b + 1) ≤ m ∧ m < i * wd + (b + 1) + us.length ∧ m < vs.size
                · rw [if_pos hc, if_pos (by omega), show m - (i * wd + b) = (m - (i * wd + (b + 1))) + 1 by omega, List.getElem?_cons_succ]
                · rw [if_neg hc, if_neg (by omega)]
          obtain ⟨f1, f2⟩ := fold (a.eval x).cells.toList 0 vs
          have hlen : (a.eval x).cells.toList.length = wd := by simp [e1]
          obtain ⟨vs', g1, g2, g3, g4, g5⟩ := fill_lit hg hop parts (i + 1) ds' _ hds (by rw [f1]; simpa [Nat.add_assoc, Nat.add_comm 1] using hs)
          refine ⟨vs', ?_, by rw [g2, f1], ?_, fun b hb => ?_, fun i' j d' c hd hj => ?_⟩
          · simp only [List.map_cons, Instr.fill, e1, ne_eq, not_true_eq_false, decide_false, Bool.false_or]
            rw [if_neg (by simp; rw [Nat.add_mul] at hs1; omega), ← g1]
            congr 1
            rw [← Array.foldl_toList, Array.toList_zipIdx]
          · intro d' hd'
            rcases List.mem_cons.1 hd' with rfl | hd'
            · exact hc1
            · exact g3 d' hd'
          · rw [g4 b (by rw [Nat.add_mul]; omega), f2 b, if_neg (by omega)]
          · cases i' with
            | zero =>
              simp only [List.getElem?_cons_zero, Option.some.injEq] at hd
              subst hd
              have hlt : j < (a.eval x).cells.size := by rw [← hcr.1]; exact (List.getElem?_eq_some_iff.1 hj).1
              have hlt' : j < wd := by omega
              refine ⟨(a.eval x).cells[j], ?_, hcr.2 j c _ hj (Array.getElem?_eq_getElem hlt)⟩
              rw [Nat.add_zero, g4 _ (by rw [Nat.add_mul]; omega), f2, if_pos ⟨by omega, by rw [hlen]; omega, by rw [Nat.add_mul] at hs1; omega⟩]
              simp [hlt]
            | succ i' =>
              obtain ⟨u, hu, hr⟩ := g5 i' j d' c (by simpa using hd) hj
              exact ⟨u, by rw [← hu, show i + (i' + 1) = i + 1 + i' by omega], hr⟩
        · cases h
      · cases h
    · cases h

theorem flE_cells (d : D) : ∀ (j : Nat) c, (flE d).cells[j]? = some c → (∃ c', d.cells[j]? = some c' ∧ c = c'.fl) := by
  intro j c h
  unfold flE at h
  split at h
  · simp only [D.cells] at h ⊢
    exact fl_get h
  · rename_i hne
    by_cases hs : ∃ s, d = .spc s
    · obtain ⟨s, rfl⟩ := hs
      simp [D.fl, D.cells] at h
    have h1 : d.cells = [d] := by unfold D.cells; split <;> first | (rename_i cs; exact absurd rfl (hne cs)) | (exact absurd ⟨_, rfl⟩ hs) | rfl
    have h2 : d.fl.cells = [d.fl] := by
      unfold D.fl
      split
      · rfl
      · rw [h1]
    rw [h2] at h
    rw [h1]
    cases j with
    | succ j => simp at h
    | zero =>
      simp only [List.getElem?_cons_zero, Option.some.injEq] at h
      exact ⟨d, rfl, h.symm⟩

theorem flE_length (d : D) : (flE d).cells.length = d.cells.length := by
  unfold flE
  split
  · simp [D.cells]
  · rename_i hne
    by_cases hs : ∃ s, d = .spc s
    · obtain ⟨s, rfl⟩ := hs
      rfl
    have h1 : d.cells = [d] := by unfold D.cells; split <;> first | (rename_i cs; exact absurd rfl (hne cs)) | (exact absurd ⟨_, rfl⟩ hs) | rfl
    have h2 : d.fl.cells = [d.fl] := by
      unfold D.fl
      split
      · rfl
      · rw [h1]
    rw [h1, h2]
    rfl

theorem does_lit (H : Hyp X E w a ρ g nid) (hf : E.st nid = .fresh) {t e len : Nat} {parts : Array (Nat × Operand)} {te : TI} {ds : List D} {box : Bool} (ho : o.op = .buildSlice t len parts) (ht : kAt X.T t = some (.slice e)) (hte : look e X.T = some te)
    (hl : litD g ρ te.size 0 parts.toList = some ds) (hn : Nat.beq (ds.map flE).length len = true) (h16 : Nat.ble (len * te.size) 16777216 = true) (hw0 : Nat.blt 0 te.size = true) (hok : (ds.map flE).all (fun x => x.cells.all fun c => (c.plain || (c.boxy && box))) = true) :
    Does X o E w a ⟨[], .ref nid te.size none, [(nid, some ⟨false, box, te.size, len, ds.map flE⟩)]⟩ := by
  obtain ⟨inf, z, hT⟩ := tyOK H.T hte
  have hu := kind_slice (kAt_ok H ht)
  have hn := Nat.eq_of_beq_eq_true hn
  have h16 := Nat.le_of_ble_eq_true h16
  have hdl : ds.length = len := by simpa using hn
  let vs0 : Array Value := (Array.range (len * te.size)).map fun b => (if len * te.size = 0 then (#[] : Array Value) else z.cells)[b % (if len * te.size = 0 then (#[] : Array Value) else z.cells).size]!
  obtain ⟨vs, f1, f2, f3, f4, f5⟩ := fill_lit (wd := te.size) H.rt H.op parts.toList 0 ds vs0 hl (by simp [vs0, hdl])
  intro K Q k
  obtain ⟨h1, h2, _⟩ := ext_new (E := E) (w := w) w rfl rfl rfl ⟨rfl, drw_le (Nat.le_refl _)⟩ (box := box) vs e hf (n := len) (wd := te.size) (xs := ds.map flE) (by
      intro s hs
      obtain ⟨d, rest, rfl, h1, _⟩ := List.map_eq_cons_iff.1 hs
      have h2 := flE_length d
      rw [h1, f3 d (List.mem_cons_self ..)] at h2
      simp [Nat.blt] at hw0
      simp [D.cells] at h2
      omega) hn (by
      intro x hx
      obtain ⟨d, hd, rfl⟩ := List.mem_map.1 hx
      rw [flE_length]
      exact f3 d hd) (by rw [f2]; simp [vs0]) (by
    intro i j x c hx hj
    rw [List.getElem?_map, Option.map_eq_some_iff] at hx
    obtain ⟨d, hd, rfl⟩ := hx
    obtain ⟨c', hc', rfl⟩ := flE_cells d j c hj
    obtain ⟨u, hu, hr⟩ := f5 i j d c' hd hc'
    refine ⟨u, c', by simpa using hu, hr, rfl, ?_⟩
    have h1 := List.all_eq_true.1 hok (flE d) (List.mem_map.2 ⟨d, List.mem_of_getElem? hd, rfl⟩)
    have h2 := List.all_eq_true.1 h1 _ (List.mem_of_getElem? hj)
    simp only [Bool.or_eq_true, Bool.and_eq_true] at h2
    exact h2)
  refine wp_val (v := .slice (some ⟨w.heap.size, 0, none⟩) len len) (w' := w.alloc (.cells vs e)) ?_ (k _ _ _ h1 (h2 len (Nat.le_refl _) (by rw [f2]; simp [vs0])))
  have hparts : (parts.map fun (x : Nat × Operand) => (x.1, a.eval x.2)).toList = parts.toList.map fun p => (p.1, a.eval p.2) := by simp
  have hnot : ¬ (len * te.size > 2 ^ 24) := by omega
  simp only [execOp, ho]
  rw [Sem.run_bind]
  have hrun : (Instr.buildSlice t len (parts.map fun x => (x.1, a.eval x.2))).run X.P w = .ok (.slice (some ⟨w.heap.size, 0, none⟩) len len) (w.alloc (.cells vs e)) := by
    simp only [Instr.buildSlice, Sem.run_bind, run_underlying hu, Result.andThen_ok, sizeOf, typeInfo, run_program, hT.info, Sem.run_pure, ← hT.size, Sem.run_ite, hnot, if_false, hparts]
    by_cases h0 : len * te.size = 0
    · have : vs0 = ((Array.range (len * te.size)).map fun b => (#[] : Array Value)[b % (#[] : Array Value).size]!) := by simp only [vs0, h0, if_true]
      rw [this] at f1
      simp only [h0, if_true, Sem.run_pure, Result.andThen_ok]
      rw [h0] at f1
      simp only [f1, newRow, Sem.run_bind, Sem.run_pure]
      simp [newRow]
    · have : vs0 = ((Array.range (len * te.size)).map fun b => z.cells[b % z.cells.size]!) := by simp only [vs0, h0, if_false]
      rw [this] at f1
      simp only [h0, if_false, zeroValue, typeInfo, Sem.run_bind, run_program, hT.info, hT.zero, Result.andThen_ok, Sem.run_pure, f1]
      simp [newRow]
  rw [hrun]
  rfl

end
end Go.Proofs.Ytnfeelacifllmaa.Ab
