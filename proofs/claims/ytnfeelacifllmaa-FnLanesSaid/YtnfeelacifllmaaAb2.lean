/- The steps of functions on plain data, part 2: no condition. -/
import Derived.Test.YtnfeelacifllmaaAb1
import Derived.IntWalk
set_option linter.unusedVariables false
set_option linter.unusedSimpArgs false
namespace Go.Proofs.Ytnfeelacifllmaa.Ab

section
variable {X : Ctx} {o : Oper} {E E' : Env} {w w' : World} {a : Act} {ρ : Operand → Option D} {g : Nat → Option Root} {nid : Nat}

theorem rep_mod {n wd i j : Nat} (hj : j < wd) : (i * wd + j) % wd = j := by
  rw [Nat.mul_comm, Nat.mul_add_mod]
  exact Nat.mod_eq_of_lt hj

theorem does_make (H : Hyp X E w a ρ g nid) (hf : E.st nid = .fresh) {t e : Nat} {l c : Operand} {te : TI} {k k' : IntKind} {n : Int} {N : Nat} {xs : List D} (ho : o.op = .makeSlice t l c) (ht : kAt X.T t = some (.slice e)) (hte : look e X.T = some te)
    (hl : ρ l = some (.int k n)) (hc : ρ c = some (.int k' n)) (hz : Nat.beq te.zero.cells.length te.size = true) (hp : te.zero.cells.all D.plain = true) (h0 : Nat.blt 0 te.size = true) (hb : Nat.blt 0 te.bytes = true)
    (hn : 0 ≤ n) (h47 : n.toNat * te.bytes ≤ 140737488355328) (hN : N = n.toNat) (hxs : List.replicate n.toNat te.zero = xs) {qs : List Prop} :
    Does X o E w a ⟨qs, .ref nid te.size none, [(nid, some ⟨false, false, te.size, N, xs⟩)]⟩ := by
  obtain ⟨inf, z, hT⟩ := tyOK H.T hte
  have hu := kind_slice (kAt_ok H ht)
  have hz := Nat.eq_of_beq_eq_true hz
  have h0' : 0 < te.size := by simp [Nat.blt] at h0; omega
  have hb' : 0 < te.bytes := by simp [Nat.blt] at hb; omega
  have hcr : CellsRep E w te.zero.cells z.cells := by rw [hT.zeroD]; exact ofVal_cells z
  have hzs : z.cells.size = te.size := by rw [← hcr.1, hz]
  subst hxs hN
  obtain ⟨m, rfl⟩ := Int.eq_ofNat_of_zero_le hn
  simp only [Int.toNat_natCast] at *
  let vs : Array Value := (Array.range (m * te.size)).map fun b => z.cells[b % z.cells.size]!
  intro K Q kk
  obtain ⟨h1, h2, _⟩ := ext_new (E := E) (w := w) w rfl rfl rfl ⟨rfl, drw_le (Nat.le_refl _)⟩ (box := false) vs e hf (n := m) (wd := te.size) (xs := List.replicate m te.zero) (by
      intro s hs
      have h1 : te.zero = .spc s := by
        have h2 : D.spc s ∈ List.replicate m te.zero := by rw [hs]; exact List.mem_cons_self ..
        exact (List.eq_of_mem_replicate h2).symm
      rw [h1] at hz
      simp [D.cells] at hz
      omega) (by simp) (by
      intro x hx
      rw [List.eq_of_mem_replicate hx]
      exact hz) (by simp [vs]) (by
    intro i j x c hx hj
    have hi : i < m := by have := (List.getElem?_eq_some_iff.1 hx).1; simpa using this
    have hx' : x = te.zero := by
      rw [List.getElem?_replicate, if_pos hi] at hx
      cases hx
      rfl
    subst hx'
    have hlt : j < te.size := by rw [← hz]; exact (List.getElem?_eq_some_iff.1 hj).1
    have hpl := List.all_eq_true.1 hp _ (List.mem_of_getElem? hj)
    refine ⟨z.cells[j]'(by omega), c, ?_, hcr.2 j c _ hj (Array.getElem?_eq_getElem (by omega)), (plain_fl hpl).symm, .inl hpl⟩
    have hlt2 : i * te.size + j < m * te.size := by
      have : (i + 1) * te.size ≤ m * te.size := Nat.mul_le_mul_right _ hi
      rw [Nat.add_mul] at this
      omega
    have hmod : (i * te.size + j) % z.cells.size = j := by rw [hzs]; exact rep_mod (n := 0) hlt
    simp only [vs]
    rw [Array.getElem?_map, Array.getElem?_range, if_pos hlt2]
    simp only [Option.map_some, hmod]
    rw [getElem!_pos z.cells j (by omega)])
  refine wp_val (v := .slice (some ⟨w.heap.size, 0, none⟩) m m) (w' := w.alloc (.cells vs e)) ?_ (kk _ _ _ h1 (h2 m (Nat.le_refl _) (by simp [vs])))
  have hm : m ≤ 140737488355328 := Nat.le_trans (Nat.le_mul_of_pos_right m hb') h47
  have hwrap : IntKind.i64.wrap (m : Int) = (m : Int) := by
    refine IntWalk.i64_in _ ?_
    omega
  have hbig : ¬ ((te.bytes : Int) * (m : Int) > 2 ^ 48) := by
    have h : (te.bytes : Int) * (m : Int) = ((m * te.bytes : Nat) : Int) := by rw [Int.natCast_mul, Int.mul_comm]
    rw [h]
    omega
  have hbig' : ¬ (281474976710656 < (te.bytes : Int) * (m : Int)) := by simpa using hbig
  have hroom : ¬ (m * te.bytes > roomBytes) := by simp only [roomBytes]; omega
  simp only [execOp, ho, (H.op _ _ hl).int_inv, (H.op _ _ hc).int_inv]
  rw [Sem.run_bind]
  have hrun : (Instr.makeSlice t (.int k m) (.int k' m)).run X.P w = .ok (.slice (some ⟨w.heap.size, 0, none⟩) m m) (w.alloc (.cells vs e)) := by
    have hneg : ¬ ((m : Int) < 0) := by omega
    simp only [Instr.makeSlice, Sem.run_bind, run_underlying hu, Result.andThen_ok, asInt, asIntOf, Sem.run_pure, typeInfo, run_program, hT.info, ← hT.bytes, hwrap, Sem.run_ite]
    simp only [hneg, hbig, hbig', decide_false, Bool.or_false, Bool.false_or, gt_iff_lt, Int.lt_irrefl, if_false, Bool.false_eq_true, Int.toNat_natCast, askRoom, hroom, Sem.run_pure, Result.andThen_ok, sizeOf, typeInfo, run_program, hT.info, ← hT.size, Sem.run_bind]
    by_cases hm0 : m * te.size = 0
    · have hmz : m = 0 := by rcases Nat.mul_eq_zero.1 hm0 with h | h <;> omega
      subst hmz
      simp [newRow, vs]
      congr 2
      apply Array.ext <;> simp
    · simp only [hm0, if_false, zeroValue, typeInfo, Sem.run_bind, run_program, hT.info, hT.zero, Result.andThen_ok, Sem.run_pure, Sem.run_ite]
      simp [newRow, vs]
  rw [hrun]
  rfl


theorem setCells_heap (b : Nat) : ∀ (vs : List Value) (off : Nat) (w : World) (cs : Array Value) (ty : Nat) (fr : Nat × Nat), w.heap[b]? = some (.cells cs ty fr) → off + vs.length ≤ cs.size →
    ∃ cs', (w.setCells b off vs).heap[b]? = some (.cells cs' ty fr) ∧ cs'.size = cs.size ∧ ∀ m, cs'[m]? = if off ≤ m ∧ m < off + vs.length then vs[m - off]? else cs[m]?
  | [], off, w, cs, ty, fr, h, hl => ⟨cs, h, rfl, fun m => by rw [if_neg (by simp)]⟩
  | v :: vs, off, w, cs, ty, fr, h, hl => by
    simp only [List.length_cons] at hl
    have h1 : (w.setCell ⟨b, off, none⟩ v).heap[b]? = some (.cells (cs.setIfInBounds off v) ty fr) := by
      simp [World.setCell, Array.getElem?_modify, h]
    obtain ⟨cs', h2, h3, h4⟩ := setCells_heap b vs (off + 1) _ _ ty fr h1 (by simp; omega)
    refine ⟨cs', h2, by rw [h3]; simp, fun m => ?_⟩
    rw [h4]
    simp only [List.length_cons]
    by_cases hm : m = off
    · subst hm
      rw [if_neg (by omega), if_pos (by omega), Array.getElem?_setIfInBounds_self_of_lt (by omega)]
      simp
    · rw [Array.getElem?_setIfInBounds_ne (Ne.symm hm)]
      by_cases hc : off + 1 ≤ m ∧ m < off + 1 + vs.length
      · rw [if_pos hc, if_pos (by omega), show m - off = (m - (off + 1)) + 1 by omega, List.getElem?_cons_succ]
      · rw [if_neg hc, if_neg (by omega)]

theorem setCells_same (b : Nat) : ∀ (vs : List Value) (off : Nat) (w : World), (w.setCells b off vs).heap.size = w.heap.size ∧ (w.setCells b off vs).os = w.os ∧ (w.setCells b off vs).tape = w.tape ∧ ((w.setCells b off vs).output = w.output ∧ DrawOk w (w.setCells b off vs)) ∧
    ∀ b', b' ≠ b → (w.setCells b off vs).heap[b']? = w.heap[b']?
  | [], off, w => ⟨rfl, rfl, rfl, ⟨rfl, drw_le (Nat.le_refl _)⟩, fun _ _ => rfl⟩
  | v :: vs, off, w => by
    obtain ⟨h1, h2, h3, h4, h5⟩ := setCells_same b vs (off + 1) (w.setCell ⟨b, off, none⟩ v)
    refine ⟨by rw [World.setCells, h1]; simp [World.setCell], by rw [World.setCells, h2]; rfl, by rw [World.setCells, h3]; rfl, ⟨by rw [World.setCells, h4.1]; rfl, by rw [World.setCells]; exact h4.2⟩, fun b' hb => ?_⟩
    rw [World.setCells, h5 b' hb]
    simp [World.setCell, Array.getElem?_modify, Ne.symm hb]

theorem mv_set {b off : Nat} {vs : List Value} {cs : Array Value} {ty r : Nat} {p : Pth} (hh : w.heap[b]? = some (.cells cs ty (0, 0))) (hl : off + vs.length ≤ cs.size) (ho : E.ow b = .own r p) : Mv E w E (w.setCells b off vs) := by
  obtain ⟨h1, _, _, _, h5⟩ := setCells_same b vs off w
  obtain ⟨cs', h6, h7, _⟩ := setCells_heap b vs off w cs ty (0, 0) hh hl
  refine ⟨by rw [h1]; exact Nat.le_refl _, fun b' hb hf => ⟨h5 b' (fun e => by subst e; rw [ho] at hf; cases hf), hf⟩, fun r hr => hr, fun r' hr hal => ⟨hal, rfl, rfl, fun N hs => ?_⟩⟩
  obtain ⟨s1, s2, cs1, ty1, s3, s4⟩ := hs
  by_cases hb : (E.adr r').block = b
  · rw [hb, hh] at s3
    cases s3
    exact ⟨s1, s2, cs', ty, by rw [hb]; exact h6, by rw [h7]; exact s4⟩
  · exact ⟨s1, s2, cs1, ty1, (h5 _ hb).trans s3, s4⟩

theorem lab_set {b off : Nat} {vs : List Value} {r r' : Nat} {p p' : Pth} (ho : E.ow b = .own r p) (hne : ∀ q, (r', p' ++ q) ≠ (r, p)) : Lab E w E (w.setCells b off vs) r' p' r' p' := fun b' q hb h => by
  refine ⟨(setCells_same b vs off w).2.2.2.2 b' (fun e => ?_), h⟩
  subst e
  rw [ho] at h
  cases h
  exact hne q rfl

theorem setIn_get : ∀ (ds cs : List D) (j m : Nat), (setIn cs j ds)[m]? = if j ≤ m ∧ m < j + ds.length ∧ m < cs.length then ds[m - j]? else cs[m]?
  | [], cs, j, m => by rw [if_neg (by simp; omega)]; rfl
  | d :: ds, cs, j, m => by
    rw [setIn, setIn_get ds]
    simp only [List.length_set, List.length_cons]
    by_cases hm : m = j
    · subst hm
      rw [if_neg (by omega)]
      by_cases hlt : m < cs.length
      · rw [if_pos (by omega), List.getElem?_set_self hlt]
        simp
      · rw [if_neg (by omega), List.getElem?_eq_none (by simp; omega), List.getElem?_eq_none (by omega)]
    · rw [List.getElem?_set_ne (Ne.symm hm)]
      by_cases hc : j + 1 ≤ m ∧ m < j + 1 + ds.length ∧ m < cs.length
      · rw [if_pos hc, if_pos (by omega), show m - j = (m - (j + 1)) + 1 by omega, List.getElem?_cons_succ]
      · rw [if_neg hc, if_neg (by omega)]

theorem setCells_elem {xs : List D} {i j : Nat} {cs : List D} {x : D} (hx : xs[i]? = some x) (hl : j + cs.length ≤ x.cells.length) (h0 : 0 < cs.length) (h1 : ∀ c ∈ cs, c.cells = [c]) :
    ∃ y, setCells xs i j cs = xs.set i y ∧ y.cells.length = x.cells.length ∧ ∀ m, y.cells[m]? = if j ≤ m ∧ m < j + cs.length then cs[m - j]? else x.cells[m]? := by
  unfold setCells
  rw [hx]
  cases x with
  | agg old =>
    refine ⟨.agg (setIn old j cs), rfl, by simp [D.cells, setIn_length], fun m => ?_⟩
    simp only [D.cells] at hl ⊢
    rw [setIn_get]
    by_cases hc : j ≤ m ∧ m < j + cs.length
    · rw [if_pos hc, if_pos (by omega)]
    · rw [if_neg hc, if_neg (by omega)]
  | spc s => simp only [D.cells, List.length_nil] at hl; omega
  | _ =>
    simp only [D.cells, List.length_singleton] at hl
    obtain ⟨c, rfl⟩ : ∃ c, cs = [c] := by
      match cs, h0, hl with
      | [c], _, _ => exact ⟨c, rfl⟩
      | _ :: _ :: _, _, hl => simp at hl; omega
    have hj : j = 0 := by simpa using hl
    subst hj
    refine ⟨c, rfl, by rw [h1 c (by simp)]; rfl, fun m => ?_⟩
    rw [h1 c (by simp)]
    simp only [D.cells, List.length_singleton, Nat.zero_add, Nat.sub_zero]
    cases m with
    | zero => simp
    | succ m => simp


theorem ext_store {r : Nat} {R : Root} {i j : Nat} {ds : List D} {us : List Value} (hR : RootRel E w r R) (hfz : R.fz = false) (hi : i < R.n) (hj : j + ds.length ≤ R.w) (h0 : 0 < ds.length) (h1 : ∀ c ∈ ds, c.cells = [c]) (hl : us.length = ds.length)
    (hrep : ∀ (t : Nat) c u, ds[t]? = some c → us[t]? = some u → Rep E w (R.md r i (j + t)) c u) :
    Ext E w E (w.setCells (E.adr r).block ((E.adr r).off + (i * R.w + j)) us) [(r, some { R with xs := setCells R.xs i j ds })] := by
  obtain ⟨s1, s2, cs, ty, s3, s4⟩ := hR.shp (by omega) (by omega)
  have hst : E.st r = .own := by rw [hR.st, hfz]; rfl
  rw [hst, if_pos rfl] at s2
  have hiw : (i + 1) * R.w ≤ R.n * R.w := Nat.mul_le_mul_right _ hi
  rw [Nat.add_mul] at hiw
  have hfit : (E.adr r).off + (i * R.w + j) + us.length ≤ cs.size := by omega
  have M := mv_set (E := E) (vs := us) s3 hfit s2
  obtain ⟨q1, q2, q3, q4, q5⟩ := setCells_same (E.adr r).block us ((E.adr r).off + (i * R.w + j)) w
  obtain ⟨cs', g1, g2, g3⟩ := setCells_heap (E.adr r).block us ((E.adr r).off + (i * R.w + j)) w cs ty (0, 0) s3 hfit
  have hother : ∀ r' p', (r' ≠ r ∨ p' ≠ []) → Lab E w E (w.setCells (E.adr r).block ((E.adr r).off + (i * R.w + j)) us) r' p' r' p' := fun r' p' hne => lab_set s2 fun q hq => by
    obtain ⟨e1, e2⟩ := Prod.mk.inj hq
    rcases hne with h | h
    · exact h e1
    · exact h (List.append_eq_nil_iff.1 e2).1
  have hxi : ∃ x, R.xs[i]? = some x := ⟨_, List.getElem?_eq_getElem (by rw [hR.n]; exact hi)⟩
  obtain ⟨x, hx⟩ := hxi
  have hxw : x.cells.length = R.w := hR.wd x (List.mem_of_getElem? hx)
  obtain ⟨y, hy1, hy2, hy3⟩ := setCells_elem (j := j) (cs := ds) hx (by omega) h0 h1
  have hcellA : ∀ m, (w.setCells (E.adr r).block ((E.adr r).off + (i * R.w + j)) us).cell? ((E.adr r).add m) = cs'[(E.adr r).off + m]? := fun m => by
    unfold World.cell?
    rw [add_block]
    simp only [g1]
    unfold Addr.add
    split
    · rename_i hm; subst hm; simp [s1]
    · simp
  have hcellB : ∀ m, w.cell? ((E.adr r).add m) = cs[(E.adr r).off + m]? := fun m => by
    unfold World.cell?
    rw [add_block]
    simp only [s3]
    unfold Addr.add
    split
    · rename_i hm; subst hm; simp [s1]
    · simp
  refine ⟨M.sz, q2, q3, q4, M.fz, fun b hb ho => ⟨q5 b (fun e => by subst e; rw [s2] at ho; cases ho), ho⟩, fun _ _ => rfl, fun d v h => h.mv M trivial, fun r' R' hr' h => h.mv M rfl (hother _ _ (.inl fun e => hr' _ (List.mem_cons_self ..) e.symm)), fun r' R' hmem => ?_, fun _ _ h => h, fun b cs1 ty1 h => ?_, fun r' N hr' _ h => (M.ref r' (by rw [hr']; simp) (.inl hr')).2.2.2 N h, fun r' hr' => .inr hr'⟩
  case refine_2 =>
    by_cases hbb : b = (E.adr r).block
    · subst hbb
      rw [s3] at h
      cases h
      exact ⟨cs', g1, g2⟩
    · exact ⟨cs1, (q5 b hbb).trans h, rfl⟩
  simp only [List.mem_cons, Prod.mk.injEq, Option.some.injEq, List.not_mem_nil, or_false] at hmem
  obtain ⟨rfl, rfl⟩ := hmem
  have hmd : ∀ i j, MdOk E w E (w.setCells (E.adr r').block ((E.adr r').off + (i * R.w + j)) us) (R.md r' i j) (R.md r' i j) → True := fun _ _ _ => trivial
  refine ⟨hR.st, hR.len, by rw [hy1]; simp [hR.n], fun z hz => ?_, hR.nobox, fun h h' => (M.ref r' (by rw [hst]; simp) (.inl hst)).2.2.2 _ (hR.shp h h'), fun h => absurd h (by simp only; omega), fun i' j' z c hz hc => ?_⟩
  · dsimp only at hz
    rw [hy1] at hz
    rcases List.mem_or_eq_of_mem_set hz with hz | hz
    · exact hR.wd z hz
    · rw [hz, hy2, hxw]
  · dsimp only at hz
    rw [hy1] at hz
    change ∃ u, (w.setCells (E.adr r').block ((E.adr r').off + (i * R.w + j)) us).cell? ((E.adr r').add (i' * R.w + j')) = some u ∧ Rep E (w.setCells (E.adr r').block ((E.adr r').off + (i * R.w + j)) us) (R.md r' i' j') c u
    have hi' : i' < R.n := by
      have := (List.getElem?_eq_some_iff.1 hz).1
      simpa [hR.n] using this
    have keepOld : ∀ z0, R.xs[i']? = some z0 → z0.cells[j']? = some c → ¬ (i' = i ∧ j ≤ j' ∧ j' < j + ds.length) →
        ∃ u, (w.setCells (E.adr r').block ((E.adr r').off + (i * R.w + j)) us).cell? ((E.adr r').add (i' * R.w + j')) = some u ∧ Rep E (w.setCells (E.adr r').block ((E.adr r').off + (i * R.w + j)) us) (R.md r' i' j') c u := fun z0 hz0 hc0 hne => by
      obtain ⟨u, hu, hr⟩ := hR.cell i' j' z0 c hz0 hc0
      refine ⟨u, ?_, hr.mv M ?_⟩
      · rw [hcellA, g3, if_neg ?_, ← hcellB]
        · exact hu
        · rw [hl]
          intro hin
          apply hne
          have hj' : j' < R.w := by rw [← hR.wd z0 (List.mem_of_getElem? hz0)]; exact (List.getElem?_eq_some_iff.1 hc0).1
          have : i' = i := by
            rcases Nat.lt_trichotomy i' i with hlt | heq | hlt
            · have : (i' + 1) * R.w ≤ i * R.w := Nat.mul_le_mul_right _ hlt
              rw [Nat.add_mul] at this
              omega
            · exact heq
            · have : (i + 1) * R.w ≤ i' * R.w := Nat.mul_le_mul_right _ hlt
              rw [Nat.add_mul] at this
              omega
          subst this
          omega
      · unfold Root.md
        rw [hfz]
        simp only [Bool.false_eq_true, if_false]
        split <;> exact hother _ _ (.inr (by simp))
    by_cases hii : i' = i
    · subst hii
      rw [List.getElem?_set_self (by rw [hR.n]; exact hi)] at hz
      cases hz
      rw [hy3] at hc
      by_cases hjj : j ≤ j' ∧ j' < j + ds.length
      · rw [if_pos hjj] at hc
        have hlt : j' - j < us.length := by rw [hl]; exact (List.getElem?_eq_some_iff.1 hc).1
        refine ⟨us[j' - j], ?_, ?_⟩
        · rw [hcellA, g3, if_pos (by omega), show (E.adr r').off + (i' * R.w + j') - ((E.adr r').off + (i' * R.w + j)) = j' - j by omega]
          exact List.getElem?_eq_getElem hlt
        · have := hrep (j' - j) c _ hc (List.getElem?_eq_getElem hlt)
          rw [show j + (j' - j) = j' by omega] at this
          refine this.mv M ?_
          unfold Root.md
          rw [hfz]
          simp only [Bool.false_eq_true, if_false]
          split <;> exact hother _ _ (.inr (by simp))
      · rw [if_neg hjj] at hc
        exact keepOld x hx hc (fun h => hjj h.2)
    · rw [List.getElem?_set_ne (Ne.symm hii)] at hz
      exact keepOld z hz hc (fun h => hii h.1)

theorem fl_leaf {d : D} (h : d.fl.plain = true ∨ d.fl.boxy = true) : d.fl.cells = [d.fl] := by
  cases d <;> first | rfl | (simp [D.fl, D.plain, D.boxy] at h)

theorem Rep.ownBox {q : Nat} {p : Pth} {d : D} {v : Value} (h : Rep E w (.own q p) d v) : Rep E w (.box q p) d v := by
  generalize hm : Md.own q p = m at h
  cases h with
  | int m k n => exact .int _ _ _
  | bool m b => exact .bool _ _
  | ifc m b v hv => exact .ifc _ _ _ hv
  | str m s => exact .str _ _
  | nil m => exact .nil _
  | flist m o wd n xs A cap us hm' hn hc hw ha h =>
    subst hm
    rcases hm' with h' | h' | rfl
    · cases h'
    · cases h'
    · exact .flist _ _ _ _ _ _ _ us (.inr (.inr rfl)) hn hc hw ha h
  | olist m r p wd n xs A cap us hm' hn hc hw ha h =>
    subst hm
    rcases hm' with h' | h' <;> cases h'
    exact .olist _ _ _ _ _ _ _ _ us (.inr rfl) hn hc hw ha h
  | undef m v hm' => subst hm; rcases hm' with h' | ⟨_, _, h'⟩ <;> cases h'
  | hid m v h1 h2 hm' => subst hm; rcases hm' with h' | ⟨_, _, h'⟩ <;> cases h'
  | anyb b => cases hm
  | fn f caps vs hl h => cases hm
  | agg cs vs hl h => cases hm
  | tup cs vs hl h => cases hm
  | ref m r wd vw v hm' hs h => subst hm; rcases hm' with h' | ⟨_, _, h'⟩ <;> cases h'
  | ptr m r wd i j v hm' hs h => subst hm; rcases hm' with h' | ⟨_, _, h'⟩ <;> cases h'
  | fptr m wd xs i j a us hm' hw ha h => subst hm; rcases hm' with h' | ⟨_, _, h'⟩ <;> cases h'
  | mref m r v hm' hs h => subst hm; rcases hm' with h' | ⟨_, _, h'⟩ <;> cases h'
  | omap m r p l b es clk hm' ho hh hf =>
    subst hm
    rcases hm' with h' | h' <;> cases h'
    exact .omap _ _ _ _ _ es clk (.inr rfl) ho hh hf
  | fomap m l b es clk hm' => subst hm; rcases hm' with h' | h' <;> cases h'
  | foptr m wd xs a us hm' => subst hm; rcases hm' with h' | h' <;> cases h'
  | optr m r p wd xs a us hm' hn hw ha h =>
    subst hm
    rcases hm' with h' | h' <;> cases h'
    exact .optr _ _ _ _ _ _ us (.inr rfl) hn hw ha h
theorem RootRel.boxed {r : Nat} {R : Root} (h : RootRel E w r R) (hf : R.fz = false) : RootRel E w r { R with box := true } := by
  refine ⟨h.st, h.len, h.n, h.wd, (fun hh => by rw [hf] at hh; cases hh), h.shp, h.sp, fun i' j' y d hy hd => ?_⟩
  obtain ⟨u', hu', hr'⟩ := h.cell i' j' y d hy hd
  have e2 : ({ R with box := true } : Root).md r i' j' = .box r [(i', j')] := by simp [Root.md, hf]
  rw [e2]
  refine ⟨u', hu', ?_⟩
  cases hb : R.box with
  | true => have e1 : R.md r i' j' = .box r [(i', j')] := by simp [Root.md, hf, hb]
            rw [e1] at hr'; exact hr'
  | false => have e1 : R.md r i' j' = .own r [(i', j')] := by simp [Root.md, hf, hb]
             rw [e1] at hr'; exact hr'.ownBox

theorem does_store (H : Hyp X E w a ρ g nid) {t : Nat} {x y : Operand} {r wd i j : Nat} {R : Root} {ti : TI} {d : D} (ho : o.op = .store t x y) (ht : look t X.T = some ti) (hx : ρ x = some (.ptr r wd i j)) (hy : ρ y = some d) (hg : gw g r wd = some R)
    (hfz : R.fz = false) (hw : whole g d = true) (hn : Nat.beq (d.cells.map D.fl).length ti.size = true) (hj : Nat.ble (j + (d.cells.map D.fl).length) wd = true) (hi : i < R.n)
    (hc : (R.box = true ∧ (d.cells.map D.fl).all (okc g) = true) ∨ (d.cells.map D.fl).all D.plain = true) {xs : List D} (hxs : setCells R.xs i j (d.cells.map D.fl) = xs) (h0 : Nat.blt 0 ti.size = true) {qs : List Prop} :
    Does X o E w a ⟨qs, .undef, [(r, some { R with xs := xs })]⟩ := by
  subst hxs
  obtain ⟨hg', hRw⟩ := gw_some hg
  subst hRw
  have hR := H.rt _ _ hg'
  obtain ⟨inf, z, hT⟩ := tyOK H.T ht
  have hn := Nat.eq_of_beq_eq_true hn
  have hj := Nat.le_of_ble_eq_true hj
  have h0' : 0 < ti.size := by simp [Nat.blt] at h0; omega
  have hr := H.op _ _ hy
  have hcr := hr.cells_of H.rt hw
  have hptr := (H.op _ _ hx).ptr_inv.2.2 hR.alive
  have hone : ∀ c ∈ d.cells, okc g c.fl = true ∨ c.fl.plain = true := fun c hc' => by
    rcases hc with ⟨_, hc⟩ | hc
    · exact .inl (List.all_eq_true.1 hc _ (List.mem_map.2 ⟨c, hc', rfl⟩))
    · exact .inr (List.all_eq_true.1 hc _ (List.mem_map.2 ⟨c, hc', rfl⟩))
  have hvs : (a.eval y).cells.toList.length = (d.cells.map D.fl).length := by simp [hcr.1]
  have E1 := ext_store (us := (a.eval y).cells.toList) hR hfz hi hj (by omega) (fun c hc' => by
      obtain ⟨c0, h1, rfl⟩ := List.mem_map.1 hc'
      rcases hone c0 h1 with h | h
      · exact fl_leaf (.inr (okc_boxy h))
      · exact fl_leaf (.inl h)) hvs (fun t c u htc hu => by
    obtain ⟨c0, h1, rfl⟩ := fl_get htc
    refine (hcr.2 t c0 u h1 (by simpa using hu)).lay ?_
    rcases hc with ⟨hb, hc⟩ | hc
    · exact .inr ⟨okc_boxy (List.all_eq_true.1 hc _ (List.mem_of_getElem? htc)), r, [(i, j + t)], by simp [Root.md, hfz, hb]⟩
    · exact .inl (List.all_eq_true.1 hc _ (List.mem_of_getElem? htc)))
  obtain ⟨s1, s2, cs, ty, s3, s4⟩ := hR.shp (by omega) (by omega)
  have hiw : (i + 1) * R.w ≤ R.n * R.w := Nat.mul_le_mul_right _ hi
  rw [Nat.add_mul] at hiw
  intro K Q k
  refine wp_skp (w' := w.setCells (E.adr r).block ((E.adr r).off + (i * R.w + j)) (a.eval y).cells.toList) ?_ (k _ _ _ E1 (.undef _ _ (.inl rfl)))
  have haddr : (E.adr r).add (i * R.w + j) = ⟨(E.adr r).block, (E.adr r).off + (i * R.w + j), none⟩ := by
    unfold Addr.add
    split
    · rename_i hz
      rw [hz]
      cases hA : E.adr r with
      | mk b1 b2 b3 => rw [hA] at s1; simp at s1; subst s1; rfl
    · rfl
  have hcellB : ∀ m, m < cs.size → w.cell? ⟨(E.adr r).block, m, none⟩ = some cs[m]! ∧ w.frozen? ⟨(E.adr r).block, m, none⟩ = false := fun m hm => by
    unfold World.cell? World.frozen?
    simp only [s3]
    simp [hm]
  have hrun := run_storeCells_cells (P := X.P) (E.adr r).block ((E.adr r).off + (i * R.w + j)) (a.eval y).cells.toList 0 w
    (fun m hm => by rw [Nat.add_zero, (hcellB _ (by omega)).1]; rfl) (fun m hm => by rw [Nat.add_zero]; exact (hcellB _ (by omega)).2) (fun v hv => by
      obtain ⟨m, hm⟩ := List.getElem?_of_mem hv
      have hm' : (a.eval y).cells[m]? = some v := by simpa using hm
      have hlt : m < d.cells.length := by rw [hcr.1]; exact lt_of_get hm'
      have hrm := hcr.2 m _ v (List.getElem?_eq_getElem hlt) hm'
      rcases hone _ (List.getElem_mem hlt) with h | h
      · refine okc_one (g := g) (d := (d.cells[m]).fl) (hrm.lay (m := .box 0 []) (.inr ⟨okc_boxy h, 0, [], rfl⟩) |>.lift (.inr ?_)) H.rt h
        cases hd : d.cells[m] <;> simp [D.fl, D.loadable, hd, okc] at h ⊢
      · refine okc_one (g := g) (d := (d.cells[m]).fl) (hrm.lay (m := .fz) (.inl h) |>.lift (.inl rfl)) H.rt ?_
        cases hd : d.cells[m] <;> simp [D.fl, D.plain, hd, okc] at h ⊢)
  simp only [Nat.add_zero] at hrun
  simp only [execOp, ho, hptr]
  rw [Sem.run_bind]
  have hsz : (a.eval y).cells.size = inf.size := by rw [← hcr.1, ← hT.size, ← hn]; simp
  have : (Instr.storeAt t (.pointer (some ((E.adr r).add (i * R.w + j)))) (a.eval y)).run X.P w = .ok () (w.setCells (E.adr r).block ((E.adr r).off + (i * R.w + j)) (a.eval y).cells.toList) := by
    simp only [Instr.storeAt, Instr.sureAddr, storeVar, Sem.run_bind, Sem.run_pure, Result.andThen_ok, sizeOf, typeInfo, run_program, hT.info, hsz, ne_eq, not_true_eq_false, if_false, Sem.run_ite]
    rw [haddr]
    exact hrun
  rw [this]
  rfl

end
end Go.Proofs.Ytnfeelacifllmaa.Ab

namespace Go.Proofs.Ytnfeelacifllmaa.Ab

section
variable {X : Ctx} {o : Oper} {E E' : Env} {w w' : World} {a : Act} {ρ : Operand → Option D} {g : Nat → Option Root} {nid : Nat}

theorem flat_list {n wd : Nat} (Q : Nat → Nat → Value → Prop) (h : ∀ i j, i < n → j < wd → ∃ u, Q i j u) :
    ∃ us : List Value, us.length = n * wd ∧ (∀ i j, i < n → j < wd → ∃ u, us[i * wd + j]? = some u ∧ Q i j u) ∧ ∀ (k : Nat) u, us[k]? = some u → ∃ i j, i < n ∧ j < wd ∧ k = i * wd + j ∧ Q i j u := by
  have hch : ∃ f : Nat → Nat → Value, ∀ i j, i < n → j < wd → Q i j (f i j) := by
    refine ⟨fun i j => if h' : i < n ∧ j < wd then Classical.choose (h i j h'.1 h'.2) else undef, fun i j hi hj => ?_⟩
    simp only [hi, hj, and_self, dite_true]
    exact Classical.choose_spec (h i j hi hj)
  obtain ⟨f, hf⟩ := hch
  refine ⟨(List.range (n * wd)).map fun k => f (k / wd) (k % wd), by simp, fun i j hi hj => ?_, fun k u hk => ?_⟩
  · have hlt : i * wd + j < n * wd := by
      have : (i + 1) * wd ≤ n * wd := Nat.mul_le_mul_right _ hi
      rw [Nat.add_mul] at this
      omega
    have h1 : (i * wd + j) / wd = i := by
      rw [Nat.mul_comm, Nat.mul_add_div (by omega), Nat.div_eq_of_lt hj]
      rfl
    have h2 : (i * wd + j) % wd = j := rep_mod (n := 0) hj
    refine ⟨f i j, ?_, hf i j hi hj⟩
    rw [List.getElem?_map, List.getElem?_range hlt]
    simp [h1, h2]
  · rw [List.getElem?_map, Option.map_eq_some_iff] at hk
    obtain ⟨k', hk', rfl⟩ := hk
    have hlt : k < n * wd := by have := (List.getElem?_eq_some_iff.1 hk').1; simpa using this
    rw [List.getElem?_range hlt] at hk'
    cases hk'
    have hw : 0 < wd := by
      rcases Nat.eq_zero_or_pos wd with h0 | h0
      · subst h0; simp at hlt
      · exact h0
    have hi : k / wd < n := (Nat.div_lt_iff_lt_mul hw).2 hlt
    have hj : k % wd < wd := Nat.mod_lt _ hw
    exact ⟨k / wd, k % wd, hi, hj, by rw [Nat.mul_comm]; exact (Nat.div_add_mod k wd).symm, hf _ _ hi hj⟩

def sh (f : Nat → Nat) : Pth → Pth
  | [] => []
  | (i, j) :: q => (f i, j) :: q

def relab (r rx : Option Nat) (lo n nid : Nat) (s : Nat) (p : Pth) : Bk :=
  if r = some s then .own nid (sh (fun i => i - lo) p) else if rx = some s then .own nid (sh (fun i => n + i) p) else .own s p

def Env.app (E : Env) (r rx : Option Nat) (lo n nid : Nat) (A : Addr) (len : Nat) (nb : Option Nat) : Env :=
  { adr := fun s => if s = nid then A else E.adr s
    len := fun s => if s = nid then len else E.len s
    ow := fun b => if nb = some b then .own nid [] else match E.ow b with
      | .own s p => relab r rx lo n nid s p
      | x => x
    st := fun s => if s = nid then .own else if r = some s ∨ rx = some s then .dead else E.st s }

structure AppOk (E : Env) (w w' : World) (r rx : Option Nat) (nid : Nat) (nb : Option Nat) : Prop where
  sz : w.heap.size ≤ w'.heap.size
  os : w'.os = w.os
  tape : w'.tape = w.tape
  output : w'.output = w.output ∧ DrawOk w w'
  fresh : E.st nid = .fresh
  rst : ∀ s, r = some s ∨ rx = some s → E.st s = .own
  nb : ∀ b, nb = some b → w.heap.size ≤ b
  same : ∀ b, b < w.heap.size → (∀ s, r = some s → E.ow b ≠ .own s []) → w'.heap[b]? = w.heap[b]?
  shape : ∀ (b : Nat) (cs : Array Value) (ty : Nat), w.heap[b]? = some (.cells cs ty (0, 0)) → ∃ cs' : Array Value, w'.heap[b]? = some (.cells cs' ty (0, 0)) ∧ cs'.size = cs.size

theorem app_mv {r rx : Option Nat} {lo n nid : Nat} {A : Addr} {len : Nat} {nb : Option Nat} (H : AppOk E w w' r rx nid nb) : Mv E w (E.app r rx lo n nid A len nb) w' := by
  have hnb : ∀ b, b < w.heap.size → nb ≠ some b := fun b hb h => by have := H.nb b h; omega
  refine ⟨H.sz, fun b hb ho => ⟨H.same b hb (fun s _ => by rw [ho]; simp), ?_⟩, fun s hs => ?_, fun s hs hal => ?_⟩
  · simp only [Env.app, hnb b hb, if_false, ho]
  · simp only [Env.app]
    split
    · simp
    · split
      · simp
      · exact hs
  · have h1 : s ≠ nid := fun e => hs (e ▸ H.fresh)
    have h2 : ¬ (r = some s ∨ rx = some s) := fun h => by
      unfold Alive at hal
      simp [Env.app, h1, h] at hal
    refine ⟨?_, by simp [Env.app, h1], by simp [Env.app, h1], fun N hN => ?_⟩
    · unfold Alive at *
      simpa [Env.app, h1, h2] using hal
    · obtain ⟨s1, s2, cs, ty, s3, s4⟩ := hN
      have hb := lt_of_get s3
      obtain ⟨cs', g1, g2⟩ := H.shape _ cs ty s3
      have hst : (E.app r rx lo n nid A len nb).st s = E.st s := by simp [Env.app, h1, h2]
      have hadr : (E.app r rx lo n nid A len nb).adr s = E.adr s := by simp [Env.app, h1]
      unfold Shp
      rw [hst, hadr]
      refine ⟨s1, ?_, cs', ty, g1, by rw [g2]; exact s4⟩
      have h3 : r ≠ some s := fun e => h2 (.inl e)
      have h4 : rx ≠ some s := fun e => h2 (.inr e)
      by_cases ho : E.st s = .own
      · rw [if_pos ho] at s2 ⊢
        simp only [Env.app, hnb _ hb, if_false, s2, relab, h3, h4]
      · rw [if_neg ho] at s2 ⊢
        simp only [Env.app, hnb _ hb, if_false, s2]

theorem app_lab_r {r rx : Option Nat} {lo n nid : Nat} {A : Addr} {len : Nat} {nb : Option Nat} (H : AppOk E w w' r rx nid nb) {s i j : Nat} (hr : r = some s) (hi : lo ≤ i) : Lab E w (E.app r rx lo n nid A len nb) w' s [(i, j)] nid [(i - lo, j)] := fun b q hb ho => by
  have hnb : nb ≠ some b := fun h => by have := H.nb b h; omega
  refine ⟨H.same b hb (fun s' _ => by rw [ho]; simp), ?_⟩
  simp only [Env.app, hnb, if_false, ho, relab, hr, if_true]
  rfl

theorem app_lab_x {r rx : Option Nat} {lo n nid : Nat} {A : Addr} {len : Nat} {nb : Option Nat} (H : AppOk E w w' r rx nid nb) {s i j : Nat} (hx : rx = some s) (hne : r ≠ some s) : Lab E w (E.app r rx lo n nid A len nb) w' s [(i, j)] nid [(n + i, j)] := fun b q hb ho => by
  have hnb : nb ≠ some b := fun h => by have := H.nb b h; omega
  refine ⟨H.same b hb (fun s' _ => by rw [ho]; simp), ?_⟩
  simp only [Env.app, hnb, if_false, ho, relab, hne, hx, if_true]
  rfl

theorem app_lab_o {r rx : Option Nat} {lo n nid : Nat} {A : Addr} {len : Nat} {nb : Option Nat} (H : AppOk E w w' r rx nid nb) {s : Nat} {p : Pth} (hne : r ≠ some s) (hnx : rx ≠ some s) : Lab E w (E.app r rx lo n nid A len nb) w' s p s p := fun b q hb ho => by
  have hnb : nb ≠ some b := fun h => by have := H.nb b h; omega
  refine ⟨H.same b hb (fun s' hs' => by rw [ho]; intro e; rw [Bk.own.injEq] at e; exact hne (by rw [e.1]; exact hs')), ?_⟩
  simp only [Env.app, hnb, if_false, ho, relab, hne, hnx]

theorem ext_app {r rx : Option Nat} {lo n m nid wd : Nat} {A : Addr} {nb : Option Nat} (H : AppOk E w w' r rx nid nb) {xs : List D} (hn : xs.length = n + m) (hw0 : 0 < wd) (hwd : ∀ x ∈ xs, x.cells.length = wd)
    (hshp : 0 < n + m → A.spot = none ∧ (match nb with | some b => A.block = b | none => ∃ s, r = some s ∧ E.ow A.block = .own s [] ∧ A.block < w.heap.size) ∧ ∃ cs ty, w'.heap[A.block]? = some (.cells cs ty (0, 0)) ∧ A.off + (n + m) * wd ≤ cs.size)
    (hold : ∀ (i j : Nat) x c, i < n → xs[i]? = some x → x.cells[j]? = some c → ∃ u s, r = some s ∧ w'.cell? (A.add (i * wd + j)) = some u ∧ Rep E w (.own s [(lo + i, j)]) c u)
    (hnew : ∀ (i j : Nat) x c, xs[n + i]? = some x → x.cells[j]? = some c → ∃ u, w'.cell? (A.add ((n + i) * wd + j)) = some u ∧ ((∃ s, rx = some s ∧ r ≠ some s ∧ Rep E w (.own s [(i, j)]) c u) ∨ (c.plain = true ∧ Rep E w .slot c u)))
    {us : List (Nat × Option Root)} (hus : ∀ s R, (s, some R) ∈ us → s = nid ∧ R = ⟨false, false, wd, n + m, xs⟩) (hks : ∀ s, r = some s ∨ rx = some s → ∃ u ∈ us, u.1 = s) (hnid : ∃ u ∈ us, u.1 = nid) :
    Ext E w (E.app r rx lo n nid A (n + m) nb) w' us := by
  have M := app_mv (lo := lo) (n := n) (A := A) (len := n + m) H
  have hnb : ∀ b, b < w.heap.size → nb ≠ some b := fun b hb h => by have := H.nb b h; omega
  refine ⟨M.sz, H.os, H.tape, H.output, M.fz, fun b hb ho => ⟨H.same b hb (fun s _ => by rw [ho]; simp), ?_⟩, fun s hs => ?_, fun d v h => h.mv M trivial, fun s R hs h => ?_, fun s R hmem => ?_, fun s hs hf => ?_, H.shape, fun s N hs hs' h => (M.ref s (by rw [hs]; simp) (.inl hs')).2.2.2 N h, fun s hs => ?_⟩
  · simp only [Env.app, hnb b hb, if_false, ho]
  · have : s ≠ nid := fun e => hs (e ▸ H.fresh)
    simp [Env.app, this]
  · have h1 : s ≠ nid := fun e => by obtain ⟨u, hu, he⟩ := hnid; exact hs u hu (he.trans e.symm)
    have h2 : ¬ (r = some s ∨ rx = some s) := fun e => by obtain ⟨u, hu, he⟩ := hks s e; exact hs u hu he
    exact h.mv M (by simp [Env.app, h1, h2]) (app_lab_o H (fun e => h2 (.inl e)) (fun e => h2 (.inr e)))
  · obtain ⟨rfl, rfl⟩ := hus s R hmem
    have hadr : (E.app r rx lo n s A (n + m) nb).adr s = A := by simp [Env.app]
    refine ⟨by simp [Env.app], by simp [Env.app], hn, hwd, (fun h => by cases h), fun h0 _ => ?_, fun h => absurd h (Nat.ne_of_gt hw0), fun i j x c hx hj => ?_⟩
    · obtain ⟨s1, s2, cs, ty, s3, s4⟩ := hshp h0
      unfold Shp
      rw [hadr]
      refine ⟨s1, ?_, cs, ty, s3, s4⟩
      have hst : (E.app r rx lo n s A (n + m) nb).st s = .own := by simp [Env.app]
      rw [hst, if_pos rfl]
      cases nb with
      | some b =>
        simp only at s2
        simp [Env.app, s2]
      | none =>
        obtain ⟨s', hs', ho, _⟩ := s2
        simp only [Env.app, ho, relab, hs', if_true]
        rfl
    · rw [hadr]
      change ∃ u, w'.cell? (A.add (i * wd + j)) = some u ∧ Rep (E.app r rx lo n s A (n + m) nb) w' (.own s [(i, j)]) c u
      rcases Nat.lt_or_ge i n with hlt | hge
      · obtain ⟨u, s', hs', hu, hr⟩ := hold i j x c hlt hx hj
        refine ⟨u, hu, hr.mv M ?_⟩
        have := app_lab_r (lo := lo) (n := n) (A := A) (len := n + m) (i := lo + i) (j := j) H hs' (by omega)
        rw [show lo + i - lo = i by omega] at this
        exact this
      · obtain ⟨k, rfl⟩ : ∃ k, i = n + k := ⟨i - n, by omega⟩
        obtain ⟨u, hu, hr⟩ := hnew k j x c hx hj
        refine ⟨u, hu, ?_⟩
        rcases hr with ⟨s', hs', hne, hr⟩ | ⟨hp, hr⟩
        · exact hr.mv M (app_lab_x (lo := lo) (n := n) (A := A) (len := n + m) (i := k) (j := j) H hs' hne)
        · have h1 := (hr.mv M (m' := .slot) trivial).lay (m := .own s [(n + k, j)]) (.inl (by rw [plain_fl hp]; exact hp))
          rw [plain_fl hp] at h1
          exact h1
  · have h1 : s ≠ nid := fun e => by obtain ⟨u, hu, he⟩ := hnid; exact hs u hu (he.trans e.symm)
    have h2 : ¬ (r = some s ∨ rx = some s) := fun e => by obtain ⟨u, hu, he⟩ := hks s e; exact hs u hu he
    simpa [Env.app, h1, h2] using hf
  · by_cases h1 : s = nid
    · subst h1; exact .inl H.fresh
    · by_cases h2 : r = some s ∨ rx = some s
      · simp [Env.app, h1, h2] at hs
      · simp only [Env.app, h1, h2, if_false] at hs; exact .inr hs

theorem Rep.one {m : Md} {d : D} {v : Value} (h : Rep E w m d v) (hm : m = .fz ∨ ∃ r p, m = .own r p) : v.oneCell' = true := by
  have hb : ¬ (m = .slot ∨ ∃ r p, m = .box r p) := by rcases hm with rfl | ⟨r, p, rfl⟩ <;> simp
  cases h with
  | agg cs vs hl h => exact absurd (.inl rfl) hb
  | tup cs vs hl h => exact absurd (.inl rfl) hb
  | fn f caps vs hl h => rfl
  | undef m v hm' => exact absurd hm' hb
  | hid m v h1 h2 hm' => exact h1
  | anyb b => rfl
  | int m k n => rfl
  | bool m b => rfl
  | ifc m b v hv => exact (ifcV_one hv).2
  | str m s => rfl
  | nil m => rfl
  | flist m o wd n xs A cap us hm hn hc hw ha h => rfl
  | olist m r p wd n xs A cap us hm hn hc hw ha h => rfl
  | ref m r wd vw v hm' hs h => exact absurd hm' hb
  | ptr m r wd i j v hm' hs h => exact absurd hm' hb
  | fptr m wd xs i j a us hm hw ha h => rfl
  | mref m r v hm' hs h => exact absurd hm' hb
  | omap m r p l b es clk hm ho hh hf => rfl
  | optr m r p wd xs a us hm hn hw ha h => rfl
  | fomap m l b es clk hm ho hh hf => rfl
  | foptr m wd xs a us hm hw ha h => rfl

structure SrcD (P : Program) (E : Env) (w : World) (rx : Option Nat) (tx wd : Nat) (zs : List D) (m : Nat) (v : Value) : Prop where
  len : zs.length = m
  wid : ∀ x ∈ zs, x.cells.length = wd
  src : ∃ news, Src P wd tx v m news w ∧ ∀ (i j : Nat) x c, zs[i]? = some x → x.cells[j]? = some c → ∃ u, news[i * wd + j]? = some u ∧ ((∃ s, rx = some s ∧ Rep E w (.own s [(i, j)]) c u) ∨ (c.plain = true ∧ Rep E w .slot c u))

theorem slice_src {P : Program} {rx : Option Nat} {tx e wd m cap : Nat} {A : Option Addr} {zs : List D} (hk : P.underlying tx = some (.slice e)) (hl : zs.length = m) (hwd : ∀ x ∈ zs, x.cells.length = wd)
    (h : 0 < m → ∃ b, A = some b ∧ ∀ (i j : Nat) x c, zs[i]? = some x → x.cells[j]? = some c → ∃ u, w.cell? (b.add (i * wd + j)) = some u ∧ u.oneCell' = true ∧ ((∃ s, rx = some s ∧ Rep E w (.own s [(i, j)]) c u) ∨ (c.plain = true ∧ Rep E w .slot c u))) :
    SrcD P E w rx tx wd zs m (.slice A m cap) := by
  refine ⟨hl, hwd, ?_⟩
  rcases Nat.eq_zero_or_pos m with h0 | h0
  · subst h0
    obtain rfl : zs = [] := List.eq_nil_of_length_eq_zero hl
    refine ⟨[], ?_, fun i j x c hx => by simp at hx⟩
    cases A with
    | none => exact Src.ofNil w hk cap
    | some b => exact Src.ofSlice w hk b 0 cap [] (by simp) (by simp) (by simp)
  · obtain ⟨b, rfl, hb⟩ := h h0
    have hget : ∀ i j, i < m → j < wd → ∃ x c, zs[i]? = some x ∧ x.cells[j]? = some c := fun i j hi hj => by
      have hx : zs[i]? = some (zs[i]'(by omega)) := List.getElem?_eq_getElem _
      have hw' := hwd _ (List.mem_of_getElem? hx)
      exact ⟨_, _, hx, List.getElem?_eq_getElem (by omega)⟩
    obtain ⟨us, hul, h1, h2⟩ := flat_list (n := m) (wd := wd) (fun i j u => w.cell? (b.add (i * wd + j)) = some u ∧ u.oneCell' = true ∧ ∀ x c, zs[i]? = some x → x.cells[j]? = some c → ((∃ s, rx = some s ∧ Rep E w (.own s [(i, j)]) c u) ∨ (c.plain = true ∧ Rep E w .slot c u))) (fun i j hi hj => by
      obtain ⟨x, c, hx, hc⟩ := hget i j hi hj
      obtain ⟨u, hu, ho, hr⟩ := hb i j x c hx hc
      exact ⟨u, hu, ho, fun x' c' hx' hc' => by rw [hx] at hx'; cases hx'; rw [hc] at hc'; cases hc'; exact hr⟩)
    refine ⟨us, Src.ofSlice w hk b m cap us hul (fun k u hk => ?_) (fun u hu => ?_), fun i j x c hx hc => ?_⟩
    · obtain ⟨i, j, hi, hj, rfl, hq, _⟩ := h2 k u hk
      exact hq
    · obtain ⟨k, hk⟩ := List.getElem?_of_mem hu
      obtain ⟨i, j, hi, hj, _, _, ho, _⟩ := h2 k u hk
      exact ho
    · have hi : i < m := by rw [← hl]; exact (List.getElem?_eq_some_iff.1 hx).1
      have hj : j < wd := by rw [← hwd x (List.mem_of_getElem? hx)]; exact (List.getElem?_eq_some_iff.1 hc).1
      obtain ⟨u, hu, _, _, hq⟩ := h1 i j hi hj
      exact ⟨u, hu, hq x c hx hc⟩

theorem str_src {P : Program} {rx : Option Nat} {tx : Nat} {s : ByteArray} (hk : P.underlying tx = some .string) : SrcD P E w rx tx 1 (bytesD s) s.size (.string s) := by
  refine ⟨bytesD_length s, fun x hx => ?_, byteCells s, Src.ofString w hk s, fun i j x c hx hc => ?_⟩
  · unfold bytesD at hx
    obtain ⟨b, _, rfl⟩ := List.mem_map.1 hx
    rfl
  · obtain ⟨b, hb, rfl⟩ := bytesD_get hx
    cases j with
    | succ j => simp [D.cells] at hc
    | zero =>
      simp [D.cells] at hc
      subst hc
      refine ⟨.int .u8 b.toNat, ?_, .inr ⟨rfl, .int _ _ _⟩⟩
      simp only [Nat.mul_one, Nat.add_zero, byteCells, List.getElem?_map, hb, Option.map_some]

def DstD (E : Env) (w : World) (r : Option Nat) (lo n wd : Nat) (ys : List D) (A : Option Addr) (cap : Nat) : Prop :=
  (r = none ∧ n = 0 ∧ cap = 0 ∧ A = none ∧ ys = []) ∨
  ∃ s R, r = some s ∧ RootRel E w s R ∧ R.fz = false ∧ R.box = false ∧ R.w = wd ∧ n ≤ cap ∧ lo + n ≤ R.n ∧ ys = (R.xs.drop lo).take n ∧ (0 < cap → A = some ((E.adr s).add (lo * wd)) ∧ Shp E w s ((lo + cap) * wd))

theorem run_append_zero {P : Program} {t tx ty e : TypeId} {i : TypeInfo} (ht : P.underlying t = some (.slice e)) (hi : P.info? e = some i) {A : Option Addr} {cap : Nat} {x : Value} {news : List Value} (hs : Src P i.size tx x 0 news w) :
    (Builtin.append_ #[t, tx] ty #[.slice A 0 cap, x]).run P w = .ok (.slice A 0 cap) w := by
  have hn : news = [] := List.eq_nil_of_length_eq_zero (by rw [hs.newsLen]; simp)
  have hc := hs.cells
  rw [hn] at hc
  rcases hs.kind with ⟨e', hk⟩ | hk <;> cases A <;> simp [Builtin.append_, run_underlying ht, run_underlying hk, sizeOf, typeInfo, hi, hs.len, hc, storeCells]


theorem append_core {P : Program} {r rx : Option Nat} {lo n m nid : Nat} {ys zs : List D} {A : Option Addr} {cap : Nat} {v x : Value} {t tx ty e : Nat} {te : TI} {inf : TypeInfo} {z : Value} (hT : TyOK P e te inf z) (hzsz : z.cells.size = te.size) (ht : P.underlying t = some (.slice e))
    (hd : DstD E w r lo n te.size ys A cap) (hv : v = .slice A n cap) (hs : SrcD P E w rx tx te.size zs m x) (hne : ∀ s, r = some s → rx ≠ some s) (hrx : ∀ s, rx = some s → E.st s = .own) (hfr : E.st nid = .fresh) (h0 : 0 < te.size) (hb : 0 < te.bytes)
    (hbound : (n + m) * te.bytes ≤ 70368744177664) {us : List (Nat × Option Root)} (hus : ∀ s R, (s, some R) ∈ us → s = nid ∧ R = ⟨false, false, te.size, n + m, ys ++ zs⟩) (hks : ∀ s, r = some s ∨ rx = some s → ∃ u ∈ us, u.1 = s) (hnid : ∃ u ∈ us, u.1 = nid) :
    ∃ v' w' E', (Builtin.append_ #[t, tx] ty #[v, x]).run P w = .ok v' w' ∧ Ext E w E' w' us ∧ Rep E' w' .slot (.ref nid te.size none) v' := by
  subst hv
  obtain ⟨hzl, hzw, news, hsrc, hznew⟩ := hs
  have hi := hT.info
  have hsz : inf.size = te.size := hT.size.symm
  -- the elements that are there
  have hyl : ys.length = n ∧ (∀ x ∈ ys, x.cells.length = te.size) ∧ ∀ s, r = some s → E.st s = .own := by
    rcases hd with ⟨rfl, rfl, rfl, rfl, rfl⟩ | ⟨s, R, rfl, hR, hfz, hbox, hRw, hcap, hlo, rfl, hA⟩
    · exact ⟨rfl, (fun x hx => by cases hx), (fun s h => by cases h)⟩
    · refine ⟨by simp [hR.n]; omega, fun x hx => ?_, fun s' h => ?_⟩
      · rw [← hRw]
        exact hR.wd x (List.mem_of_mem_drop (List.mem_of_mem_take hx))
      · cases h
        rw [hR.st, hfz]
        rfl
  obtain ⟨hyl, hyw, hrst⟩ := hyl
  have hlen : (ys ++ zs).length = n + m := by simp [hyl, hzl]
  have hwid : ∀ x ∈ ys ++ zs, x.cells.length = te.size := fun x hx => by
    rcases List.mem_append.1 hx with hx | hx
    · exact hyw x hx
    · exact hzw x hx
  have hr1 : ∀ s, r = some s ∨ rx = some s → E.st s = .own := fun s h => h.elim (hrst s) (hrx s)
  have hyget : ∀ (i : Nat) x, i < n → (ys ++ zs)[i]? = some x → ys[i]? = some x := fun i x hi hx => by rwa [List.getElem?_append_left (by omega)] at hx
  have hzget : ∀ (i : Nat) x, (ys ++ zs)[n + i]? = some x → zs[i]? = some x := fun i x hx => by rwa [List.getElem?_append_right (by omega), hyl, show n + i - n = i by omega] at hx
  have mkx : ∀ {i j : Nat} {x c : D} {u : Value}, ((∃ s, rx = some s ∧ Rep E w (.own s [(i, j)]) c u) ∨ (c.plain = true ∧ Rep E w .slot c u)) → ((∃ s, rx = some s ∧ r ≠ some s ∧ Rep E w (.own s [(i, j)]) c u) ∨ (c.plain = true ∧ Rep E w .slot c u)) := fun h => by
    rcases h with ⟨s, h1, h2⟩ | h
    · exact .inl ⟨s, h1, fun e => hne s e h1, h2⟩
    · exact .inr h
  have mkref : ∀ {A' : Addr} {cap' : Nat} {nb : Option Nat} {w' : World} {V : Value}, V = .slice (some A') (n + m) cap' ∨ (n + m = 0 ∧ cap' = 0 ∧ ∃ B, V = .slice B 0 0) → n + m ≤ cap' → (0 < cap' → Shp (E.app r rx lo n nid A' (n + m) nb) w' nid (cap' * te.size)) → Rep (E.app r rx lo n nid A' (n + m) nb) w' .slot (.ref nid te.size none) V := fun {A' cap' nb w' V} hV hc hsh => by
    refine .ref _ _ _ _ _ (.inl rfl) (by simp [Env.app]) fun _ => ?_
    have hlen' : (E.app r rx lo n nid A' (n + m) nb).len nid = n + m := by simp [Env.app]
    have hadr' : (E.app r rx lo n nid A' (n + m) nb).adr nid = A' := by simp [Env.app]
    rcases hV with rfl | ⟨h1, h2, B, rfl⟩
    · refine ⟨some A', cap', by simp [Vw, hlen'], by simpa [Vw, hlen'] using hc, by simp [Vw, hlen'], fun h => ⟨by simp [Vw, hadr', Addr.add], ?_⟩⟩
      simp only [Vw, Nat.zero_add]
      exact hsh h
    · exact ⟨B, 0, by simp only [Vw]; rw [hlen', h1], by simp only [Vw]; rw [hlen', h1]; exact Nat.le_refl _, by simp only [Vw]; omega, fun h => by omega⟩
  by_cases hroom : n + m ≤ cap
  · rcases Nat.eq_zero_or_pos cap with hc0 | hc0
    · -- nothing there, nothing appended
      have hn0 : n = 0 := by omega
      have hm0 : m = 0 := by omega
      subst hc0
      have hys : ys = [] := List.eq_nil_of_length_eq_zero (by omega)
      have hzs : zs = [] := List.eq_nil_of_length_eq_zero (by omega)
      subst hm0 hn0
      rw [← hsz] at hsrc
      have hA : AppOk E w w r rx nid none := ⟨Nat.le_refl _, rfl, rfl, ⟨rfl, drw_le (Nat.le_refl _)⟩, hfr, hr1, (fun b h => by cases h), fun _ _ _ => rfl, fun b cs ty h => ⟨cs, h, rfl⟩⟩
      refine ⟨_, w, E.app r rx lo 0 nid ⟨0, 0, none⟩ 0 none, run_append_zero ht hi hsrc, ext_app (xs := ys ++ zs) hA hlen h0 hwid (fun h => by omega) (fun i j x c h => by omega) (fun i j x c hx => by rw [hys, hzs] at hx; simp at hx) hus hks hnid, ?_⟩
      exact mkref (A' := ⟨0, 0, none⟩) (cap' := 0) (.inr ⟨rfl, rfl, A, rfl⟩) (Nat.le_refl _) (fun h => by omega)
    · -- there is room
      rcases hd with ⟨_, _, rfl, _⟩ | ⟨s, R, rfl, hR, hfz, hbox, hRw, hcap, hlo, rfl, hA⟩
      · omega
      obtain ⟨rfl, hsh⟩ := hA hc0
      have hst : E.st s = .own := hrst s rfl
      obtain ⟨s1, s2, cs, ty', s3, s4⟩ := hsh
      rw [hst, if_pos rfl] at s2
      have haddr : (E.adr s).add (lo * te.size) = ⟨(E.adr s).block, (E.adr s).off + lo * te.size, none⟩ := by
        unfold Addr.add
        split
        · rename_i hz
          rw [hz]
          cases hAd : E.adr s with
          | mk b1 b2 b3 => rw [hAd] at s1; simp at s1; subst s1; rfl
        · rfl
      have hnl : news.length = m * te.size := hsrc.newsLen
      have hfit : (E.adr s).off + lo * te.size + n * te.size + news.length ≤ cs.size := by
        have h1 : (n + m) * te.size ≤ cap * te.size := Nat.mul_le_mul_right _ hroom
        rw [Nat.add_mul] at h1 s4
        omega
      have hcellB : ∀ k, k < cs.size → w.cell? ⟨(E.adr s).block, k, none⟩ = some cs[k]! ∧ w.frozen? ⟨(E.adr s).block, k, none⟩ = false := fun k hk => by
        unfold World.cell? World.frozen?
        simp only [s3]
        simp [hk]
      have hrun := run_append_room_src (P := P) w t tx ty e inf ht hi (E.adr s).block ((E.adr s).off + lo * te.size) n cap x m news (by rw [hsz]; exact hsrc) hroom
        (fun j hj => by rw [hsz, (hcellB _ (by omega)).1]; rfl) (fun j hj => by rw [hsz]; exact (hcellB _ (by omega)).2)
      rw [← haddr, hsz] at hrun
      obtain ⟨q1, q2, q3, q4, q5⟩ := setCells_same (E.adr s).block news ((E.adr s).off + lo * te.size + n * te.size) w
      obtain ⟨cs', g1, g2, g3⟩ := setCells_heap (E.adr s).block news ((E.adr s).off + lo * te.size + n * te.size) w cs ty' (0, 0) s3 hfit
      have hAO : AppOk E w (w.setCells (E.adr s).block ((E.adr s).off + lo * te.size + n * te.size) news) (some s) rx nid none := by
        refine ⟨by rw [q1]; exact Nat.le_refl _, q2, q3, q4, hfr, hr1, (fun b h => by cases h), fun b hb hb' => q5 b (fun e => hb' s rfl (by rw [e]; exact s2)), fun b cs1 ty1 h => ?_⟩
        by_cases hbb : b = (E.adr s).block
        · subst hbb
          rw [s3] at h
          cases h
          exact ⟨cs', g1, g2⟩
        · exact ⟨cs1, (q5 b hbb).trans h, rfl⟩
      have hcellA : ∀ k, (w.setCells (E.adr s).block ((E.adr s).off + lo * te.size + n * te.size) news).cell? (((E.adr s).add (lo * te.size)).add k) = cs'[(E.adr s).off + lo * te.size + k]? := fun k => by
        rw [haddr]
        unfold World.cell?
        rw [add_block]
        simp only [g1]
        unfold Addr.add
        split
        · rename_i hm; subst hm; simp
        · simp
      have hcellW : ∀ k, w.cell? (((E.adr s).add (lo * te.size)).add k) = cs[(E.adr s).off + lo * te.size + k]? := fun k => by
        rw [haddr]
        unfold World.cell?
        rw [add_block]
        simp only [s3]
        unfold Addr.add
        split
        · rename_i hm; subst hm; simp
        · simp
      refine ⟨_, _, E.app (some s) rx lo n nid ((E.adr s).add (lo * te.size)) (n + m) none, hrun, ext_app (xs := (R.xs.drop lo).take n ++ zs) hAO hlen h0 hwid (fun h => ?_) (fun i j x c hi hx hc => ?_) (fun i j x c hx hc => ?_) hus hks hnid, ?_⟩
      · refine ⟨by rw [haddr], ⟨s, rfl, by rw [add_block]; exact s2, by rw [add_block]; exact lt_of_get s3⟩, cs', ty', by rw [add_block]; exact g1, ?_⟩
        rw [haddr, g2, Nat.add_mul]
        simp only
        rw [hnl] at hfit
        omega
      · have hx' := (take_drop_get (hyget i x hi hx)).1
        obtain ⟨u, hu, hr⟩ := hR.cell (lo + i) j x c hx' hc
        have hj : j < te.size := by rw [← hwid x (List.mem_of_getElem? hx)]; exact (List.getElem?_eq_some_iff.1 hc).1
        refine ⟨u, s, rfl, ?_, by simpa [Root.md, hfz, hbox] using hr⟩
        rw [hcellA, g3, if_neg ?_, ← hcellW, add_add, show lo * te.size + (i * te.size + j) = (lo + i) * R.w + j by rw [hRw, Nat.add_mul]; omega]
        · exact hu
        · have : (i + 1) * te.size ≤ n * te.size := Nat.mul_le_mul_right _ hi
          rw [Nat.add_mul] at this
          omega
      · obtain ⟨u, hu, hr⟩ := hznew i j x c (hzget i x hx) hc
        refine ⟨u, ?_, mkx (x := x) hr⟩
        have hlt : i * te.size + j < news.length := (List.getElem?_eq_some_iff.1 hu).1
        rw [hcellA, g3, if_pos (by rw [Nat.add_mul]; omega), show (E.adr s).off + lo * te.size + ((n + i) * te.size + j) - ((E.adr s).off + lo * te.size + n * te.size) = i * te.size + j by rw [Nat.add_mul]; omega]
        exact hu
      · refine mkref (cap' := cap) (.inl rfl) hroom fun _ => ?_
        unfold Shp
        have hadr' : (E.app (some s) rx lo n nid ((E.adr s).add (lo * te.size)) (n + m) none).adr nid = (E.adr s).add (lo * te.size) := by simp [Env.app]
        have hst' : (E.app (some s) rx lo n nid ((E.adr s).add (lo * te.size)) (n + m) none).st nid = .own := by simp [Env.app]
        rw [hadr', hst', if_pos rfl]
        refine ⟨by rw [haddr], ?_, cs', ty', by rw [add_block]; exact g1, ?_⟩
        · rw [add_block]
          simp [Env.app, s2, relab, sh]
        · rw [haddr, g2]
          simp only
          rw [Nat.add_mul] at s4
          omega
  · -- there is none
    have holds : ∃ olds : List Value, olds.length = n * te.size ∧ (Builtin.firstCells inf.size n (.slice A n cap)).run P w.drew = .ok olds.toArray w.drew ∧
        ∀ (i j : Nat) x c, i < n → ys[i]? = some x → x.cells[j]? = some c → ∃ u s, r = some s ∧ olds[i * te.size + j]? = some u ∧ Rep E w (.own s [(lo + i, j)]) c u := by
      rcases hd with ⟨rfl, rfl, rfl, rfl, rfl⟩ | ⟨s, R, rfl, hR, hfz, hbox, hRw, hcap, hlo, rfl, hA⟩
      · exact ⟨[], by simp, run_firstCells_none w.drew inf.size 0 0 0, fun i j x c h => by omega⟩
      · rcases Nat.eq_zero_or_pos n with hn0 | hn0
        · subst hn0
          refine ⟨[], by simp, ?_, fun i j x c h => by omega⟩
          cases A with
          | none => exact run_firstCells_none w.drew inf.size 0 0 cap
          | some b => exact run_firstCells_some w.drew inf.size 0 b 0 cap [] (by simp) (by simp)
        · obtain ⟨rfl, hsh⟩ := hA (by omega)
          obtain ⟨us', hul, h1, h2⟩ := flat_list (n := n) (wd := te.size) (fun i j u => w.cell? (((E.adr s).add (lo * te.size)).add (i * te.size + j)) = some u ∧ ∀ x c, ((R.xs.drop lo).take n)[i]? = some x → x.cells[j]? = some c → Rep E w (.own s [(lo + i, j)]) c u) (fun i j hi hj => by
            have hx : ((R.xs.drop lo).take n)[i]? = some (((R.xs.drop lo).take n)[i]'(by omega)) := List.getElem?_eq_getElem _
            have hxw := hyw _ (List.mem_of_getElem? hx)
            have hc : (((R.xs.drop lo).take n)[i]'(by omega)).cells[j]? = some _ := List.getElem?_eq_getElem (by omega)
            obtain ⟨u, hu, hr⟩ := hR.cell (lo + i) j _ _ (take_drop_get hx).1 hc
            refine ⟨u, by rw [add_add, show lo * te.size + (i * te.size + j) = (lo + i) * R.w + j by rw [hRw, Nat.add_mul]; omega]; exact hu, fun x' c' hx' hc' => ?_⟩
            rw [hx] at hx'
            cases hx'
            rw [hc] at hc'
            cases hc'
            simpa [Root.md, hfz, hbox] using hr)
          refine ⟨us', hul, run_firstCells_some w.drew inf.size n _ n cap us' (by rw [hsz]; exact hul) (fun k u hk => ?_), fun i j x c hi hx hc => ?_⟩
          · obtain ⟨i, j, hi, hj, rfl, hq, _⟩ := h2 k u hk
            exact hq
          · have hj : j < te.size := by rw [← hyw x (List.mem_of_getElem? hx)]; exact (List.getElem?_eq_some_iff.1 hc).1
            obtain ⟨u, hu, _, hq⟩ := h1 i j hi hj
            exact ⟨u, s, rfl, hu, hq x c hx hc⟩
    obtain ⟨olds, hol, hofc, hoget⟩ := holds
    have hg : cap < n + m := by omega
    have hcapneed := nextslicecap_le (need := n + m) (old := cap) hg
    have hfit : Builtin.nextslicecap (n + m) cap * inf.bytes ≤ 281474976710656 := by
      rw [← hT.bytes]
      calc Builtin.nextslicecap (n + m) cap * te.bytes ≤ 2 * (n + m) * te.bytes := Nat.mul_le_mul_right _ hcapneed
        _ ≤ 281474976710656 := by rw [Nat.mul_assoc]; omega
    have h63 : ((n + m : Nat) : Int) ≤ 9223372036854775807 := by
      have : n + m ≤ (n + m) * te.bytes := Nat.le_mul_of_pos_right _ hb
      omega
    have hrun := run_append_grow_src (P := P) w t tx ty e inf z ht hi hT.zero A n cap olds hofc x m news (by rw [hsz]; exact hsrc) hg h63 hfit
    have hgc : n + m ≤ grownCap w (n + m) cap e := by
      unfold grownCap Question.cut
      simp
    have hzcells : ((olds ++ news).toArray ++ Builtin.zeroCells z.cells (grownCap w (n + m) cap e - (n + m))).size = (n + m) * te.size + (grownCap w (n + m) cap e - (n + m)) * z.cells.size := by
      simp [Builtin.zeroCells, hol, hsrc.newsLen, Nat.add_mul]
    have hget0 : (w.drew.alloc (.cells ((olds ++ news).toArray ++ Builtin.zeroCells z.cells (grownCap w (n + m) cap e - (n + m))) e)).heap[w.heap.size]? = some (.cells ((olds ++ news).toArray ++ Builtin.zeroCells z.cells (grownCap w (n + m) cap e - (n + m))) e (0, 0)) := by
      rw [alloc_heap]
      show (w.heap.push _)[w.heap.size]? = _
      rw [Array.getElem?_push_size]
    have hgetO : ∀ b, b < w.heap.size → (w.drew.alloc (.cells ((olds ++ news).toArray ++ Builtin.zeroCells z.cells (grownCap w (n + m) cap e - (n + m))) e)).heap[b]? = w.heap[b]? := fun b hb => by
      rw [alloc_heap]
      show (w.heap.push _)[b]? = _
      rw [Array.getElem?_push, if_neg (by omega)]
    have hAO : AppOk E w (w.drew.alloc (.cells ((olds ++ news).toArray ++ Builtin.zeroCells z.cells (grownCap w (n + m) cap e - (n + m))) e)) r rx nid (some w.heap.size) :=
      ⟨by rw [alloc_heap]; simp, rfl, rfl, ⟨rfl, drw_le (Nat.le_succ _)⟩, hfr, hr1, (fun b h => by cases h; exact Nat.le_refl _), fun b hb _ => hgetO b hb, fun b cs1 ty1 h => ⟨cs1, (hgetO b (lt_of_get h)).trans h, rfl⟩⟩
    have hcell : ∀ k, (w.drew.alloc (.cells ((olds ++ news).toArray ++ Builtin.zeroCells z.cells (grownCap w (n + m) cap e - (n + m))) e)).cell? ((⟨w.heap.size, 0, none⟩ : Addr).add k) = ((olds ++ news).toArray ++ Builtin.zeroCells z.cells (grownCap w (n + m) cap e - (n + m)))[k]? := fun k => by
      unfold World.cell?
      rw [add_block]
      simp only [hget0]
      unfold Addr.add
      split
      · rename_i hm; subst hm; rfl
      · simp
    generalize hzc : Builtin.zeroCells z.cells (grownCap w (n + m) cap e - (n + m)) = zc at *
    have hnl : news.length = m * te.size := hsrc.newsLen
    have hidx : ∀ (k : Nat) u, (olds ++ news)[k]? = some u → ((olds ++ news).toArray ++ zc)[k]? = some u := fun k u hk => by
      have hlt : k < (olds ++ news).length := (List.getElem?_eq_some_iff.1 hk).1
      rw [Array.getElem?_append_left (by simpa using hlt), List.getElem?_toArray]
      exact hk
    refine ⟨_, _, E.app r rx lo n nid ⟨w.heap.size, 0, none⟩ (n + m) (some w.heap.size), hrun, ext_app (xs := ys ++ zs) hAO hlen h0 hwid (fun h => ?_) (fun i j x c hi hx hc => ?_) (fun i j x c hx hc => ?_) hus hks hnid, ?_⟩
    · exact ⟨rfl, rfl, _, _, hget0, by rw [hzcells]; simp only [Nat.zero_add]; omega⟩
    · obtain ⟨u, s, hs', hu, hr⟩ := hoget i j x c hi (hyget i x hi hx) hc
      refine ⟨u, s, hs', ?_, hr⟩
      rw [hcell]
      refine hidx _ _ ?_
      rw [List.getElem?_append_left (List.getElem?_eq_some_iff.1 hu).1]
      exact hu
    · obtain ⟨u, hu, hr⟩ := hznew i j x c (hzget i x hx) hc
      refine ⟨u, ?_, mkx (x := x) hr⟩
      rw [hcell]
      refine hidx _ _ ?_
      rw [List.getElem?_append_right (by rw [hol, Nat.add_mul]; omega), hol, show (n + i) * te.size + j - n * te.size = i * te.size + j by rw [Nat.add_mul]; omega]
      exact hu
    · refine mkref (cap' := grownCap w (n + m) cap e) (.inl rfl) hgc fun _ => ?_
      have hadr' : (E.app r rx lo n nid ⟨w.heap.size, 0, none⟩ (n + m) (some w.heap.size)).adr nid = ⟨w.heap.size, 0, none⟩ := by simp [Env.app]
      have hst' : (E.app r rx lo n nid ⟨w.heap.size, 0, none⟩ (n + m) (some w.heap.size)).st nid = .own := by simp [Env.app]
      unfold Shp
      rw [hadr', hst', if_pos rfl]
      refine ⟨rfl, by simp [Env.app], _, _, hget0, ?_⟩
      rw [hzcells]
      have hzs : z.cells.size = te.size := hzsz
      rw [hzs, ← Nat.add_mul]
      simp only [Nat.zero_add]
      refine Nat.mul_le_mul_right _ ?_
      omega

end
end Go.Proofs.Ytnfeelacifllmaa.Ab

namespace Go.Proofs.Ytnfeelacifllmaa.Ab

theorem AllP_app : ∀ {ps qs : List Prop}, AllP ps → AllP qs → AllP (ps ++ qs)
  | [], _, _, h => h
  | _ :: _, _, h, h' => ⟨h.1, AllP_app h.2 h'⟩

theorem AllP_append {ps qs : List Prop} (h : AllP (ps ++ qs)) : AllP ps ∧ AllP qs := by
  induction ps with
  | nil => exact ⟨trivial, h⟩
  | cons p ps ih => exact ⟨⟨h.1, (ih h.2).1⟩, (ih h.2).2⟩

section
variable {X : Ctx} {o : Oper} {E E' : Env} {w w' : World} {a : Act} {ρ : Operand → Option D} {g : Nat → Option Root} {nid : Nat}

theorem srcOf_ok (H : Hyp X E w a ρ g nid) {te : TI} {k' : TK} {dx : D} {keep : Bool} {zs : List D} {m : Nat} {ps : List Prop} {rx : Option Nat} {tx : Nat} {y : Operand} (h : srcOf te k' dx g keep = some (zs, m, ps, rx)) (hk : kindOf X.P tx = some k') (hy : ρ y = some dx) (hp : AllP ps) :
    SrcD X.P E w rx tx te.size zs m (a.eval y) ∧ ∀ s, rx = some s → ∃ R, g s = some R ∧ R.fz = false := by
  have hr := H.op _ _ hy
  unfold srcOf at h
  split at h
  · -- nil
    simp only [Option.some.injEq, Prod.mk.injEq] at h
    obtain ⟨rfl, rfl, rfl, rfl⟩ := h
    rw [hr.nil_inv]
    exact ⟨slice_src (kind_slice hk) rfl (by simp) (fun h => by omega), by simp⟩
  · split at h
    · rename_i hw
      simp only [Option.some.injEq, Prod.mk.injEq] at h
      obtain ⟨rfl, rfl, rfl, rfl⟩ := h
      have hw := Nat.eq_of_beq_eq_true hw
      obtain ⟨A, cap, us, hv, hlen, hcap, hwd, ha, hrr⟩ := hr.list_inv (.inl rfl)
      rw [hv]
      refine ⟨slice_src (kind_slice hk) hlen (by rw [← hw]; exact hwd) (fun h0 => ?_), by simp⟩
      obtain ⟨b, rfl, _, _, hc⟩ := ha h0
      refine ⟨b, rfl, fun i j x c hx hj => ⟨us i j, by rw [← hw]; exact hc i j x c hx hj, (hrr i j x c hx hj).one (.inl rfl), .inr ⟨?_, (hrr i j x c hx hj).lift (.inl rfl)⟩⟩⟩
      exact hp.1 x (List.mem_of_getElem? hx) c (List.mem_of_getElem? hj)
    · cases h
  · split at h
    · rename_i e0 rx0 w0 _ R hg
      obtain ⟨hg', hRw⟩ := gw_some hg
      split at h
      · cases h
      · rename_i hbw
        simp only [Bool.or_eq_true, Bool.not_eq_true', not_or, Bool.not_eq_true, Bool.not_eq_false] at hbw
        obtain ⟨hbox, hw⟩ := hbw
        have hw := Nat.eq_of_beq_eq_true hw
        have hR := H.rt _ _ hg'
        obtain ⟨_, hst, hal⟩ := hr.ref_inv
        obtain ⟨A, cap, hv, hcap, hlen, ha⟩ := hal hR.alive
        rw [vw_eq hR none] at hv hcap hlen ha
        simp only [vlo, vln, Nat.zero_mul, Nat.zero_add] at hv hcap hlen ha
        have hadd : ∀ b : Addr, b.add 0 = b := fun b => by simp [Addr.add]
        rw [hadd] at ha
        split at h
        · simp only [Option.some.injEq, Prod.mk.injEq] at h
          obtain ⟨rfl, rfl, rfl, rfl⟩ := h
          rw [hv]
          refine ⟨slice_src (kind_slice hk) hR.n (by rw [← hRw]; exact hR.wd) (fun h0 => ⟨_, (ha (by omega)).1, fun i j x c hx hj => ?_⟩), by simp⟩
          obtain ⟨u, hu, hrr⟩ := hR.cell i j x c hx hj
          have hpl := hp.1 x (List.mem_of_getElem? hx) c (List.mem_of_getElem? hj)
          refine ⟨u, by rw [← hRw]; exact hu, hrr.one ?_, .inr ⟨hpl, hrr.lift (.inr ?_)⟩⟩
          · unfold Root.md
            split
            · exact .inl rfl
            · rw [hbox]; exact .inr ⟨_, _, rfl⟩
          · unfold D.plain at hpl
            split at hpl <;> first | rfl | cases hpl
        · split at h
          · cases h
          · rename_i hfz
            have hfz : R.fz = false := by simpa using hfz
            simp only [Option.some.injEq, Prod.mk.injEq] at h
            obtain ⟨rfl, rfl, rfl, rfl⟩ := h
            rw [hv]
            refine ⟨slice_src (kind_slice hk) hR.n (by rw [← hRw]; exact hR.wd) (fun h0 => ⟨_, (ha (by omega)).1, fun i j x c hx hj => ?_⟩), fun s hs => by cases hs; exact ⟨R, hg', hfz⟩⟩
            obtain ⟨u, hu, hrr⟩ := hR.cell i j x c hx hj
            have hrr' : Rep E w (.own rx0 [(i, j)]) c u := by simpa [Root.md, hfz, hbox] using hrr
            exact ⟨u, by rw [← hRw]; exact hu, hrr'.one (.inr ⟨_, _, rfl⟩), .inl ⟨_, rfl, hrr'⟩⟩
    · cases h
  · split at h
    · rename_i lo n _ R hg
      obtain ⟨hg', hRw⟩ := gw_some hg
      split at h
      · cases h
      · rename_i hbw
        simp only [Bool.or_eq_true, Bool.not_eq_true', not_or, Bool.not_eq_true, Bool.not_eq_false] at hbw
        obtain ⟨⟨hbox, hw⟩, _⟩ := hbw
        have hw := Nat.eq_of_beq_eq_true hw
        have hR := H.rt _ _ hg'
        obtain ⟨_, hst, hal⟩ := hr.ref_inv
        obtain ⟨A, cap, hv, hcap, hlen, ha⟩ := hal hR.alive
        simp only [Vw] at hv hcap hlen ha
        simp only [Option.some.injEq, Prod.mk.injEq] at h
        obtain ⟨rfl, rfl, rfl, rfl⟩ := h
        rw [hv]
        refine ⟨slice_src (kind_slice hk) (by simp [hR.n]; have := hR.len; omega) (fun x hx => by rw [← hRw]; exact hR.wd x (List.mem_of_mem_drop (List.mem_of_mem_take hx))) (fun h0 => ⟨_, (ha (by omega)).1, fun i j x c hx hj => ?_⟩), by simp⟩
        have hx' := (take_drop_get hx).1
        obtain ⟨u, hu, hrr⟩ := hR.cell _ j x c hx' hj
        have hpl := hp.1 x (List.mem_of_getElem? hx') c (List.mem_of_getElem? hj)
        refine ⟨u, ?_, hrr.one ?_, .inr ⟨hpl, hrr.lift (.inr ?_)⟩⟩
        · rw [add_add, hw, ← hRw, show _ * R.w + (i * R.w + j) = (_ + i) * R.w + j by rw [Nat.add_mul]; exact (Nat.add_assoc _ _ _).symm]
          exact hu
        · unfold Root.md
          split
          · exact .inl rfl
          · rw [hbox]; exact .inr ⟨_, _, rfl⟩
        · unfold D.plain at hpl
          split at hpl <;> first | rfl | cases hpl
    · cases h
  · split at h
    · split at h
      · rename_i hs1
        simp only [Option.some.injEq, Prod.mk.injEq] at h
        obtain ⟨rfl, rfl, rfl, rfl⟩ := h
        rw [hr.str_inv, Nat.eq_of_beq_eq_true hs1]
        exact ⟨str_src (kind_str hk), by simp⟩
      · cases h
    · cases h
  · cases h

theorem dstOf_ok (H : Hyp X E w a ρ g nid) {te : TI} {ds : D} {ys : List D} {n : Nat} {r : Option Nat} {y : Operand} (h : dstOf te ds g = some (ys, n, r)) (hy : ρ y = some ds) :
    ∃ lo A cap, DstD E w r lo n te.size ys A cap ∧ a.eval y = .slice A n cap ∧ ∀ s, r = some s → ∃ R, g s = some R := by
  have hr := H.op _ _ hy
  unfold dstOf at h
  split at h
  · simp only [Option.some.injEq, Prod.mk.injEq] at h
    obtain ⟨rfl, rfl, rfl⟩ := h
    exact ⟨0, none, 0, .inl ⟨rfl, rfl, rfl, rfl, rfl⟩, hr.nil_inv, by simp⟩
  · split at h
    · rename_i R hg
      obtain ⟨hg', hRw⟩ := gw_some hg
      split at h
      · cases h
      · rename_i hbw
        simp only [Bool.or_eq_true, Bool.not_eq_true', not_or, Bool.not_eq_true, Bool.not_eq_false] at hbw
        obtain ⟨⟨hfz, hbox⟩, hw⟩ := hbw
        have hw := Nat.eq_of_beq_eq_true hw
        subst hw
        have hR := H.rt _ _ hg'
        obtain ⟨_, hst, hal⟩ := hr.ref_inv
        obtain ⟨A, cap, hv, hcap, hlen, ha⟩ := hal hR.alive
        rw [vw_eq hR none] at hv hcap hlen ha
        simp only [vlo, vln] at hv hcap hlen ha
        simp only [Option.some.injEq, Prod.mk.injEq] at h
        obtain ⟨rfl, rfl, rfl⟩ := h
        exact ⟨0, A, cap, .inr ⟨_, R, rfl, hR, hfz, hbox, hRw, hcap, by omega, by rw [List.drop_zero, List.take_of_length_le (by rw [hR.n]; exact Nat.le_refl _)], ha⟩, hv, fun s hs => by cases hs; exact ⟨R, hg'⟩⟩
    · cases h
  · split at h
    · rename_i lo n _ R hg
      obtain ⟨hg', hRw⟩ := gw_some hg
      split at h
      · cases h
      · rename_i hbw
        simp only [Bool.or_eq_true, Bool.not_eq_true', not_or, Bool.not_eq_true, Bool.not_eq_false] at hbw
        obtain ⟨⟨hfz, hbox⟩, hw⟩ := hbw
        have hw := Nat.eq_of_beq_eq_true hw
        subst hw
        have hR := H.rt _ _ hg'
        obtain ⟨_, hst, hal⟩ := hr.ref_inv
        obtain ⟨A, cap, hv, hcap, hlen, ha⟩ := hal hR.alive
        simp only [Vw] at hv hcap hlen ha
        simp only [Option.some.injEq, Prod.mk.injEq] at h
        obtain ⟨rfl, rfl, rfl⟩ := h
        exact ⟨_, A, cap, .inr ⟨_, R, rfl, hR, hfz, hbox, hRw, hcap, by have := hR.len; omega, rfl, ha⟩, hv, fun s hs => by cases hs; exact ⟨R, hg'⟩⟩
    · cases h
  · cases h

theorem does_append (H : Hyp X E w a ρ g nid) (hf : E.st nid = .fresh) {c : Call} {t t' e : Nat} {k' : TK} {x y : Operand} {te : TI} {ds dx : D} {h : Hint} {out : Out} (ho : o.op = .call c) (hc : c.callee = .builtin .append) (hts : c.argTypes.toList = [t, t']) (has : c.args.toList = [x, y])
    (ht : kAt X.T t = some (.slice e)) (ht' : kAt X.T t' = some k') (hte : look e X.T = some te) (hx : ρ x = some ds) (hy : ρ y = some dx) (hs : appD te k' ds dx g nid h = some out) (hp : AllP out.ps) : Does X o E w a out := by
  unfold appD at hs
  split at hs
  · cases hs
  · rename_i hchk
    simp only [Bool.not_eq_true', Bool.not_eq_false, Bool.and_eq_true] at hchk
    obtain ⟨⟨⟨_, hz⟩, h0⟩, hb⟩ := hchk
    have hz := Nat.eq_of_beq_eq_true hz
    have h0' : 0 < te.size := by simp [Nat.blt] at h0; omega
    have hb' : 0 < te.bytes := by simp [Nat.blt] at hb; omega
    obtain ⟨inf, z, hT⟩ := tyOK H.T hte
    split at hs
    · rename_i zs m ps rx ys n r hsrc hdst
      split at hs
      · cases hs
      · rename_i hso
        cases hs
        simp only at hp
        obtain ⟨hp1, hp2⟩ := AllP_append hp
        simp only [AllP, and_true] at hp2
        obtain ⟨e1, e2, e3⟩ := hp2
        obtain ⟨hS, hSg⟩ := srcOf_ok H hsrc (kAt_ok H ht') hy hp1
        obtain ⟨lo, A, cap, hD, hv, hDg⟩ := dstOf_ok H hdst hx
        have hzsz : z.cells.size = te.size := by
          have := (ofVal_cells (E := E) (w := w) z).1
          rw [← hT.zeroD, hz] at this
          exact this.symm
        have hne : ∀ s, r = some s → rx ≠ some s := fun s h1 h2 => by
          subst h1 h2
          simp [sameO] at hso
        intro K Q k
        have hnr : ∀ s, r = some s → s ≠ nid := fun s hs' e => by
          obtain ⟨R, hR⟩ := hDg s hs'
          have := H.lt _ _ hR
          omega
        obtain ⟨v', w', E', hrun, hE, hrep⟩ := append_core (ty := o.type) (us := dead rx ++ (dead r ++ [(nid, some ⟨false, false, te.size, h.n, h.xs⟩)])) hT hzsz (kind_slice (kAt_ok H ht)) hD hv hS hne
          (fun s hs' => by
            obtain ⟨R, hR, hfz⟩ := hSg s hs'
            have := (H.rt _ _ hR).st
            rw [hfz] at this
            exact this) hf h0' hb' e2
          (fun s R hmem => by
            rw [e1, ← e3] at hmem
            simp only [List.mem_append, List.mem_cons, List.not_mem_nil, or_false, Prod.mk.injEq, Option.some.injEq] at hmem
            rcases hmem with hmem | hmem | hmem
            · cases rx <;> simp [dead] at hmem
            · cases r <;> simp [dead] at hmem
            · exact hmem)
          (fun s hs' => by
            rcases hs' with rfl | rfl
            · exact ⟨(s, none), by simp [dead], rfl⟩
            · exact ⟨(s, none), by simp [dead], rfl⟩) ⟨(nid, _), List.mem_append_right _ (List.mem_append_right _ (List.mem_singleton.2 rfl)), rfl⟩
        have hts' : c.argTypes = #[t, t'] := by rw [← Array.toArray_toList (xs := c.argTypes), hts]
        have has' : c.args = #[x, y] := by rw [← Array.toArray_toList (xs := c.args), has]
        refine wp_val (v := v') (run_builtin ho hc ?_) (k E' w' v' hE hrep)
        simp only [builtin, hts', has', Sem.run_bind]
        simp [hrun]
    · cases hs

end
end Go.Proofs.Ytnfeelacifllmaa.Ab

namespace Go.Proofs.Ytnfeelacifllmaa.Ab

section
variable {X : Ctx} {o : Oper} {E E' Ec : Env} {w w' : World} {a : Act} {ρ : Operand → Option D} {g : Nat → Option Root} {nid : Nat}

theorem erL_map : ∀ xs : List D, erL xs = xs.map D.er
  | [] => rfl
  | x :: r => by simp [erL, erL_map r]

theorem er_get {xs ys : List D} (h : erL xs = erL ys) {i : Nat} {y : D} (hy : ys[i]? = some y) : ∃ x, xs[i]? = some x ∧ x.er = y.er := by
  rw [erL_map, erL_map] at h
  have h1 : (ys.map D.er)[i]? = some y.er := by rw [List.getElem?_map, hy]; rfl
  rw [← h, List.getElem?_map, Option.map_eq_some_iff] at h1
  exact h1

theorem er_len {xs ys : List D} (h : erL xs = erL ys) : xs.length = ys.length := by
  rw [erL_map, erL_map] at h
  have := congrArg List.length h
  simpa using this

theorem er_cells {x y : D} (h : x.er = y.er) : erL x.cells = erL y.cells := by
  cases x <;> cases y <;> simp [D.er] at h <;> simp [D.cells, erL, D.er, h]

theorem er_widths {xs ys : List D} (h : erL xs = erL ys) {wd : Nat} (hw : ∀ x ∈ xs, x.cells.length = wd) : ∀ y ∈ ys, y.cells.length = wd := fun y hy => by
  obtain ⟨i, hi⟩ := List.getElem?_of_mem hy
  obtain ⟨x, hx, he⟩ := er_get h hi
  rw [← er_len (er_cells he)]
  exact hw x (List.mem_of_getElem? hx)

theorem Rep.er {m : Md} {d : D} {v : Value} (h : Rep E w m d v) : m = .fz → ∀ d', d.er = d'.er → Rep E w .fz d' v := by
  induction h with
  | int m k n => intro hm d' hd; cases d' <;> simp [D.er] at hd; obtain ⟨rfl, rfl⟩ := hd; exact .int _ _ _
  | bool m b => intro hm d' hd; cases d' <;> simp [D.er] at hd; subst hd; exact .bool _ _
  | ifc m b v hv => intro hm d' hd; cases d' <;> simp [D.er] at hd; subst hd; exact .ifc _ _ _ hv
  | str m s => intro hm d' hd; cases d' <;> simp [D.er] at hd; subst hd; exact .str _ _
  | nil m => intro hm d' hd; cases d' <;> simp [D.er] at hd; exact .nil _
  | undef m v h => intro hm; subst hm; rcases h with h | ⟨_, _, h⟩ <;> cases h
  | hid m v _ _ h => intro hm; subst hm; rcases h with h | ⟨_, _, h⟩ <;> cases h
  | anyb b => intro hm; cases hm
  | fn f caps vs hl h ih => intro hm; cases hm
  | agg cs vs hl h ih => intro hm; cases hm
  | tup cs vs hl h ih => intro hm; cases hm
  | flist m o wd n xs A cap us hm' hn hc hw ha h ih =>
    intro hm d' hd
    cases d' <;> simp [D.er] at hd
    rename_i o' wd' n' xs'
    obtain ⟨rfl, rfl, he⟩ := hd
    have key : ∀ (i j : Nat) y c, xs'[i]? = some y → y.cells[j]? = some c → ∃ x c0, xs[i]? = some x ∧ x.cells[j]? = some c0 ∧ c0.er = c.er := fun i j y c hy hc' => by
      obtain ⟨x, hx, hxe⟩ := er_get he hy
      obtain ⟨c0, hc0, hce⟩ := er_get (er_cells hxe) hc'
      exact ⟨x, c0, hx, hc0, hce⟩
    refine .flist _ _ _ _ _ _ _ us (.inr (.inl rfl)) (by rw [← er_len he]; exact hn) hc (er_widths he hw) (fun h0 => ?_) (fun i j y c hy hc' => ?_)
    · obtain ⟨b, hb, h1, h2, h3⟩ := ha h0
      refine ⟨b, hb, h1, h2, fun i j y c hy hc' => ?_⟩
      obtain ⟨x, c0, hx, hc0, _⟩ := key i j y c hy hc'
      exact h3 i j x c0 hx hc0
    · obtain ⟨x, c0, hx, hc0, hce⟩ := key i j y c hy hc'
      exact ih i j x c0 hx hc0 rfl c hce
  | olist m r p wd n xs A cap us hm' hn hc hw ha h ih => intro hm; subst hm; rcases hm' with h | h <;> cases h
  | ref m r wd vw v hm' hs h => intro hm; subst hm; rcases hm' with h | ⟨_, _, h⟩ <;> cases h
  | ptr m r wd i j v hm' hs h => intro hm; subst hm; rcases hm' with h | ⟨_, _, h⟩ <;> cases h
  | fptr m wd xs i j a us hm' hw ha h ih => intro hm; subst hm; rcases hm' with h | ⟨_, _, h⟩ <;> cases h
  | mref m r v hm' hs h => intro hm; subst hm; rcases hm' with h | ⟨_, _, h⟩ <;> cases h
  | omap m r p l b es clk hm' => intro hm; subst hm; rcases hm' with h | h <;> cases h
  | optr m r p wd xs a us hm' => intro hm; subst hm; rcases hm' with h | h <;> cases h
  | fomap m l b es clk hm' ho hh hf => intro hm d' hd; cases d' <;> simp [D.er] at hd; subst hd; exact .fomap _ _ _ es clk (.inr rfl) ho hh hf
  | foptr m wd xs a us hm' hw ha h ih =>
    intro hm d' hd
    cases d' <;> simp [D.er] at hd
    obtain ⟨rfl, rfl⟩ := hd
    exact .foptr _ _ _ _ us (.inr rfl) hw ha h

theorem idx_some {r : Nat} : ∀ {ins : List Nat} {b k : Nat}, idx r b ins = some k → ∃ i, k = b + i ∧ ins[i]? = some r
  | [], b, k, h => by simp [idx] at h
  | x :: xs, b, k, h => by
    simp only [idx] at h
    split at h
    · rename_i hx
      cases h
      exact ⟨0, rfl, by rw [Nat.eq_of_beq_eq_true hx]; rfl⟩
    · obtain ⟨i, rfl, hi⟩ := idx_some h
      exact ⟨i + 1, by omega, by simpa using hi⟩

theorem distinct_any {x : Nat} {r : List Nat} (h : r.any (Nat.beq x) = false) : x ∉ r := fun hm => by
  have := List.any_eq_false.1 h x hm
  simp [Nat.beq_refl] at this

theorem idx_of {r : Nat} : ∀ {ins : List Nat} {b i : Nat}, distinct ins = true → ins[i]? = some r → idx r b ins = some (b + i)
  | [], b, i, _, h => by simp at h
  | x :: xs, b, i, hd, h => by
    simp only [distinct, Bool.and_eq_true, Bool.not_eq_true'] at hd
    obtain ⟨h1, h2⟩ := hd
    simp only [idx]
    cases i with
    | zero =>
      simp only [List.getElem?_cons_zero, Option.some.injEq] at h
      subst h
      rw [if_pos (Nat.beq_refl x)]
      rfl
    | succ i =>
      have h' : xs[i]? = some r := by simpa using h
      have hne : ¬ Nat.beq x r = true := fun e => by
        have := Nat.eq_of_beq_eq_true e
        subst this
        exact distinct_any h1 (List.mem_of_getElem? h')
      rw [if_neg hne, idx_of h2 h']
      congr 1
      omega

theorem idx_none {r : Nat} : ∀ {ins : List Nat} {b : Nat}, ins.any (Nat.beq r) = false → idx r b ins = none
  | [], b, _ => rfl
  | x :: xs, b, h => by
    simp only [List.any_cons, Bool.or_eq_false_iff] at h
    simp only [idx]
    have hne : ¬ Nat.beq x r = true := fun e => by
      have := Nat.eq_of_beq_eq_true e
      subst this
      simp [Nat.beq_refl] at h
    rw [if_neg hne]
    exact idx_none h.2

def Env.sub (E : Env) (cl : Bool) (ins : List Nat) : Env :=
  { adr := fun k => match ins[k]? with | some r => E.adr r | none => ⟨0, 0, none⟩
    len := fun k => match ins[k]? with | some r => E.len r | none => 0
    ow := fun b => match E.ow b with
      | .own r p => (match idx r 0 ins with | some k => .own k p | none => if cl then .far else .fz)
      | x => x
    st := fun k => match ins[k]? with | some _ => .own | none => .fresh }

theorem Rep.seen {cl : Bool} {ins : List Nat} {m : Md} {d : D} {v : Value} (h : Rep E w m d v) : (m = .fz ∨ ∃ r p, m = .own r p ∧ idx r 0 ins = none ∧ cl = false) → Rep (E.sub cl ins) w .fz d v := by
  induction h with
  | int m k n => intro _; exact .int _ _ _
  | bool m b => intro _; exact .bool _ _
  | ifc m b v hv => intro _; exact .ifc _ _ _ hv
  | str m s => intro _; exact .str _ _
  | nil m => intro _; exact .nil _
  | undef m v h => intro hm; rcases hm with rfl | ⟨_, _, rfl, _⟩ <;> rcases h with h | ⟨_, _, h⟩ <;> cases h
  | hid m v _ _ h => intro hm; rcases hm with rfl | ⟨_, _, rfl, _⟩ <;> rcases h with h | ⟨_, _, h⟩ <;> cases h
  | anyb b => intro hm; rcases hm with hm | ⟨_, _, hm, _⟩ <;> cases hm
  | fn f caps vs hl h ih => intro hm; rcases hm with hm | ⟨_, _, hm, _⟩ <;> cases hm
  | agg cs vs hl h ih => intro hm; rcases hm with hm | ⟨_, _, hm, _⟩ <;> cases hm
  | tup cs vs hl h ih => intro hm; rcases hm with hm | ⟨_, _, hm, _⟩ <;> cases hm
  | flist m o wd n xs A cap us hm' hn hc hw ha h ih =>
    intro _
    refine .flist _ _ _ _ _ _ _ us (.inr (.inl rfl)) hn hc hw (fun h0 => ?_) (fun i j x c hx hj => ih i j x c hx hj (.inl rfl))
    obtain ⟨b, hb, h1, h2, h3⟩ := ha h0
    exact ⟨b, hb, by simp [Env.sub, h1], h2, h3⟩
  | olist m r p wd n xs A cap us hm' hn hc hw ha h ih =>
    intro hm
    have hr : idx r 0 ins = none ∧ cl = false := by
      rcases hm with rfl | ⟨r', p', rfl, hi⟩
      · rcases hm' with h | h <;> cases h
      · rcases hm' with h | h <;> cases h
        exact hi
    refine .flist _ _ _ _ _ _ _ us (.inr (.inl rfl)) hn hc hw (fun h0 => ?_) (fun i j x c hx hj => ih i j x c hx hj (.inr ⟨r, _, rfl, hr.1, hr.2⟩))
    obtain ⟨b, cs, ty, hb, h1, h2, h3, h4, h5⟩ := ha (by omega)
    exact ⟨b, hb, by simp [Env.sub, h2, hr.1, hr.2], lt_of_get h3, h5⟩
  | ref m r wd vw v h' hs h => intro hm; rcases hm with rfl | ⟨_, _, rfl, _⟩ <;> rcases h' with h | ⟨_, _, h⟩ <;> cases h
  | ptr m r wd i j v h' hs h => intro hm; rcases hm with rfl | ⟨_, _, rfl, _⟩ <;> rcases h' with h | ⟨_, _, h⟩ <;> cases h
  | fptr m wd xs i j a us h' hw ha h ih => intro hm; rcases hm with rfl | ⟨_, _, rfl, _⟩ <;> rcases h' with h | ⟨_, _, h⟩ <;> cases h
  | mref m r v h' hs h => intro hm; rcases hm with rfl | ⟨_, _, rfl, _⟩ <;> rcases h' with h | ⟨_, _, h⟩ <;> cases h
  | fomap m l b es clk h' ho hh hf => intro _; exact .fomap _ _ _ es clk (.inr rfl) (by simp [Env.sub, ho]) hh hf
  | foptr m wd xs a us h' hw ha h ih => intro _; exact .foptr _ _ _ _ us (.inr rfl) hw ⟨by simp [Env.sub, ha.1], ha.2⟩ (fun i j x c hx hj => ih i j x c hx hj (.inl rfl))
  | omap m r p l b es clk hm' ho hh hf =>
    intro hm
    have hr : idx r 0 ins = none ∧ cl = false := by
      rcases hm with rfl | ⟨r', p', rfl, hi⟩
      · rcases hm' with h | h <;> cases h
      · rcases hm' with h | h <;> cases h
        exact hi
    exact .fomap _ _ _ es clk (.inr rfl) (by simp [Env.sub, ho, hr.1, hr.2]) hh hf
  | optr m r p wd xs a us hm' hn hw ha h ih =>
    intro hm
    have hr : idx r 0 ins = none ∧ cl = false := by
      rcases hm with rfl | ⟨r', p', rfl, hi⟩
      · rcases hm' with h | h <;> cases h
      · rcases hm' with h | h <;> cases h
        exact hi
    obtain ⟨cs, ty, h1, h2, h3, h4, h5⟩ := ha
    exact .foptr _ _ _ _ us (.inr rfl) hw ⟨by simp [Env.sub, h2, hr.1, hr.2], lt_of_get h3, h5⟩ (fun i j x c hx hj => ih i j x c hx hj (.inr ⟨r, _, rfl, hr.1, hr.2⟩))

theorem RootRel.seen_ow {cl : Bool} {ins : List Nat} {r : Nat} {R : Root} (h : RootRel E w r R) (hv : R.fz = true ∨ cl = false) (hi : idx r 0 ins = none) (h0 : 0 < R.n) (hw0 : 0 < R.w) : (E.sub cl ins).ow (E.adr r).block = .fz := by
  have h1 := (h.shp h0 hw0).2.1
  rw [h.st] at h1
  cases hf : R.fz with
  | true => simp [hf] at h1; simp [Env.sub, h1]
  | false =>
    simp [hf] at h1
    have hc : cl = false := hv.resolve_left (by simp [hf])
    simp [Env.sub, h1, hi, hc]

theorem RootRel.seen {cl : Bool} {ins : List Nat} {r : Nat} {R : Root} (h : RootRel E w r R) (hv : R.fz = true ∨ cl = false) (hbox : R.box = false) (hw0 : 0 < R.w) (hi : idx r 0 ins = none) {lo n cap : Nat} {A : Option Addr} (hn : lo + n ≤ R.n) (hc : n ≤ cap) (hA : 0 < cap → A = some ((E.adr r).add (lo * R.w))) {xs : List D} (he : erL ((R.xs.drop lo).take n) = erL xs) :
    Rep (E.sub cl ins) w .slot (.list false R.w n xs) (.slice A n cap) := by
  have hlen : ((R.xs.drop lo).take n).length = n := by simp [h.n]; omega
  have h0 : ∃ us : Nat → Nat → Value, ∀ (i j : Nat) x c, ((R.xs.drop lo).take n)[i]? = some x → x.cells[j]? = some c → w.cell? ((E.adr r).add ((lo + i) * R.w + j)) = some (us i j) ∧ Rep E w (R.md r (lo + i) j) c (us i j) := by
    refine ⟨fun i j => (w.cell? ((E.adr r).add ((lo + i) * R.w + j))).getD undef, fun i j x c hx hj => ?_⟩
    obtain ⟨u, hu, hr⟩ := h.cell (lo + i) j x c (take_drop_get hx).1 hj
    refine ⟨by simp [hu], ?_⟩
    simp only [hu, Option.getD_some]
    exact hr
  obtain ⟨us, hus⟩ := h0
  have hsl : Rep (E.sub cl ins) w .fz (.list false R.w n ((R.xs.drop lo).take n)) (.slice A n cap) := by
    refine .flist _ _ _ _ _ _ _ us (.inr (.inl rfl)) hlen hc (fun x hx => h.wd x (List.mem_of_mem_drop (List.mem_of_mem_take hx))) (fun h0 => ?_) (fun i j x c hx hj => (hus i j x c hx hj).2.seen ?_)
    · refine ⟨_, hA (by omega), ?_, ?_, fun i j x c hx hj => ?_⟩
      · rw [add_block]
        exact h.seen_ow hv hi (by omega) hw0
      · rw [add_block]
        obtain ⟨_, _, cs, ty, hh, _⟩ := h.shp (by omega) hw0
        exact lt_of_get hh
      · rw [add_add, show lo * R.w + (i * R.w + j) = (lo + i) * R.w + j by rw [Nat.add_mul]; omega]
        exact (hus i j x c hx hj).1
    · unfold Root.md
      split
      · exact .inl rfl
      · rename_i hfz
        rw [hbox]
        exact .inr ⟨r, _, rfl, hi, hv.resolve_left hfz⟩
  exact (hsl.er rfl (.list false R.w n xs) (by simp [D.er, he])).lift (.inl rfl)

end
end Go.Proofs.Ytnfeelacifllmaa.Ab

namespace Go.Proofs.Ytnfeelacifllmaa.Ab

section
variable {E : Env} {w : World} {g : Nat → Option Root} {cl : Bool} {ins : List Nat}

theorem Rep.fzc {d : D} {v : Value} (h : Rep E w .slot d v) (hd : d.fzc = true) : Rep E w .fz d v := by
  cases h with
  | int m k n => exact .int _ _ _
  | bool m b => exact .bool _ _
  | ifc m b v hv => exact .ifc _ _ _ hv
  | str m s => exact .str _ _
  | nil m => exact .nil _
  | flist m o wd n xs A cap us hm hn hc hw ha h => exact .flist _ _ _ _ _ _ _ us (.inr (.inl rfl)) hn hc hw ha h
  | olist m r p wd n xs A cap us hm hn hc hw ha h => rcases hm with h | h <;> cases h
  | _ => simp [D.fzc] at hd

theorem sub_at (cl : Bool) {k r : Nat} (h : ins[k]? = some r) : (E.sub cl ins).adr k = E.adr r ∧ (E.sub cl ins).len k = E.len r ∧ (E.sub cl ins).st k = .own := by
  simp [Env.sub, h]

theorem sub_shp (hd : distinct ins = true) {k r : Nat} (h : ins[k]? = some r) (hst : E.st r = .own) {N : Nat} (hs : Shp E w r N) : Shp (E.sub cl ins) w k N := by
  obtain ⟨h1, h2, h3⟩ := sub_at (E := E) cl h
  obtain ⟨s1, s2, cs, ty, s3, s4⟩ := hs
  unfold Shp
  rw [h1, h3, if_pos rfl]
  rw [hst, if_pos rfl] at s2
  refine ⟨s1, ?_, cs, ty, s3, s4⟩
  simp only [Env.sub, s2, idx_of hd h]
  simp

theorem Rep.lent {m : Md} {d : D} {v : Value} (h : Rep E w m d v) (hd : distinct ins = true) {k r : Nat} (hk : ins[k]? = some r) : ∀ {m' : Md}, (m = .fz ∧ m' = .fz) ∨ (∃ p, m = .own r p ∧ m' = .own k p) ∨ (∃ p, m = .box r p ∧ m' = .box k p ∧ d.fzc = true) → Rep (E.sub cl ins) w m' d v := by
  induction h with
  | int m k n => intro m' _; exact .int _ _ _
  | bool m b => intro m' _; exact .bool _ _
  | ifc m b v hv => intro m' _; exact .ifc _ _ _ hv
  | str m s => intro m' _; exact .str _ _
  | nil m => intro m' _; exact .nil _
  | undef m v h =>
    intro m' hm
    rcases hm with ⟨rfl, _⟩ | ⟨_, rfl, _⟩ | ⟨_, _, _, hf⟩
    · rcases h with h | ⟨_, _, h⟩ <;> cases h
    · rcases h with h | ⟨_, _, h⟩ <;> cases h
    · simp [D.fzc] at hf
  | hid m v _ _ h =>
    intro m' hm
    rcases hm with ⟨rfl, _⟩ | ⟨_, rfl, _⟩ | ⟨_, _, _, hf⟩
    · rcases h with h | ⟨_, _, h⟩ <;> cases h
    · rcases h with h | ⟨_, _, h⟩ <;> cases h
    · simp [D.fzc] at hf
  | anyb b => intro m' hm; rcases hm with ⟨hm, _⟩ | ⟨_, hm, _⟩ | ⟨_, hm, _⟩ <;> cases hm
  | fn f caps vs hl h ih => intro m' hm; rcases hm with ⟨hm, _⟩ | ⟨_, hm, _⟩ | ⟨_, hm, _⟩ <;> cases hm
  | agg cs vs hl h ih => intro m' hm; rcases hm with ⟨hm, _⟩ | ⟨_, hm, _⟩ | ⟨_, hm, _⟩ <;> cases hm
  | tup cs vs hl h ih => intro m' hm; rcases hm with ⟨hm, _⟩ | ⟨_, hm, _⟩ | ⟨_, hm, _⟩ <;> cases hm
  | flist m o wd n xs A cap us hm' hn hc hw ha h ih =>
    intro m' hm
    refine .flist _ _ _ _ _ _ _ us ?_ hn hc hw (fun h0 => ?_) (fun i j x c hx hj => ih i j x c hx hj (.inl ⟨rfl, rfl⟩))
    · rcases hm' with rfl | rfl | rfl
      · rcases hm with ⟨hm, _⟩ | ⟨_, hm, _⟩ | ⟨_, hm, _⟩ <;> cases hm
      · rcases hm with ⟨_, rfl⟩ | ⟨_, hm, _⟩ | ⟨_, hm, _⟩
        · exact .inr (.inl rfl)
        · cases hm
        · cases hm
      · exact .inr (.inr rfl)
    · obtain ⟨b, hb, h1, h2, h3⟩ := ha h0
      exact ⟨b, hb, by simp [Env.sub, h1], h2, h3⟩
  | olist m r0 p wd n xs A cap us hm' hn hc hw ha h ih =>
    intro m' hm
    have key : r0 = r ∧ (m' = .own k p ∨ m' = .box k p) := by
      rcases hm with ⟨rfl, _⟩ | ⟨p0, rfl, rfl⟩ | ⟨p0, rfl, rfl, _⟩
      · rcases hm' with h | h <;> cases h
      · rcases hm' with h | h <;> cases h
        exact ⟨rfl, .inl rfl⟩
      · rcases hm' with h | h <;> cases h
        exact ⟨rfl, .inr rfl⟩
    obtain ⟨rfl, hm2⟩ := key
    refine .olist _ k p _ _ _ _ _ us hm2 hn hc hw (fun h0 => ?_) (fun i j x c hx hj => ih i j x c hx hj (.inr (.inl ⟨_, rfl, rfl⟩)))
    obtain ⟨a, cs, ty, rfl, hsp, ho, hh, hz, hcell⟩ := ha h0
    exact ⟨a, cs, ty, rfl, hsp, by simp [Env.sub, ho, idx_of hd hk], hh, hz, hcell⟩
  | ref m r wd vw v h' hs h => intro m' hm; rcases hm with ⟨rfl, _⟩ | ⟨_, rfl, _⟩ | ⟨_, _, _, hf⟩ <;> first | (rcases h' with h | ⟨_, _, h⟩ <;> cases h; done) | simp [D.fzc] at hf
  | ptr m r wd i j v h' hs h => intro m' hm; rcases hm with ⟨rfl, _⟩ | ⟨_, rfl, _⟩ | ⟨_, _, _, hf⟩ <;> first | (rcases h' with h | ⟨_, _, h⟩ <;> cases h; done) | simp [D.fzc] at hf
  | fptr m wd xs i j a us h' hw ha h ih => intro m' hm; rcases hm with ⟨rfl, _⟩ | ⟨_, rfl, _⟩ | ⟨_, _, _, hf⟩ <;> first | (rcases h' with h | ⟨_, _, h⟩ <;> cases h; done) | simp [D.fzc] at hf
  | mref m r v h' hs h => intro m' hm; rcases hm with ⟨rfl, _⟩ | ⟨_, rfl, _⟩ | ⟨_, _, _, hf⟩ <;> first | (rcases h' with h | ⟨_, _, h⟩ <;> cases h; done) | simp [D.fzc] at hf
  | fomap m l b es clk h' ho hh hf =>
    intro m' hm
    refine .fomap _ _ _ es clk ?_ (by simp [Env.sub, ho]) hh hf
    rcases hm with ⟨rfl, rfl⟩ | ⟨_, rfl, _⟩ | ⟨_, _, _, hf⟩
    · exact .inr rfl
    · rcases h' with h | h <;> cases h
    · simp [D.fzc] at hf
  | foptr m wd xs a us h' hw ha h ih =>
    intro m' hm
    refine .foptr _ _ _ _ us ?_ hw ⟨by simp [Env.sub, ha.1], ha.2⟩ (fun i j x c hx hj => ih i j x c hx hj (.inl ⟨rfl, rfl⟩))
    rcases hm with ⟨rfl, rfl⟩ | ⟨_, rfl, _⟩ | ⟨_, _, _, hf⟩
    · exact .inr rfl
    · rcases h' with h | h <;> cases h
    · simp [D.fzc] at hf
  | omap m r0 p l b es clk hm' ho hh hf =>
    intro m' hm
    have key : r0 = r ∧ (m' = .own k p ∨ m' = .box k p) := by
      rcases hm with ⟨rfl, _⟩ | ⟨p0, rfl, rfl⟩ | ⟨p0, rfl, rfl, _⟩
      · rcases hm' with h | h <;> cases h
      · rcases hm' with h | h <;> cases h
        exact ⟨rfl, .inl rfl⟩
      · rcases hm' with h | h <;> cases h
        exact ⟨rfl, .inr rfl⟩
    obtain ⟨rfl, hm2⟩ := key
    exact .omap _ k p _ _ es clk hm2 (by simp [Env.sub, ho, idx_of hd hk]) hh hf
  | optr m r0 p wd xs a us hm' hn hw ha h ih =>
    intro m' hm
    have key : r0 = r ∧ (m' = .own k p ∨ m' = .box k p) := by
      rcases hm with ⟨rfl, _⟩ | ⟨p0, rfl, rfl⟩ | ⟨p0, rfl, rfl, _⟩
      · rcases hm' with h | h <;> cases h
      · rcases hm' with h | h <;> cases h
        exact ⟨rfl, .inl rfl⟩
      · rcases hm' with h | h <;> cases h
        exact ⟨rfl, .inr rfl⟩
    obtain ⟨rfl, hm2⟩ := key
    obtain ⟨cs, ty, hsp, ho, hh, hz, hcell⟩ := ha
    exact .optr _ k p _ _ _ us hm2 hn hw ⟨cs, ty, hsp, by simp [Env.sub, ho, idx_of hd hk], hh, hz, hcell⟩ (fun i j x c hx hj => ih i j x c hx hj (.inr (.inl ⟨_, rfl, rfl⟩)))

theorem fptr_seen {wd : Nat} {xs xs' : List D} {i j : Nat} {v : Value} (h : Rep E w .slot (.fptr wd xs i j) v) (he : erL xs = erL xs') : Rep (E.sub cl ins) w .slot (.fptr wd xs' i j) v := by
  cases h with
  | fptr m wd xs i j a us hm hw ha h =>
    obtain ⟨h1, h2, h3⟩ := ha
    refine .fptr _ _ _ _ _ _ us (.inl rfl) (er_widths he hw) ⟨by simp [Env.sub, h1], h2, fun i j y c hy hc => ?_⟩ (fun i j y c hy hc => ?_)
    · obtain ⟨x, hx, hxe⟩ := er_get he hy
      obtain ⟨c0, hc0, _⟩ := er_get (er_cells hxe) hc
      exact h3 i j x c0 hx hc0
    · obtain ⟨x, hx, hxe⟩ := er_get he hy
      obtain ⟨c0, hc0, hce⟩ := er_get (er_cells hxe) hc
      exact ((h i j x c0 hx hc0).seen (.inl rfl)).er rfl c hce

theorem list_seen {o : Bool} {wd n : Nat} {xs xs' : List D} {v : Value} (h : Rep E w .slot (.list o wd n xs) v) (he : erL xs = erL xs') : Rep (E.sub cl ins) w .slot (.list false wd n xs') v := by
  have h1 : Rep E w .fz (.list o wd n xs) v := h.fzc rfl
  exact ((h1.seen (.inl rfl)).er rfl (.list false wd n xs') (by simp [D.er, he])).lift (.inl rfl)

theorem ptr_seen {r : Nat} {R : Root} (h : RootRel E w r R) (hv : R.fz = true ∨ cl = false) (h0 : 0 < R.n) (hw0 : 0 < R.w) (hi : idx r 0 ins = none) {xs : List D} (hw : ∀ x ∈ xs, x.cells.length = R.w)
    (hx : ∀ (i j : Nat) y c, xs[i]? = some y → y.cells[j]? = some c → ∃ u, w.cell? ((E.adr r).add (i * R.w + j)) = some u ∧ Rep (E.sub cl ins) w .fz c u) (i j : Nat) :
    Rep (E.sub cl ins) w .slot (.fptr R.w xs i j) (.pointer (some ((E.adr r).add (i * R.w + j)))) := by
  have h1 : ∃ us : Nat → Nat → Value, ∀ (i j : Nat) x c, xs[i]? = some x → x.cells[j]? = some c → w.cell? ((E.adr r).add (i * R.w + j)) = some (us i j) ∧ Rep (E.sub cl ins) w .fz c (us i j) := by
    refine ⟨fun i j => (w.cell? ((E.adr r).add (i * R.w + j))).getD undef, fun i j x c hx' hj => ?_⟩
    obtain ⟨u, hu, hr⟩ := hx i j x c hx' hj
    refine ⟨by simp [hu], ?_⟩
    simp only [hu, Option.getD_some]
    exact hr
  obtain ⟨us, hus⟩ := h1
  obtain ⟨_, how, cs, ty, hh, _⟩ := h.shp h0 hw0
  exact .fptr _ _ _ _ _ _ us (.inl rfl) hw ⟨h.seen_ow hv hi h0 hw0, lt_of_get hh, fun i j x c hx' hj => (hus i j x c hx' hj).1⟩ (fun i j x c hx' hj => (hus i j x c hx' hj).2)

theorem arr_seen {r : Nat} {R : Root} (h : RootRel E w r R) (hv : R.fz = true ∨ cl = false) (hbox : R.box = false) (hi : idx r 0 ins = none) {xs : List D} (he : erL R.xs = erL xs) : ∀ (i j : Nat) y c, xs[i]? = some y → y.cells[j]? = some c →
    ∃ u, w.cell? ((E.adr r).add (i * R.w + j)) = some u ∧ Rep (E.sub cl ins) w .fz c u := fun i j y c hy hc => by
  obtain ⟨x, hx, hxe⟩ := er_get he hy
  obtain ⟨c0, hc0, hce⟩ := er_get (er_cells hxe) hc
  obtain ⟨u, hu, hr⟩ := h.cell i j x c0 hx hc0
  refine ⟨u, hu, (hr.seen ?_).er rfl c hce⟩
  unfold Root.md
  split
  · exact .inl rfl
  · rename_i hfz
    rw [hbox]
    exact .inr ⟨r, _, rfl, hi, hv.resolve_left hfz⟩

theorem lend_ok (hd : distinct ins = true) (hins : ∀ (k : Nat) r, ins[k]? = some r → E.st r = .own) (hg : ∀ r R, g r = some R → RootRel E w r R) : ∀ fuel : Nat,
    (∀ d d' ps v, lend cl g ins fuel d d' = some ps → AllP ps → Rep E w .slot d v → Rep (E.sub cl ins) w .slot d' v) ∧
    (∀ ds ds' ps, lendL cl g ins fuel ds ds' = some ps → AllP ps → ds.length = ds'.length ∧ ∀ (i : Nat) d d' v, ds[i]? = some d → ds'[i]? = some d' → Rep E w .slot d v → Rep (E.sub cl ins) w .slot d' v) := by
  intro fuel
  induction fuel with
  | zero =>
    refine ⟨fun d d' ps v h => by simp [lend] at h, fun ds ds' ps h hp => ?_⟩
    cases ds <;> cases ds' <;> simp [lendL] at h
    exact ⟨rfl, fun i d d' v h => by simp at h⟩
  | succ fuel ih =>
    obtain ⟨ih1, ih2⟩ := ih
    refine ⟨fun d d' ps v h hp hr => ?_, fun ds ds' ps h hp => ?_⟩
    · have noidx : ∀ {r w1 w2 : Nat}, ¬ (ins.any (Nat.beq r) || !Nat.beq w1 w2) = true → idx r 0 ins = none ∧ w1 = w2 := fun hn => by
        simp only [Bool.or_eq_true, Bool.not_eq_true', not_or, Bool.not_eq_true, Bool.not_eq_false] at hn
        exact ⟨idx_none hn.1, Nat.eq_of_beq_eq_true hn.2⟩
      have see : ∀ {R : Root}, ¬ (cl && !R.fz) = true → R.fz = true ∨ cl = false := fun {R} hn => by
        cases hc : cl <;> cases hf : R.fz <;> simp [hc, hf] at hn ⊢
      unfold lend at h
      split at h
      · -- a slice that is lent
        split at h
        · rename_i r' hr'
          split at h
          · rename_i hb
            simp only [Bool.and_eq_true] at hb
            cases h
            obtain ⟨rfl, _⟩ := hp
            have e1 := Nat.eq_of_beq_eq_true hb.1
            have e2 := Nat.eq_of_beq_eq_true hb.2
            subst e1 e2
            have hst := hins _ _ hr'
            obtain ⟨s1, s2, s3⟩ := sub_at (E := E) cl hr'
            obtain ⟨_, _, hal⟩ := hr.ref_inv
            obtain ⟨A, cap, rfl, hcap, hlen, hA⟩ := hal (.inl hst)
            have hV : ∀ vw, Vw (E.sub cl ins) _ vw = Vw E _ vw := fun vw => by cases vw with
              | none => exact congrArg (Prod.mk 0) s2
              | some x => rfl
            refine .ref _ _ _ _ _ (.inl rfl) (by rw [s3]; simp) fun _ => ⟨A, cap, by rw [hV], by rw [hV]; exact hcap, by rw [hV, s2]; exact hlen, fun h0 => ?_⟩
            rw [hV, s1]
            exact ⟨(hA h0).1, sub_shp hd hr' hst (hA h0).2⟩
          · cases h
        · cases h
      · -- a pointer that is lent
        split at h
        · rename_i r' hr'
          split at h
          · rename_i hb
            simp only [Bool.and_eq_true] at hb
            cases h
            obtain ⟨rfl, rfl, _⟩ := hp
            have e1 := Nat.eq_of_beq_eq_true hb.1
            have e2 := Nat.eq_of_beq_eq_true hb.2
            subst e1 e2
            have hst := hins _ _ hr'
            obtain ⟨s1, s2, s3⟩ := sub_at (E := E) cl hr'
            obtain ⟨_, _, hal⟩ := hr.ptr_inv
            refine .ptr _ _ _ _ _ _ (.inl rfl) (by rw [s3]; simp) fun _ => ?_
            rw [s1]
            exact hal (.inl hst)
          · cases h
        · cases h
      · split at h
        · cases h
        · rename_i hn
          obtain ⟨hi, rfl⟩ := noidx hn
          split at h
          · rename_i R hgw
            obtain ⟨hg', hRw⟩ := gw_some hgw
            split at h
            · cases h
            · rename_i hbox
              simp only [Bool.or_eq_true, not_or] at hbox
              obtain ⟨hbox, hsee⟩ := hbox
              cases h
              obtain ⟨rfl, he, _⟩ := hp
              have hR := hg _ _ hg'
              obtain ⟨_, _, hal⟩ := hr.ref_inv
              obtain ⟨A, cap, rfl, hcap, hlen, hA⟩ := hal hR.alive
              rw [vw_eq hR none] at *
              simp only [vlo, vln] at *
              subst hRw
              refine hR.seen (lo := 0) (see hsee) (by simpa using hbox) (gw_pos hgw) hi (by omega) hcap (fun h0 => (hA h0).1) ?_
              rw [List.drop_zero, List.take_of_length_le (by rw [hR.n]; exact Nat.le_refl _)]
              exact he
          · cases h
      · split at h
        · cases h
        · rename_i hn
          obtain ⟨hi, rfl⟩ := noidx hn
          split at h
          · rename_i R hgw
            obtain ⟨hg', hRw⟩ := gw_some hgw
            split at h
            · cases h
            · rename_i hbox
              simp only [Bool.or_eq_true, not_or] at hbox
              obtain ⟨hbox, hsee⟩ := hbox
              cases h
              obtain ⟨rfl, he, _⟩ := hp
              have hR := hg _ _ hg'
              obtain ⟨_, _, hal⟩ := hr.ref_inv
              obtain ⟨A, cap, rfl, hcap, hlen, hA⟩ := hal hR.alive
              simp only [Vw] at *
              subst hRw
              exact hR.seen (see hsee) (by simpa using hbox) (gw_pos hgw) hi (by rw [← hR.len]; exact hlen) hcap (fun h0 => (hA h0).1) he
          · cases h
      · split at h
        · cases h
        · rename_i hn
          obtain ⟨hi, rfl⟩ := noidx hn
          split at h
          · rename_i R hgw
            obtain ⟨hg', hRw⟩ := gw_some hgw
            have hR := hg _ _ hg'
            have hv := hr.ptr_inv.2.2 hR.alive
            subst hv hRw
            split at h
            · cases h
            rename_i hsee
            split at h
            · rename_i hbox
              split at h
              · rename_i cs cs' hxs
                split at h
                · rename_i hfz
                  simp only [Bool.and_eq_true] at hfz
                  split at h
                  · rename_i qs hq
                    cases h
                    obtain ⟨hp1, hp2⟩ := AllP_append hp
                    obtain ⟨rfl, rfl, _⟩ := hp1
                    obtain ⟨hl, hcells⟩ := ih2 _ _ _ hq hp2
                    have hn1 : R.n = 1 := by rw [← hR.n, hxs]; rfl
                    have hwd : cs.length = R.w := hR.wd (.agg cs) (by rw [hxs]; exact List.mem_singleton.2 rfl)
                    refine ptr_seen hR (see hsee) (by omega) (gw_pos hgw) hi (fun x hx => by simp only [List.mem_cons, List.not_mem_nil, or_false] at hx; subst hx; simp only [D.cells]; omega) (fun i j y c hy hc => ?_) _ _
                    cases i with
                    | succ i => simp at hy
                    | zero =>
                      simp only [List.getElem?_cons_zero, Option.some.injEq] at hy
                      subst hy
                      simp only [D.cells] at hc
                      have hlt : j < cs.length := by rw [hl]; exact (List.getElem?_eq_some_iff.1 hc).1
                      have hc0 : cs[j]? = some cs[j] := List.getElem?_eq_getElem hlt
                      obtain ⟨u, hu, hr'⟩ := hR.cell 0 j (.agg cs) _ (by rw [hxs]; rfl) hc0
                      exact ⟨u, hu, (hcells j _ c u hc0 hc (hr'.lift (.inr (List.all_eq_true.1 hfz.1 _ (List.mem_of_getElem? hc0))))).fzc (List.all_eq_true.1 hfz.2 _ (List.mem_of_getElem? hc))⟩
                  · cases h
                · cases h
              · cases h
            · rename_i hbox
              cases h
              obtain ⟨h0, he, rfl, rfl, _⟩ := hp
              exact ptr_seen hR (see hsee) h0 (gw_pos hgw) hi (er_widths he hR.wd) (arr_seen hR (see hsee) (by simpa using hbox) hi he) _ _
          · cases h
      · split at h
        · rename_i hb
          cases h
          obtain ⟨he, rfl, rfl, _⟩ := hp
          have := Nat.eq_of_beq_eq_true hb
          subst this
          exact fptr_seen hr he
        · cases h
      · split at h
        · rename_i hb
          have := Nat.eq_of_beq_eq_true hb
          subst this
          obtain ⟨hl, hcells⟩ := ih2 _ _ _ h hp
          cases hr with
          | fn f caps vs hl' h' =>
            refine .fn _ _ _ (by omega) (fun i c u hc hu => ?_)
            have hlt := (List.getElem?_eq_some_iff.1 hc).1
            rw [← hl] at hlt
            exact hcells i _ c u (List.getElem?_eq_getElem hlt) hc (h' i _ u (List.getElem?_eq_getElem hlt) hu)
        · cases h
      · obtain ⟨hl, hcells⟩ := ih2 _ _ _ h hp
        cases hr with
        | agg cs vs hl' h' =>
          refine .agg _ _ (by omega) (fun i c u hc hu => ?_)
          have hlt := (List.getElem?_eq_some_iff.1 hc).1
          rw [← hl] at hlt
          exact hcells i _ c u (List.getElem?_eq_getElem hlt) hc (h' i _ u (List.getElem?_eq_getElem hlt) hu)
      · split at h
        · rename_i hb
          cases h
          obtain ⟨rfl, he, _⟩ := hp
          have := Nat.eq_of_beq_eq_true hb
          subst this
          exact list_seen hr he
        · cases h
      · cases h
        obtain ⟨rfl, rfl, _⟩ := hp
        rw [hr.nil_inv]
        exact .flist _ _ _ _ _ _ _ (fun _ _ => undef) (.inl rfl) rfl (Nat.le_refl _) (by simp) (fun h => by omega) (fun i j x c h => by simp at h)
      · split at h
        · rename_i hk
          cases h
          obtain ⟨rfl, _⟩ := hp
          subst hk
          rw [hr.int_inv]
          exact .int _ _ _
        · cases h
      · cases h
        obtain ⟨rfl, _⟩ := hp
        rw [hr.bool_inv]
        exact .bool _ _
      · cases h
        obtain ⟨rfl, _⟩ := hp
        rw [hr.str_inv]
        exact .str _ _
      · cases h
        rw [hr.nil_inv]
        exact .nil _
      · split at h
        · rename_i ho
          exact .hid _ _ (okc_one hr hg ho) (okc_cells hr hg ho) (.inl rfl)
        · cases h
      · cases h
        exact .undef _ _ (.inl rfl)
      · cases h
    · cases ds <;> cases ds' <;> simp [lendL] at h
      · subst h
        exact ⟨rfl, fun i d d' v h => by simp at h⟩
      · rename_i d r d' r'
        split at h
        · rename_i p q h1 h2
          cases h
          obtain ⟨hp1, hp2⟩ := AllP_append hp
          obtain ⟨hl, hc⟩ := ih2 _ _ _ h2 hp2
          refine ⟨by simp [hl], fun i x x' v hx hx' hr => ?_⟩
          cases i with
          | zero =>
            simp only [List.getElem?_cons_zero, Option.some.injEq] at hx hx'
            subst hx hx'
            exact ih1 _ _ _ v h1 hp1 hr
          | succ i => exact hc i x x' v (by simpa using hx) (by simpa using hx') hr
        · cases h

theorem idx_any {r : Nat} : ∀ {ins : List Nat} {b : Nat}, idx r b ins = none → ins.any (Nat.beq r) = false
  | [], b, _ => rfl
  | x :: xs, b, h => by
    simp only [idx] at h
    split at h
    · cases h
    · rename_i hne
      rw [List.any_cons, idx_any h, Bool.or_false]
      cases hb : Nat.beq r x with
      | false => rfl
      | true => exact absurd (by rw [Nat.eq_of_beq_eq_true hb]; exact Nat.beq_refl x) hne

theorem lendC_ok : ∀ fuel : Nat, (∀ d d', lendC cl g ins fuel d = some d' → ∃ ps, lend cl g ins fuel d d' = some ps ∧ AllP ps) ∧ (∀ ds ds', lendCL cl g ins fuel ds = some ds' → ∃ ps, lendL cl g ins fuel ds ds' = some ps ∧ AllP ps) := by
  intro fuel
  induction fuel with
  | zero =>
    refine ⟨fun d d' h => by simp [lendC] at h, fun ds ds' h => ?_⟩
    cases ds with
    | nil => simp only [lendCL, Option.some.injEq] at h; subst h; exact ⟨[], rfl, trivial⟩
    | cons d r => simp [lendCL] at h
  | succ fuel ih =>
    obtain ⟨ih1, ih2⟩ := ih
    refine ⟨fun d d' h => ?_, fun ds ds' h => ?_⟩
    · unfold lendC at h
      split at h
      · rename_i r wd vw
        split at h
        · rename_i k hk
          cases h
          obtain ⟨i, rfl, hi⟩ := idx_some hk
          rw [Nat.zero_add] at *
          exact ⟨[vw = vw], by simp [lend, hi], rfl, trivial⟩
        · rename_i hk
          have ha := idx_any hk
          split at h
          · rename_i R hg
            split at h
            · cases h
            · rename_i hc
              split at h
              · cases h
                exact ⟨[R.n = R.n, erL R.xs = erL R.xs], by simp [lend, ha, hg, hc], rfl, rfl, trivial⟩
              · rename_i lo n
                cases h
                exact ⟨[n = n, erL ((R.xs.drop lo).take n) = erL ((R.xs.drop lo).take n)], by simp [lend, ha, hg, hc], rfl, rfl, trivial⟩
          · cases h
      · rename_i r wd i j
        split at h
        · rename_i k hk
          cases h
          obtain ⟨q, rfl, hi⟩ := idx_some hk
          rw [Nat.zero_add] at *
          exact ⟨[i = i, j = j], by simp [lend, hi], rfl, rfl, trivial⟩
        · rename_i hk
          have ha := idx_any hk
          split at h
          · rename_i R hg
            split at h
            · cases h
            · rename_i hc
              split at h
              · rename_i hb
                split at h
                · rename_i cs hxs
                  split at h
                  · rename_i hld
                    split at h
                    · rename_i cs' hcs
                      split at h
                      · rename_i hfz
                        cases h
                        obtain ⟨ps, h1, h2⟩ := ih2 _ _ hcs
                        exact ⟨[i = i, j = j] ++ ps, by simp [lend, ha, hg, hc, hb, hxs, hld, hfz, h1], rfl, rfl, h2⟩
                      · cases h
                    · cases h
                  · cases h
                · cases h
              · cases h
          · cases h
      · rename_i wd xs i j
        cases h
        exact ⟨[erL xs = erL xs, i = i, j = j], by simp [lend], rfl, rfl, rfl, trivial⟩
      · rename_i f caps
        split at h
        · rename_i cs hcs
          cases h
          obtain ⟨ps, h1, h2⟩ := ih2 _ _ hcs
          exact ⟨ps, by simp [lend, h1], h2⟩
        · cases h
      · rename_i cs
        split at h
        · rename_i cs' hcs
          cases h
          obtain ⟨ps, h1, h2⟩ := ih2 _ _ hcs
          exact ⟨ps, by simp [lend, h1], h2⟩
        · cases h
      · rename_i o wd n xs
        cases h
        exact ⟨[n = n, erL xs = erL xs], by simp [lend], rfl, rfl, trivial⟩
      · rename_i k n
        cases h
        exact ⟨[n = n], by simp [lend], rfl, trivial⟩
      · rename_i b
        cases h
        exact ⟨[b = b], by simp [lend], rfl, trivial⟩
      · rename_i s
        cases h
        exact ⟨[s = s], by simp [lend], rfl, trivial⟩
      · cases h
        exact ⟨[], by simp [lend], trivial⟩
      · cases h
    · cases ds with
      | nil => simp only [lendCL, Option.some.injEq] at h; subst h; exact ⟨[], rfl, trivial⟩
      | cons d r =>
        simp only [lendCL] at h
        split at h
        · rename_i p q hp hq
          cases h
          obtain ⟨ps, h1, h2⟩ := ih1 _ _ hp
          obtain ⟨qs, h3, h4⟩ := ih2 _ _ hq
          exact ⟨ps ++ qs, by simp [lendL, h1, h3], AllP_app h2 h4⟩
        · cases h

theorem argsC_ok {c : CallH} {args as : List D} {ps : List Prop} (h : argsC c g args = some (ps, as)) (hp : AllP ps) : ∃ qs, lendL c.cl g c.ins 60 args as = some qs ∧ AllP qs := by
  unfold argsC at h
  split at h
  · split at h
    · rename_i as' ha
      cases h
      exact (lendC_ok 60).2 _ _ ha
    · cases h
  · split at h
    · rename_i qs hq
      cases h
      exact ⟨_, hq, hp⟩
    · cases h

end
end Go.Proofs.Ytnfeelacifllmaa.Ab
