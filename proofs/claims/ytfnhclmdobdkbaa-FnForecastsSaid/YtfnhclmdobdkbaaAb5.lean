/- The steps of functions on plain data, part 5: no condition. -/
import Derived.Test.YtfnhclmdobdkbaaAb4
set_option linter.unusedVariables false
set_option linter.unusedSimpArgs false
open Go.RowKit Go.ChangeShapes Go.WideShapes
namespace Go.Proofs.Ytfnhclmdobdkbaa.Ab

theorem Rep.fz_slot {E : Env} {w : World} {d : D} {v : Value} (h : Rep E w .fz d v) : Rep E w .slot d v := by
  generalize hm : Md.fz = m at h
  cases h with
  | int m k n => exact .int _ _ _
  | bool m b => exact .bool _ _
  | str m s => exact .str _ _
  | nil m => exact .nil _
  | undef m v hm' => exact .undef _ _ (.inl rfl)
  | hid m v h1 h2 hm' => exact .hid _ _ h1 h2 (.inl rfl)
  | anyb b => cases hm
  | fn => cases hm
  | agg => cases hm
  | tup => cases hm
  | flist m o wd n xs A cap us hm' hn hc hw ha h => exact .flist _ _ _ _ _ _ _ us (.inl rfl) hn hc hw ha h
  | olist m r p wd n xs A cap us hm' => subst hm; rcases hm' with h | h <;> cases h
  | ref m r wd vw v hm' hs h => exact .ref _ _ _ _ _ (.inl rfl) hs h
  | ptr m r wd i j v hm' hs h => exact .ptr _ _ _ _ _ _ (.inl rfl) hs h
  | fptr m wd xs i j a us hm' hw ha h => exact .fptr _ _ _ _ _ _ us (.inl rfl) hw ha h

/-- One parameter's values as data. -/
def OpnV (P : Program) (t : TypeId) (Q : D → Prop) : Prop :=
  ∀ {H : Type} (enc : TypeId × Value → H) (w : World) (base b0 : Nat) (spare : Nat → Bool) (held : Bool) (v : Value) (d : DataW H) (ps : List MemPlace),
    Value.okWide P w .any b0 t v → DataW.Trod enc P w base spare held t v d ps → ∃ x, Q x ∧ Rep E0 w .slot x v

theorem Opn.one {P : Program} {t : TypeId} {α : Type} {f : α → D} {G : α → Prop} (O : Opn P t f G) (hv : ∀ {w : World} {b0 : Nat} {v : Value}, Value.okWide P w .any b0 t v → v.cells.toList = [v]) (hf : ∀ a, (f a).cells = [f a]) : OpnV P t fun d => ∃ a, d = f a ∧ G a := by
  intro H enc w base b0 spare held v d ps hw ⟨fuel, h⟩
  obtain ⟨a, hG, _, hs⟩ := O enc w base spare held fuel _ _ h
  refine ⟨f a, ⟨a, rfl, hG⟩, Rep.fz_slot (hs 0 _ _ (by rw [hf]; rfl) (by rw [hv hw]; rfl))⟩

theorem Opn.agg {P : Program} {t : TypeId} {α : Type} {f : α → D} {G : α → Prop} (O : Opn P t f G) {fs : Array Field} (ht : P.underlying t = some (.struct fs)) (hf : ∀ a, f a = .agg (f a).cells) : OpnV P t fun d => ∃ a, d = f a ∧ G a := by
  intro H enc w base b0 spare held v d ps hw ⟨fuel, h⟩
  obtain ⟨a, hG, hl, hs⟩ := O enc w base spare held fuel _ _ h
  obtain ⟨cs, rfl, _⟩ := okWide_struct ht hw
  refine ⟨f a, ⟨a, rfl, hG⟩, ?_⟩
  rw [hf a]
  refine .agg _ _ (by simpa [Value.cells] using hl) fun i c u hc hu => Rep.fz_slot (hs i c u hc ?_)
  simpa [Value.cells] using hu

theorem OpnV.int {P : Program} {t : TypeId} {k : IntKind} (ht : P.underlying t = some (.int k)) : OpnV P t fun d => ∃ n, d = .int k n ∧ (Lit.int k n).wf = true :=
  Opn.one (Opn.int ht) (fun hw => by obtain ⟨n, rfl⟩ := okWide_int ht hw; rfl) fun _ => rfl
theorem OpnV.bool {P : Program} {t : TypeId} (ht : P.underlying t = some .bool) : OpnV P t fun d => ∃ n, d = .bool n ∧ True :=
  Opn.one (Opn.bool ht) (fun hw => by obtain ⟨n, rfl⟩ := okWide_bool ht hw; rfl) fun _ => rfl
theorem OpnV.str {P : Program} {t : TypeId} (ht : P.underlying t = some .string) : OpnV P t fun d => ∃ s, d = .str s ∧ s.size ≤ maxLen :=
  Opn.one (Opn.str ht) (fun hw => by obtain ⟨n, rfl⟩ := okWide_string ht hw; rfl) fun _ => rfl
theorem OpnV.slice {P : Program} {t : TypeId} {α : Type} {f : α → D} {G : α → Prop} {e : TypeId} {wd : Nat} (ht : P.underlying t = some (.slice e)) (hw : P.cellsOf e = wd) (h0 : 0 < wd) (hf : ∀ a, (f a).cells.length = wd) (h : Opn P e f G) :
    OpnV P t fun d => ∃ l, d = sl wd f l ∧ (∀ x ∈ l, G x) ∧ l.length ≤ maxLen :=
  Opn.one (Opn.slice ht hw h0 hf h) (fun hw => by obtain ⟨a, n, c, rfl⟩ := okWide_slice ht hw; rfl) fun _ => rfl

/-- A struct's values, cell by cell. -/
theorem Opn.strct {P : Program} {t : TypeId} {α : Type} {f : α → D} {G : α → Prop} {fs : Array Field} (ht : P.underlying t = some (.struct fs))
    (h : ∀ {H : Type} (enc : TypeId × Value → H) (w : World) (base : Nat) (spare : Nat → Bool) (held : Bool) (n : Nat) (cs : List Value) (xs : List (DataW H × List MemPlace)), cs.length = P.cellsOf t → xs.length = fs.size →
      (∀ (i : Nat) (fd : Field), fs[i]? = some fd → DataW.trod enc P w base spare held n fd.type ((cs.drop fd.offset).take (P.cellsOf fd.type)) = xs[i]?) → ∃ a, G a ∧ Seg w (f a).cells cs) : Opn P t f G := by
  intro H enc w base spare held fuel cs x hx
  obtain ⟨xs, n, _, rfl, hl, hxs, hf⟩ := DataW.trod_struct ht hx
  exact h enc w base spare held n cs xs hl hxs hf

def fieldsOf (P : Program) (t : TypeId) : Array Field := match P.underlying t with
  | some (.struct fs) => fs
  | _ => #[]
def isStrct (P : Program) (t : TypeId) : Bool := match P.underlying t with
  | some (.struct _) => true
  | _ => false
theorem isStrct_ok {P : Program} {t : TypeId} (h : isStrct P t = true) : P.underlying t = some (.struct (fieldsOf P t)) := by
  unfold isStrct at h
  unfold fieldsOf
  split at h
  · rename_i fs hu; rw [hu]
  · cases h
def fieldAt (P : Program) (t : TypeId) (i : Nat) : Option (TypeId × Nat × Nat) := match (fieldsOf P t)[i]? with
  | some fd => some (fd.type, fd.offset, P.cellsOf fd.type)
  | none => none
theorem Opn.fieldAt {P : Program} {t ft : TypeId} {α : Type} {f : α → D} {G : α → Prop} (O : Opn P ft f G) {H : Type} {enc : TypeId × Value → H} {w : World} {base : Nat} {spare : Nat → Bool} {held : Bool} {n : Nat} {cs : List Value} {xs : List (DataW H × List MemPlace)}
    (hx : xs.length = (fieldsOf P t).size) (hf : ∀ (i : Nat) (fd : Field), (fieldsOf P t)[i]? = some fd → DataW.trod enc P w base spare held n fd.type ((cs.drop fd.offset).take (P.cellsOf fd.type)) = xs[i]?) (i : Nat) {off sz : Nat} (h : fieldAt P t i = some (ft, off, sz)) :
    ∃ a, G a ∧ Seg w (f a).cells ((cs.drop off).take sz) := by
  unfold Ab.fieldAt at h
  split at h
  · rename_i fd hfd
    simp only [Option.some.injEq, Prod.mk.injEq] at h
    obtain ⟨h1, h2, h3⟩ := h
    exact Opn.field O hx hf i hfd h1 h2 (by rw [← h1]; exact h3)
  · cases h

inductive OpnL (P : Program) : List TypeId → (List D → Prop) → Prop
  | nil : OpnL P [] fun ds => ds = []
  | cons {t : TypeId} {ts : List TypeId} {Q : D → Prop} {R : List D → Prop} (h : OpnV P t Q) (hr : OpnL P ts R) : OpnL P (t :: ts) fun ds => ∃ d r, ds = d :: r ∧ Q d ∧ R r

theorem OpnL.get {P : Program} {ts : List TypeId} {R : List D → Prop} (h : OpnL P ts R) {H : Type} {enc : TypeId × Value → H} {w : World} {b0 : Nat} : ∀ {vs : List Value} {ds : List (DataW H)} {ps : List MemPlace},
    (∀ (j : Nat) t v, ts[j]? = some t → vs[j]? = some v → Value.okWide P w .any b0 t v) → DataW.TrodAll enc P w 0 (fun _ => true) true ts vs ds ps → ∃ xs, R xs ∧ vs.length = xs.length ∧ ∀ (i : Nat) d v, xs[i]? = some d → vs[i]? = some v → Rep E0 w .slot d v := by
  induction h with
  | nil =>
    intro vs ds ps _ hA
    obtain ⟨rfl, rfl, rfl⟩ := trodAll_nil hA
    exact ⟨[], rfl, rfl, fun i d v h => by simp at h⟩
  | cons hv hr ih =>
    intro vs ds ps hok hA
    obtain ⟨v, vs', d, ds', p, q, rfl, rfl, rfl, h1, h2⟩ := trodAll_cons hA
    obtain ⟨x, hQ, hx⟩ := hv enc w 0 b0 _ true v d p (hok 0 _ _ rfl rfl) h1
    obtain ⟨xs, hR, hl, hxs⟩ := ih (fun j t v ht hv => hok (j + 1) t v (by simpa using ht) (by simpa using hv)) h2
    refine ⟨x :: xs, ⟨_, _, rfl, hQ, hR⟩, by simp [hl], fun i d v hd hv => ?_⟩
    cases i with
    | zero => simp at hd hv; subst hd hv; exact hx
    | succ i => exact hxs i d v (by simpa using hd) (by simpa using hv)

theorem trodAll_below {H : Type} {enc : TypeId × Value → H} {P : Program} (hl : laidOutB P = true) {W W' : World} (hb : Below W.heap.size W W') : ∀ {ts : List TypeId} {vs : List Value} {ds : List (DataW H)} {ps : List MemPlace},
    ts.all (fun t => P.readableRec t && decide (t < P.types.size)) = true → DataW.TrodAll enc P W 0 (fun _ => true) true ts vs ds ps → DataW.TrodAll enc P W' 0 (fun b => decide (b < W.heap.size)) true ts vs ds ps
  | [], vs, ds, ps, _, h => by
    obtain ⟨rfl, rfl, rfl⟩ := trodAll_nil h
    exact trodAll_mk0
  | t :: ts, vs, ds, ps, ha, h => by
    obtain ⟨v, vs', d, ds', p, q, rfl, rfl, rfl, h1, h2⟩ := trodAll_cons h
    simp only [List.all_cons, Bool.and_eq_true, decide_eq_true_eq] at ha
    have hlt : ∀ x ∈ p, x.block < W.heap.size := by
      obtain ⟨m, hm⟩ := h1
      exact DataW.trod_lt m _ _ _ hm
    exact ⟨_, _, Below.trod hl ha.1.1 ha.1.2 h1 hb hlt, trodAll_below hl hb ha.2 h2, rfl⟩

/-- A law's row, out of its contract. -/
theorem law_returns {C : Checked} {os : Os} {f : FuncId} {fn : Func} {s : ChangeSpec} {conds : List PathCond} {Q : List D → Prop} {rt : TypeId} {H : Type} {enc : TypeId × Value → H}
    (own : ownKnob C.prog.godebug = none) (started : os.Started) (noInit : C.prog.inits.idxOf? f = none) (hfn : C.prog.funcs[f]? = some fn)
    (witness : ∃ (w : World) (tape : Tape) (i : Input), w.os = os ∧ (w.forCall tape i).Shaped C.prog ∧ i.vars = [] ∧ Input.okWide C.prog (w.forCall tape i) .any w.heap.size f i ∧
      s.pre6 enc C.prog fn conds false (w.forCall tape i).memory i.args ∧ ({} : Assume).holds C.prog (lone (Frame.enter C.prog f i.args .normal) [] (w.forCall tape i)))
    (laid : laidOutB C.prog = true) (hread : fn.params.toList.all (fun t => C.prog.readableRec t && decide (t < C.prog.types.size)) = true)
    (hres : fn.resultTypes = #[rt]) (hrt : C.prog.underlying rt = some .bool) (hvars : s.vars = [])
    (hspec : ∀ ds : List (DataW H), ds.length = fn.params.size → s.fn H ds = { results := [.lit (.bool true)], args := ds })
    (O : OpnL C.prog fn.params.toList Q) (law : ∀ xs, Q xs → Ct C.prog [] f xs [] [.bool true] []) :
    ReturnsInHanded {} C os f .any (s.pre6 enc C.prog fn conds false) (s.post enc C.prog fn false true false false) := by
  refine returnsInHanded_of_change_sized own started noInit hfn witness ?_
  intro W base args ds gs before hval hW hcnd hsz _
  have hW' := hW
  obtain ⟨p, q, hA, hV, rfl, hfz, hnd⟩ := hW
  rw [hvars] at hV
  obtain ⟨rfl, rfl⟩ := trodVars_none hV
  obtain ⟨xs, hQ, hl, hxs⟩ := O.get (fun j t v ht hv => hval j t v (by simpa using ht) (by simpa using hv)) hA
  have hlen : ds.length = fn.params.size := by
    have key : ∀ {ts : List TypeId} {vs : List Value} {ds : List (DataW H)} {ps : List MemPlace}, DataW.TrodAll enc C.prog W 0 (fun _ => true) true ts vs ds ps → ds.length = ts.length := by
      intro ts
      induction ts with
      | nil => intro vs ds ps h; obtain ⟨rfl, rfl, rfl⟩ := trodAll_nil h; rfl
      | cons t ts ih => intro vs ds ps h; obtain ⟨v, vs', d, ds', p, q, rfl, rfl, rfl, h1, h2⟩ := trodAll_cons h; simp [ih h2]
    simpa using key hA
  refine (law_walk (law xs hQ) (w := W) (vs := args) (fun x h => by cases h) (by simpa using hl) (fun i d v hd hv => hxs i d v hd (by simpa using hv))).mono fun e W' ⟨he, bel⟩ => ?_
  subst he
  have hb := trodAll_below laid bel hread hA
  refine ⟨_, rfl, ds, [], _, [], p, [], hW', ?_, ?_, ?_, bel.frame _, fun h => by cases h⟩
  · rw [hspec _ (by simpa using hlen), hres]
    exact trodAll_mk1 (shut_bool hrt _)
  · rw [hspec _ (by simpa using hlen)]
    simpa using hb
  · rw [hspec _ (by simpa using hlen), hvars]
    rfl

theorem u8_wf {n : Int} (h : (Lit.int .u8 n).wf = true) : 0 ≤ n ∧ n < 256 := by
  simp [Lit.wf, IntKind.min, IntKind.max, IntKind.signed, IntKind.bits] at h
  omega
theorem i64_wf {n : Int} (h : (Lit.int .i64 n).wf = true) : -9223372036854775808 ≤ n ∧ n ≤ 9223372036854775807 := by
  simp [Lit.wf, IntKind.min, IntKind.max, IntKind.signed, IntKind.bits] at h
  omega

end Go.Proofs.Ytfnhclmdobdkbaa.Ab
