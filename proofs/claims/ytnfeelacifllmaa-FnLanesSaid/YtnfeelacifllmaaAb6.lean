/- The steps of functions on plain data, part 6: no condition. -/
import Derived.Test.YtnfeelacifllmaaAb5
import Derived.ChangeArms
import Derived.ChangeShapes
import Derived.ChangeOld
import Derived.DataReads
import Derived.WalkKit
import Derived.ProofKit
import Derived.OpenShut
import Derived.ShutString
import Derived.SizedLaws
import Derived.Carry
import Derived.Shelf.Lays2
import Derived.Shelf.RegionOpenPlain
import Derived.Deep.LoopGhost
import Derived.Deep.RegionLaw
import Derived.Lib.Walk
import Derived.Lib.SliceRun
import Derived.Sort.WalkB12
import Derived.Lib.SlicesDelete
import Derived.Shelf.SlLaysE0
set_option linter.unusedVariables false
set_option linter.unusedSimpArgs false
open Go.RowKit
namespace Go.Proofs.Ytnfeelacifllmaa.Ab

def E0 : Env := ⟨fun _ => ⟨0, 0, none⟩, fun _ => 0, fun _ => .fz, fun _ => .fresh⟩

def Seg (w : World) (ds : List D) (cs : List Value) : Prop := ds.length = cs.length ∧ ∀ (j : Nat) c u, ds[j]? = some c → cs[j]? = some u → Rep E0 w .fz c u

theorem Seg.nil {w : World} {cs : List Value} (h : cs = []) : Seg w [] cs := ⟨by simp [h], fun j c u h => by simp at h⟩

theorem Seg.cons {w : World} {ds ds' : List D} {cs : List Value} {off sz : Nat} (h : Seg w ds ((cs.drop off).take sz)) (h' : Seg w ds' (cs.drop (off + sz))) : Seg w (ds ++ ds') (cs.drop off) := by
  have e : cs.drop off = (cs.drop off).take sz ++ cs.drop (off + sz) := by
    rw [← List.drop_drop, List.take_append_drop]
  rw [e]
  refine ⟨by simp only [List.length_append, h.1, h'.1], fun j c u hc hu => ?_⟩
  by_cases hj : j < ds.length
  · rw [List.getElem?_append_left hj] at hc
    rw [List.getElem?_append_left (by rw [← h.1]; exact hj)] at hu
    exact h.2 j c u hc hu
  · rw [List.getElem?_append_right (by omega)] at hc
    rw [List.getElem?_append_right (by rw [← h.1]; omega), ← h.1] at hu
    exact h'.2 _ c u hc hu

def Opn (P : Program) (t : TypeId) {α : Type} (f : α → D) (G : α → Prop) : Prop :=
  ∀ {H : Type} (enc : TypeId × Value → H) (w : World) (base : Nat) (spare : Nat → Bool) (held : Bool) (fuel : Nat) (cs : List Value) (x : DataW H × List MemPlace), DataW.trod enc P w base spare held fuel t cs = some x → ∃ a, G a ∧ Seg w (f a).cells cs

section
variable {P : Program} {t : TypeId}

theorem Opn.int {k : IntKind} (ht : P.underlying t = some (.int k)) : Opn P t (D.int k) fun n => (Lit.int k n).wf = true := by
  intro H enc w base spare held fuel cs x h
  obtain ⟨n, rfl, _, hw⟩ := DataW.trod_int ht h
  exact ⟨n, hw, rfl, fun j c u hc hu => by cases j <;> simp [D.cells] at hc hu; subst hc hu; exact .int _ _ _⟩

theorem Opn.bool (ht : P.underlying t = some .bool) : Opn P t D.bool fun _ => True := by
  intro H enc w base spare held fuel cs x h
  obtain ⟨n, rfl, _⟩ := DataW.trod_bool ht h
  exact ⟨n, trivial, rfl, fun j c u hc hu => by cases j <;> simp [D.cells] at hc hu; subst hc hu; exact .bool _ _⟩

theorem Opn.str (ht : P.underlying t = some .string) : Opn P t D.str fun s => s.size ≤ maxLen := by
  intro H enc w base spare held fuel cs x h
  obtain ⟨n, rfl, _, hw⟩ := DataW.trod_string ht h
  exact ⟨n, hw, rfl, fun j c u hc hu => by cases j <;> simp [D.cells] at hc hu; subst hc hu; exact .str _ _⟩

theorem pick_fun {α : Type} (Q : Nat → α → Prop) : ∀ n : Nat, (∀ i, i < n → ∃ a, Q i a) → ∃ l : List α, l.length = n ∧ ∀ (i : Nat) a, l[i]? = some a → Q i a
  | 0, _ => ⟨[], rfl, fun i a h => by simp at h⟩
  | n + 1, h => by
    obtain ⟨l, hl, hq⟩ := pick_fun Q n fun i hi => h i (by omega)
    obtain ⟨a, ha⟩ := h n (by omega)
    refine ⟨l ++ [a], by simp [hl], fun i b hb => ?_⟩
    by_cases hi : i < l.length
    · rw [List.getElem?_append_left hi] at hb
      exact hq i b hb
    · rw [List.getElem?_append_right (by omega)] at hb
      have : i - l.length = 0 := by
        have := (List.getElem?_eq_some_iff.1 hb).1
        simp at this
        omega
      rw [this] at hb
      simp at hb
      subst hb
      rw [show i = n by omega]
      exact ha

theorem Opn.slice {α : Type} {f : α → D} {G : α → Prop} {e : TypeId} {wd : Nat} (ht : P.underlying t = some (.slice e)) (hw : P.cellsOf e = wd) (h0 : 0 < wd) (hf : ∀ a, (f a).cells.length = wd) (h : Opn P e f G) :
    Opn P t (sl wd f) fun l => (∀ x ∈ l, G x) ∧ l.length ≤ maxLen := by
  intro H enc w base spare held fuel cs x hx
  rcases DataW.trod_slice ht hx with ⟨rfl, _⟩ | ⟨a, len, cap, elems, rest, n, _, rfl, _, hb, hl, hm, hlen, hel, _⟩
  · refine ⟨[], ⟨by simp, by simp⟩, rfl, fun j c u hc hu => ?_⟩
    cases j <;> simp [D.cells, sl] at hc hu
    subst hc hu
    exact .flist _ _ _ _ _ _ _ (fun _ _ => undef) (.inr (.inl rfl)) rfl (Nat.le_refl _) (by simp) (fun h => by omega) (fun i j x c h => by simp at h)
  · obtain ⟨l, hll, hq⟩ := pick_fun (fun i y => G y ∧ ∃ cs', w.cells? base (a.add (i * wd)) wd = some cs' ∧ Seg w (f y).cells cs') len fun i hi => by
      have h1 := hel i hi
      rw [List.getElem?_eq_getElem (by omega), hw, Option.bind_eq_some_iff] at h1
      obtain ⟨cs', hc, ht'⟩ := h1
      obtain ⟨y, hy, hs⟩ := h enc w base spare held n cs' _ ht'
      exact ⟨y, hy, cs', hc, hs⟩
    have hcell : ∀ (i j : Nat) y c, l[i]? = some y → (f y).cells[j]? = some c → ∃ u, w.cell? (a.add (i * wd + j)) = some u ∧ Rep E0 w .fz c u := fun i j y c hy hc => by
      obtain ⟨_, cs', hcs, hs⟩ := hq i y hy
      obtain ⟨_, hl', hcc⟩ := World.cells?_some hcs
      have hj : j < cs'.length := by rw [← hs.1]; exact (List.getElem?_eq_some_iff.1 hc).1
      have h2 := hcc j (by omega)
      rw [List.getElem?_eq_getElem hj] at h2
      rw [add_add] at h2
      exact ⟨_, h2, hs.2 j c _ hc (List.getElem?_eq_getElem hj)⟩
    refine ⟨l, ⟨fun y hy => ?_, by omega⟩, rfl, fun j c u hc hu => ?_⟩
    · obtain ⟨i, hi⟩ := List.getElem?_of_mem hy
      exact (hq i y hi).1
    · cases j <;> simp [D.cells, sl] at hc hu
      subst hc hu
      have key : ∀ (i j : Nat) x c, (List.map f l)[i]? = some x → x.cells[j]? = some c → w.cell? (a.add (i * wd + j)) = some ((w.cell? (a.add (i * wd + j))).getD undef) ∧ Rep E0 w .fz c ((w.cell? (a.add (i * wd + j))).getD undef) := fun i j x c hx hj => by
        rw [List.getElem?_map, Option.map_eq_some_iff] at hx
        obtain ⟨y, hy, rfl⟩ := hx
        obtain ⟨u, hu, hr⟩ := hcell i j y c hy hj
        rw [hu]
        exact ⟨rfl, hr⟩
      rw [hll]
      refine .flist _ _ _ _ _ _ _ (fun i j => (w.cell? (a.add (i * wd + j))).getD undef) (.inr (.inl rfl)) (by simp [hll]) hl (fun x hx => ?_) (fun hpos => ⟨a, rfl, rfl, ?_, fun i j x c hx hj => (key i j x c hx hj).1⟩) (fun i j x c hx hj => (key i j x c hx hj).2)
      · obtain ⟨y, _, rfl⟩ := List.mem_map.1 hx
        exact hf y
      · obtain ⟨_, cs', hcs, _⟩ := hq 0 _ (List.getElem?_eq_getElem (by omega))
        have := World.cells?_block hcs h0
        rwa [add_block] at this

theorem Opn.field {α : Type} {f : α → D} {G : α → Prop} (O : Opn P t f G) {H : Type} {enc : TypeId × Value → H} {w : World} {base : Nat} {spare : Nat → Bool} {held : Bool} {n : Nat} {fs : Array Field} {cs : List Value} {xs : List (DataW H × List MemPlace)}
    (hx : xs.length = fs.size) (hf : ∀ (i : Nat) (fd : Field), fs[i]? = some fd → DataW.trod enc P w base spare held n fd.type ((cs.drop fd.offset).take (P.cellsOf fd.type)) = xs[i]?) (i : Nat) {fd : Field} (hi : fs[i]? = some fd) (ht : fd.type = t) {off sz : Nat} (ho : fd.offset = off) (hs : P.cellsOf t = sz) :
    ∃ a, G a ∧ Seg w (f a).cells ((cs.drop off).take sz) := by
  have h1 := hf i fd hi
  have hlt : i < xs.length := by rw [hx]; exact (Array.getElem?_eq_some_iff.1 hi).1
  rw [List.getElem?_eq_getElem hlt, ht, ho, hs] at h1
  exact O enc w base spare held n _ _ h1

end

theorem post_below {w w' : World} {res : List D} {e : Ending} (h : Post E0 w [] res [] e w') : Below w.heap.size w w' := by
  obtain ⟨E', us, _, hF, _⟩ := h
  exact ⟨hF.os, hF.tape, hF.output.1, hF.sz, fun k hk => (hF.fz k hk rfl).1⟩

theorem post_true {w w' : World} {e : Ending} (h : Post E0 w [] [.bool true] [] e w') : e = .returned (.bool true) := by
  obtain ⟨E', us, he, _, _, _, hR⟩ := h
  match us, hR with
  | [u], hR =>
    obtain ⟨h1, _⟩ := hR
    have : u = .bool true := Rep.bool_inv h1
    rw [he, this]
    rfl

theorem law_walk {P : Program} {gl : List (Nat × D)} {f : FuncId} {args : List D} (h : Ct P gl f args [] [.bool true] []) {w : World} {vs : Array Value} (hg : GlOK gl E0 w) (hn : vs.size = args.length) (hr : ∀ (i : Nat) d v, args[i]? = some d → vs[i]? = some v → Rep E0 w .slot d v) :
    Calls P f vs w fun e w' => e = .returned (.bool true) ∧ Below w.heap.size w w' :=
  (h.2 E0 w vs hg hn hr (fun k R hk => by simp at hk) (fun k _ => rfl)).mono fun e w' hp => ⟨post_true hp, post_below hp⟩

end Go.Proofs.Ytnfeelacifllmaa.Ab

open Go.RowKit Go.ChangeShapes Go.WideShapes
namespace Go.Proofs.Ytnfeelacifllmaa.Ab

theorem Rep.fz_slot {E : Env} {w : World} {d : D} {v : Value} (h : Rep E w .fz d v) : Rep E w .slot d v := h.lift (.inl rfl)

def OpnV (P : Program) (t : TypeId) (Q : D → Prop) : Prop :=
  ∀ {H : Type} (enc : TypeId × Value → H) (w : World) (base b0 : Nat) (spare : Nat → Bool) (held : Bool) (v : Value) (d : DataW H) (ps : List MemPlace),
    Value.okWide P w .any b0 t v → DataW.Trod enc P w base spare held t v d ps → ∃ x, Q x ∧ Rep E0 w .slot x v

theorem Opn.one {P : Program} {t : TypeId} {α : Type} {f : α → D} {G : α → Prop} (O : Opn P t f G) (hv : ∀ {w : World} {b0 : Nat} {v : Value}, Value.okWide P w .any b0 t v → v.cells.toList = [v]) (hf : ∀ a, (f a).cells = [f a]) : OpnV P t fun d => ∃ a, d = f a ∧ G a := by
  intro H enc w base b0 spare held v d ps hw ⟨fuel, h⟩
  obtain ⟨a, hG, _, hs⟩ := O enc w base spare held fuel _ _ h
  refine ⟨f a, ⟨a, rfl, hG⟩, Rep.fz_slot (hs 0 _ _ (by rw [hf]; rfl) (by rw [hv hw]; rfl))⟩

theorem Opn.agg {P : Program} {t : TypeId} {α : Type} {f : α → D} {G : α → Prop} (O : Opn P t f G) {fs : Array Field} (ht : P.underlying t = some (.struct fs)) (hf : ∀ a, f a = .agg (f a).cells) : OpnV P t fun d => ∃ a, d = f a ∧ G a := by
  intro H enc w base b0 spare held v d ps hw ⟨fuel, h⟩
  obtain ⟨a, hG, hl, hs⟩ := O enc w base spare held fuel _ _ h
  obtain ⟨cs, rfl, _⟩ := okWide_struct ht hw
  refine ⟨f a, ⟨a, rfl, hG⟩, ?_⟩
  rw [hf a]
  refine .agg _ _ (by simpa [Value.cells] using hl) fun i c u hc hu => Rep.fz_slot (hs i c u hc ?_)
  simpa [Value.cells] using hu

theorem OpnV.int {P : Program} {t : TypeId} {k : IntKind} (ht : P.underlying t = some (.int k)) : OpnV P t fun d => ∃ n, d = .int k n ∧ (Lit.int k n).wf = true :=
  Opn.one (Opn.int ht) (fun hw => by obtain ⟨n, rfl⟩ := okWide_int ht hw; rfl) fun _ => rfl
theorem OpnV.bool {P : Program} {t : TypeId} (ht : P.underlying t = some .bool) : OpnV P t fun d => ∃ n, d = .bool n ∧ True :=
  Opn.one (Opn.bool ht) (fun hw => by obtain ⟨n, rfl⟩ := okWide_bool ht hw; rfl) fun _ => rfl
theorem OpnV.str {P : Program} {t : TypeId} (ht : P.underlying t = some .string) : OpnV P t fun d => ∃ s, d = .str s ∧ s.size ≤ maxLen :=
  Opn.one (Opn.str ht) (fun hw => by obtain ⟨n, rfl⟩ := okWide_string ht hw; rfl) fun _ => rfl
theorem OpnV.slice {P : Program} {t : TypeId} {α : Type} {f : α → D} {G : α → Prop} {e : TypeId} {wd : Nat} (ht : P.underlying t = some (.slice e)) (hw : P.cellsOf e = wd) (h0 : 0 < wd) (hf : ∀ a, (f a).cells.length = wd) (h : Opn P e f G) :
    OpnV P t fun d => ∃ l, d = sl wd f l ∧ (∀ x ∈ l, G x) ∧ l.length ≤ maxLen :=
  Opn.one (Opn.slice ht hw h0 hf h) (fun hw => by obtain ⟨a, n, c, rfl⟩ := okWide_slice ht hw; rfl) fun _ => rfl

theorem Opn.strct {P : Program} {t : TypeId} {α : Type} {f : α → D} {G : α → Prop} {fs : Array Field} (ht : P.underlying t = some (.struct fs))
    (h : ∀ {H : Type} (enc : TypeId × Value → H) (w : World) (base : Nat) (spare : Nat → Bool) (held : Bool) (n : Nat) (cs : List Value) (xs : List (DataW H × List MemPlace)), cs.length = P.cellsOf t → xs.length = fs.size →
      (∀ (i : Nat) (fd : Field), fs[i]? = some fd → DataW.trod enc P w base spare held n fd.type ((cs.drop fd.offset).take (P.cellsOf fd.type)) = xs[i]?) → ∃ a, G a ∧ Seg w (f a).cells cs) : Opn P t f G := by
  intro H enc w base spare held fuel cs x hx
  obtain ⟨xs, n, _, rfl, hl, hxs, hf⟩ := DataW.trod_struct ht hx
  exact h enc w base spare held n cs xs hl hxs hf

def fieldsOf (P : Program) (t : TypeId) : Array Field := match P.underlying t with
  | some (.struct fs) => fs
  | _ => #[]
def isStrct (P : Program) (t : TypeId) : Bool := match P.underlying t with
  | some (.struct _) => true
  | _ => false
theorem isStrct_ok {P : Program} {t : TypeId} (h : isStrct P t = true) : P.underlying t = some (.struct (fieldsOf P t)) := by
  unfold isStrct at h
  unfold fieldsOf
  split at h
  · rename_i fs hu; rw [hu]
  · cases h
def fieldAt (P : Program) (t : TypeId) (i : Nat) : Option (TypeId × Nat × Nat) := match (fieldsOf P t)[i]? with
  | some fd => some (fd.type, fd.offset, P.cellsOf fd.type)
  | none => none
theorem Opn.fieldAt {P : Program} {t ft : TypeId} {α : Type} {f : α → D} {G : α → Prop} (O : Opn P ft f G) {H : Type} {enc : TypeId × Value → H} {w : World} {base : Nat} {spare : Nat → Bool} {held : Bool} {n : Nat} {cs : List Value} {xs : List (DataW H × List MemPlace)}
    (hx : xs.length = (fieldsOf P t).size) (hf : ∀ (i : Nat) (fd : Field), (fieldsOf P t)[i]? = some fd → DataW.trod enc P w base spare held n fd.type ((cs.drop fd.offset).take (P.cellsOf fd.type)) = xs[i]?) (i : Nat) {off sz : Nat} (h : fieldAt P t i = some (ft, off, sz)) :
    ∃ a, G a ∧ Seg w (f a).cells ((cs.drop off).take sz) := by
  unfold Ab.fieldAt at h
  split at h
  · rename_i fd hfd
    simp only [Option.some.injEq, Prod.mk.injEq] at h
    obtain ⟨h1, h2, h3⟩ := h
    exact Opn.field O hx hf i hfd h1 h2 (by rw [← h1]; exact h3)
  · cases h

inductive OpnL (P : Program) : List TypeId → (List D → Prop) → Prop
  | nil : OpnL P [] fun ds => ds = []
  | cons {t : TypeId} {ts : List TypeId} {Q : D → Prop} {R : List D → Prop} (h : OpnV P t Q) (hr : OpnL P ts R) : OpnL P (t :: ts) fun ds => ∃ d r, ds = d :: r ∧ Q d ∧ R r

theorem OpnL.get {P : Program} {ts : List TypeId} {R : List D → Prop} (h : OpnL P ts R) {H : Type} {enc : TypeId × Value → H} {w : World} {b0 : Nat} : ∀ {vs : List Value} {ds : List (DataW H)} {ps : List MemPlace},
    (∀ (j : Nat) t v, ts[j]? = some t → vs[j]? = some v → Value.okWide P w .any b0 t v) → DataW.TrodAll enc P w 0 (fun _ => true) true ts vs ds ps → ∃ xs, R xs ∧ vs.length = xs.length ∧ ∀ (i : Nat) d v, xs[i]? = some d → vs[i]? = some v → Rep E0 w .slot d v := by
  induction h with
  | nil =>
    intro vs ds ps _ hA
    obtain ⟨rfl, rfl, rfl⟩ := trodAll_nil hA
    exact ⟨[], rfl, rfl, fun i d v h => by simp at h⟩
  | cons hv hr ih =>
    intro vs ds ps hok hA
    obtain ⟨v, vs', d, ds', p, q, rfl, rfl, rfl, h1, h2⟩ := trodAll_cons hA
    obtain ⟨x, hQ, hx⟩ := hv enc w 0 b0 _ true v d p (hok 0 _ _ rfl rfl) h1
    obtain ⟨xs, hR, hl, hxs⟩ := ih (fun j t v ht hv => hok (j + 1) t v (by simpa using ht) (by simpa using hv)) h2
    refine ⟨x :: xs, ⟨_, _, rfl, hQ, hR⟩, by simp [hl], fun i d v hd hv => ?_⟩
    cases i with
    | zero => simp at hd hv; subst hd hv; exact hx
    | succ i => exact hxs i d v (by simpa using hd) (by simpa using hv)

theorem trodAll_below {H : Type} {enc : TypeId × Value → H} {P : Program} (hl : laidOutB P = true) {W W' : World} (hb : Below W.heap.size W W') : ∀ {ts : List TypeId} {vs : List Value} {ds : List (DataW H)} {ps : List MemPlace},
    ts.all (fun t => P.readableRec t && decide (t < P.types.size)) = true → DataW.TrodAll enc P W 0 (fun _ => true) true ts vs ds ps → DataW.TrodAll enc P W' 0 (fun b => decide (b < W.heap.size)) true ts vs ds ps
  | [], vs, ds, ps, _, h => by
    obtain ⟨rfl, rfl, rfl⟩ := trodAll_nil h
    exact trodAll_mk0
  | t :: ts, vs, ds, ps, ha, h => by
    obtain ⟨v, vs', d, ds', p, q, rfl, rfl, rfl, h1, h2⟩ := trodAll_cons h
    simp only [List.all_cons, Bool.and_eq_true, decide_eq_true_eq] at ha
    have hlt : ∀ x ∈ p, x.block < W.heap.size := by
      obtain ⟨m, hm⟩ := h1
      exact DataW.trod_lt m _ _ _ hm
    exact ⟨_, _, Below.trod hl ha.1.1 ha.1.2 h1 hb hlt, trodAll_below hl hb ha.2 h2, rfl⟩

theorem law_returns {C : Checked} {os : Os} {f : FuncId} {fn : Func} {s : ChangeSpec} {conds : List PathCond} {Q : List D → Prop} {rt : TypeId} {H : Type} {enc : TypeId × Value → H}
    (own : ownKnob C.prog.godebug = none) (started : os.Started) (noInit : C.prog.inits.idxOf? f = none) (hfn : C.prog.funcs[f]? = some fn)
    (witness : ∃ (w : World) (tape : Tape) (i : Input), w.os = os ∧ (w.forCall tape i).Shaped C.prog ∧ i.vars = [] ∧ Input.okWide C.prog (w.forCall tape i) .any w.heap.size f i ∧
      s.pre6 enc C.prog fn conds false (w.forCall tape i).memory i.args ∧ ({} : Assume).holds C.prog (lone (Frame.enter C.prog f i.args .normal) [] (w.forCall tape i)))
    (laid : laidOutB C.prog = true) (hread : fn.params.toList.all (fun t => C.prog.readableRec t && decide (t < C.prog.types.size)) = true)
    (hres : fn.resultTypes = #[rt]) (hrt : C.prog.underlying rt = some .bool) (hvars : s.vars = [])
    (hspec : ∀ ds : List (DataW H), ds.length = fn.params.size → s.fn H ds = { results := [.lit (.bool true)], args := ds })
    (O : OpnL C.prog fn.params.toList Q) (law : ∀ xs, Q xs → Ct C.prog [] f xs [] [.bool true] []) :
    ReturnsInHanded {} C os f .any (s.pre6 enc C.prog fn conds false) (s.post enc C.prog fn false true false false) := by
  refine returnsInHanded_of_change_sized own started noInit hfn witness ?_
  intro W base args ds gs before hval hW hcnd hsz _
  have hW' := hW
  obtain ⟨p, q, hA, hV, rfl, hfz, hnd⟩ := hW
  rw [hvars] at hV
  obtain ⟨rfl, rfl⟩ := trodVars_none hV
  obtain ⟨xs, hQ, hl, hxs⟩ := O.get (fun j t v ht hv => hval j t v (by simpa using ht) (by simpa using hv)) hA
  have hlen : ds.length = fn.params.size := by
    have key : ∀ {ts : List TypeId} {vs : List Value} {ds : List (DataW H)} {ps : List MemPlace}, DataW.TrodAll enc C.prog W 0 (fun _ => true) true ts vs ds ps → ds.length = ts.length := by
      intro ts
      induction ts with
      | nil => intro vs ds ps h; obtain ⟨rfl, rfl, rfl⟩ := trodAll_nil h; rfl
      | cons t ts ih => intro vs ds ps h; obtain ⟨v, vs', d, ds', p, q, rfl, rfl, rfl, h1, h2⟩ := trodAll_cons h; simp [ih h2]
    simpa using key hA
  refine (law_walk (law xs hQ) (w := W) (vs := args) (fun x h => by cases h) (by simpa using hl) (fun i d v hd hv => hxs i d v hd (by simpa using hv))).mono fun e W' ⟨he, bel⟩ => ?_
  subst he
  have hb := trodAll_below laid bel hread hA
  refine ⟨_, rfl, ds, [], _, [], p, [], hW', ?_, ?_, ?_, bel.frame _, fun h => by cases h⟩
  · rw [hspec _ (by simpa using hlen), hres]
    exact trodAll_mk1 (shut_bool hrt _)
  · rw [hspec _ (by simpa using hlen)]
    simpa using hb
  · rw [hspec _ (by simpa using hlen), hvars]
    rfl

theorem u8_wf {n : Int} (h : (Lit.int .u8 n).wf = true) : 0 ≤ n ∧ n < 256 := by
  simp [Lit.wf, IntKind.min, IntKind.max, IntKind.signed, IntKind.bits] at h
  omega
theorem i64_wf {n : Int} (h : (Lit.int .i64 n).wf = true) : -9223372036854775808 ≤ n ∧ n ≤ 9223372036854775807 := by
  simp [Lit.wf, IntKind.min, IntKind.max, IntKind.signed, IntKind.bits] at h
  omega

end Go.Proofs.Ytnfeelacifllmaa.Ab

namespace Go.Proofs.Ytnfeelacifllmaa.Ab

structure Sg where
  cs : List Cmd
  ps : List Prop
  pf : AllP ps
def addH (h : Hint) : List Cmd → List Cmd
  | .reg hs :: r => .reg (h :: hs) :: r
  | r => r
def sO : Sg := ⟨[], [], trivial⟩
def sN (s : Sg) : Sg := ⟨.reg [] :: s.cs, s.ps, s.pf⟩
def sM (c : Cmd) (s : Sg) : Sg := ⟨c :: s.cs, s.ps, s.pf⟩
def sK (a b : List Nat) : Sg := ⟨[.canon a b], [], trivial⟩
def sZ : Sg := ⟨[.reg []], [], trivial⟩
def sH (h : Hint) (s : Sg) : Sg := ⟨addH h s.cs, s.ps, s.pf⟩
def p1 {p : Prop} (h : p) (s : Sg) : Sg := ⟨s.cs, p :: s.ps, h, s.pf⟩
def p2 (p : Prop) (h : p) (s : Sg) : Sg := ⟨s.cs, p :: s.ps, h, s.pf⟩
def pI {α : Type} (a : α) (s : Sg) : Sg := ⟨s.cs, (a = a) :: s.ps, rfl, s.pf⟩
def pN (s : Sg) : Sg := ⟨s.cs, ((none : Option (Nat × Nat)) = none) :: s.ps, rfl, s.pf⟩
def pL {α : Type} (f : α → D) (l : List α) (s : Sg) : Sg := ⟨s.cs, (l.length = l.length) :: (erL (l.map f) = erL (l.map f)) :: s.ps, rfl, rfl, s.pf⟩
def pE {α : Type} {f g : α → D} (h : ∀ x, (f x).er = (g x).er) (l : List α) (s : Sg) : Sg := ⟨s.cs, (l.length = l.length) :: (erL (l.map f) = erL (l.map g)) :: s.ps, rfl, erL_map2 h l, s.pf⟩
def pR {α : Type} (f : α → D) (l : List α) (s : Sg) : Sg := ⟨s.cs, (l.length = l.length) :: (l.map f = l.map f) :: s.ps, rfl, rfl, s.pf⟩
def sT (i : Nat) {p : Prop} [Decidable p] (h : p) (s : Sg) : Sg := ⟨addH (hT i) s.cs, (decide p = true) :: s.ps, decide_eq_true h, s.pf⟩
def sF (i : Nat) {p : Prop} [Decidable p] (h : ¬ p) (s : Sg) : Sg := ⟨addH (hF i) s.cs, (decide p = false) :: s.ps, decide_eq_false h, s.pf⟩
def sBt (i : Nat) {b : Bool} (h : b = true) (s : Sg) : Sg := ⟨addH (hT i) s.cs, (b = true) :: s.ps, h, s.pf⟩
def sBf (i : Nat) {b : Bool} (h : ¬ b = true) (s : Sg) : Sg := ⟨addH (hF i) s.cs, (b = false) :: s.ps, eqF h, s.pf⟩
section
variable {α : Type} [BEq α] [LawfulBEq α] {a b : α}
def sEt (i : Nat) (h : a = b) (s : Sg) : Sg := ⟨addH (hT i) s.cs, ((a == b) = true) :: s.ps, beqT h, s.pf⟩
def sEf (i : Nat) (h : ¬ a = b) (s : Sg) : Sg := ⟨addH (hF i) s.cs, ((a == b) = false) :: s.ps, beqF h, s.pf⟩
def sNt (i : Nat) (h : ¬ a = b) (s : Sg) : Sg := ⟨addH (hT i) s.cs, ((a != b) = true) :: s.ps, bneT h, s.pf⟩
def sNf (i : Nat) (h : a = b) (s : Sg) : Sg := ⟨addH (hF i) s.cs, ((a != b) = false) :: s.ps, bneF h, s.pf⟩
end
section
variable {α : Type} {l : List α}
def sE (i : Nat) (f : α → D) {k : Nat} {x : α} (hx : l[k]? = some x) (s : Sg) : Sg := ⟨addH (hE i (f x)) s.cs, ((l.map f)[k]? = some (f x)) :: s.ps, at_map f hx, s.pf⟩
def sB {k : Int} {x : α} (h0 : 0 ≤ k) (hx : l[k.toNat]? = some x) (s : Sg) : Sg := ⟨s.cs, (0 ≤ k) :: (k < (l.length : Int)) :: s.ps, h0, int_lt_of_at h0 hx, s.pf⟩
def sL (i : Nat) (f : α → D) {k : Int} {x : α} (h0 : 0 ≤ k) (hx : l[k.toNat]? = some x) (s : Sg) : Sg := ⟨addH (hE i (f x)) s.cs, (0 ≤ k) :: (k < (l.length : Int)) :: ((l.map f)[k.toNat]? = some (f x)) :: s.ps, h0, int_lt_of_at h0 hx, at_map f hx, s.pf⟩
def sW (i : Nat) (f : α → D) (j : Nat) (cs : List D) (x' : α) {k : Nat} {x : α} (hx : l[k]? = some x) (s : Sg) (h : setCells [f x] 0 j cs = [f x'] := by rfl) : Sg :=
  ⟨addH (hA i (List.set l k x').length (List.map f (List.set l k x'))) s.cs, (k < l.length) :: (setCells (List.map f l) k j cs = List.map f (List.set l k x')) :: (l.length = (List.set l k x').length) :: s.ps, lt_of_at hx, setCells_map hx h, setLen l k x', s.pf⟩
def sA (i : Nat) (f : α → D) (l m : List α) {b c : Nat} (h : (l ++ m).length * b ≤ c) (s : Sg) : Sg :=
  ⟨addH (hA i (l ++ m).length (List.map f (l ++ m))) s.cs, ((l ++ m).length = l.length + m.length) :: ((l.length + m.length) * b ≤ c) :: (List.map f l ++ List.map f m = List.map f (l ++ m)) :: s.ps, apL l m, apB h, apM f l m, s.pf⟩
end
section
variable {P : Program} {gl : List (Nat × D)} {f : FuncId} {az res : List D} {b : Bool}
def sC (i : Nat) (c : Ct P gl f az [] res []) (s : Sg) : Sg := ⟨addH (hC i true [] res []) s.cs, Ct P gl f az [] res [] :: s.ps, c, s.pf⟩
def sCt (i : Nat) (c : Ct P gl f az [] (RB b) []) (h : b = true) (s : Sg) : Sg := ⟨addH { i := i, call := some { cl := true, auto := true, ins := [], res := RB b, G' := [] }, dec := some true } s.cs, Ct P gl f az [] (RB b) [] :: (b = true) :: s.ps, c, h, s.pf⟩
def sCf (i : Nat) (c : Ct P gl f az [] (RB b) []) (h : ¬ b = true) (s : Sg) : Sg := ⟨addH { i := i, call := some { cl := true, auto := true, ins := [], res := RB b, G' := [] }, dec := some false } s.cs, Ct P gl f az [] (RB b) [] :: (b = false) :: s.ps, c, eqF h, s.pf⟩
def sCk (i : Nat) (cl : Bool) (ins : List Nat) {G G' : List Root} (c : Ct P gl f az G res G') (s : Sg) : Sg := ⟨addH (hC i cl ins res G') s.cs, Ct P gl f az G res G' :: s.ps, c, s.pf⟩
end
theorem eL {α β : Type} {c : Prop} [Decidable c] {x : Option α} {f : α → Option β} {o : β} {Q : Prop} (H : (if c then x.bind f else none) = some o) (h : c → ∀ r, x = some r → f r = some o → Q) : Q :=
  eCk H fun h1 H => eBind H fun r hr H => h h1 r hr H
def sMk {α : Type} (i : Nat) (f : α → D) (n : Int) (z : α) {b c : Nat} (h0 : 0 ≤ n) (h : n.toNat * b ≤ c) (s : Sg) : Sg :=
  ⟨addH (hA i (List.replicate n.toNat z).length (List.map f (List.replicate n.toNat z))) s.cs, (n = n) :: (0 ≤ n) :: (n.toNat * b ≤ c) :: ((List.replicate n.toNat z).length = n.toNat) :: (List.replicate n.toNat (f z) = List.map f (List.replicate n.toNat z)) :: s.ps, rfl, h0, h, repLen _ z, repMap f _ z, s.pf⟩
theorem apB0 {α : Type} {m : List α} {b c : Nat} (h : m.length * b ≤ c) : (0 + m.length) * b ≤ c := by rw [Nat.zero_add]; exact h
def sA0 {α : Type} (i : Nat) (f : α → D) (m : List α) {b c : Nat} (h : m.length * b ≤ c) (s : Sg) : Sg :=
  ⟨addH (hA i m.length (List.map f m)) s.cs, (m.length = 0 + m.length) :: ((0 + m.length) * b ≤ c) :: ([] ++ List.map f m = List.map f m) :: s.ps, (Nat.zero_add _).symm, apB0 h, List.nil_append _, s.pf⟩

end Go.Proofs.Ytnfeelacifllmaa.Ab

namespace Go.Proofs.Ytnfeelacifllmaa.Ab

def rerun (X : Ctx) (ops : Array Oper) (cs : List Rc) (σ : St) (G : List (Option Root)) : List (Nat × Hint) → Option (List Prop)
  | [] => some []
  | (i, h) :: r => match ops.toList[i]?, cs[i]? with
    | some o, some c => match step1 X ops o h (foldK ops.toList cs i σ).sl (getR G) G.length with
      | some (qs, c') => if c.us.isEmpty && c'.us.isEmpty && decide (c'.foot = c.foot) then match rerun X ops cs σ G r with
          | some ps => some (qs ++ ((c'.v = c.v) :: ps))
          | none => none
        else none
      | none => none
    | _, _ => none
def safeWithX (ops : Array Oper) (x : Bool) (xs : List Nat) (bef : Nat) (o : Oper) (c : Rc) : Nat → List Oper → List Rc → Bool
  | i, o' :: os, c' :: cs => (bef.testBit i || apart1 ops o' o c' c || x && xs.contains i && o'.apart ops o && !c'.us.any fun u => c.foot.any (Nat.beq u.1)) && safeWithX ops x xs bef o c (i + 1) os cs
  | _, _, _ => true
def safeX (ops : Array Oper) (K : Nat) (xs bs : List Nat) : (dos : List Oper) → (dcs : List Rc) → List Oper → List Rc → Bool
  | dos, dcs, o :: os, c :: cs => match bs[dos.length]? with
    | some b => safeWithX ops (dos.length == K) xs b o c 0 dos dcs && safeX ops K xs bs (dos ++ [o]) (dcs ++ [c]) os cs
    | none => false
  | _, _, _, _ => true
def regionX (X : Ctx) (ops : Array Oper) (σ : St) (hs : List Hint) (K : Nat) (xs : List (Nat × Hint)) : Option (List Prop × St) :=
  match execOps X ops ops.toList 0 σ hs with
  | none => none
  | some (cs, ps, σ') => match rerun X ops cs σ (foldK ops.toList cs (K + 1) σ).G xs with
    | none => none
    | some qs => if safeX ops K (xs.map (·.1)) (befs ops.toList []) [] [] ops.toList cs && afters 0 ops.toList && (cs.take K).all (fun c => c.us.isEmpty) && xs.all (fun x => Nat.blt x.1 K) && Nat.blt K ops.toList.length then some (ps ++ qs, σ') else none

theorem rerun_ok {X : Ctx} {ops : Array Oper} {cs : List Rc} {σ : St} {G : List (Option Root)} : ∀ {xs : List (Nat × Hint)} {ps : List Prop}, rerun X ops cs σ G xs = some ps → AllP ps → ∀ i ∈ xs.map (·.1),
    ∃ o c h qs, ops.toList[i]? = some o ∧ cs[i]? = some c ∧ step1 X ops o h (foldK ops.toList cs i σ).sl (getR G) G.length = some (qs, c) ∧ AllP qs ∧ c.us = []
  | [], _, _, _, i, hi => by cases hi
  | (k, h) :: r, ps, hx, hp, i, hi => by
    simp only [rerun] at hx
    split at hx
    · rename_i o c ho hc
      split at hx
      · rename_i qs c' hs
        split at hx
        · rename_i hcond
          simp only [Bool.and_eq_true, List.isEmpty_iff, decide_eq_true_eq] at hcond
          split at hx
          · rename_i ps' hr
            simp only [Option.some.injEq] at hx
            subst hx
            obtain ⟨hp1, hp2⟩ := AllP_append hp
            rcases List.mem_cons.1 hi with rfl | hi
            · have : c' = c := by
                obtain ⟨v, us, ft⟩ := c
                obtain ⟨v', us', ft'⟩ := c'
                obtain ⟨⟨h1, h2⟩, h3⟩ := hcond
                have h4 : v' = v := hp2.1
                simp only at h1 h2 h3
                subst h1 h2 h3 h4
                rfl
              subst this
              exact ⟨o, c', h, qs, ho, hc, hs, hp1, hcond.1.1⟩
            · exact rerun_ok hr hp2.2 i hi
          · cases hx
        · cases hx
      · cases hx
    · cases hx

theorem safeWithX_ok {ops : Array Oper} {x : Bool} {xs : List Nat} {bef : Nat} {o : Oper} {c : Rc} : ∀ {dos : List Oper} {dcs : List Rc} {i : Nat}, safeWithX ops x xs bef o c i dos dcs = true → ∀ (k : Nat) o' c', dos[k]? = some o' → dcs[k]? = some c' →
    bef.testBit (i + k) = true ∨ apart1 ops o' o c' c = true ∨ x = true ∧ xs.contains (i + k) = true ∧ o'.apart ops o = true
  | [], _, i, _, k, o', c', h, _ => by simp at h
  | _ :: _, [], i, _, k, o', c', _, h => by simp at h
  | o1 :: dos, c1 :: dcs, i, h, k, o', c', ho, hc => by
    simp only [safeWithX, Bool.and_eq_true, Bool.or_eq_true] at h
    cases k with
    | zero =>
      simp only [List.getElem?_cons_zero, Option.some.injEq] at ho hc
      subst ho hc
      rcases h.1 with (h1 | h1) | h1
      · exact .inl h1
      · exact .inr (.inl h1)
      · exact .inr (.inr ⟨h1.1.1.1, h1.1.1.2, h1.1.2⟩)
    | succ k =>
      have := safeWithX_ok h.2 k o' c' (by simpa using ho) (by simpa using hc)
      rwa [show i + 1 + k = i + (k + 1) by omega] at this

theorem safeX_ok {ops : Array Oper} {K : Nat} {xs bs : List Nat} : ∀ {os : List Oper} {cs : List Rc} {dos : List Oper} {dcs : List Rc}, dcs.length = dos.length → cs.length = os.length → safeX ops K xs bs dos dcs os cs = true →
    ∀ (i j : Nat) o c o' c', j < i → dos.length ≤ i → (dos ++ os)[i]? = some o → (dcs ++ cs)[i]? = some c → (dos ++ os)[j]? = some o' → (dcs ++ cs)[j]? = some c' →
      (∃ b, bs[i]? = some b ∧ b.testBit j = true) ∨ apart1 ops o' o c' c = true ∨ i = K ∧ j ∈ xs ∧ o'.apart ops o = true
  | [], _, dos, dcs, hl, hl', h, i, j, o, c, o', c', hj, hi, ho, _, _, _ => by
    simp at ho
    have := (List.getElem?_eq_some_iff.1 ho).1
    omega
  | _ :: _, [], dos, dcs, hl, hl', h, i, j, o, c, o', c', hj, hi, ho, _, _, _ => by simp at hl'
  | o1 :: os, c1 :: cs, dos, dcs, hl, hl', h, i, j, o, c, o', c', hj, hi, ho, hc, ho', hc' => by
    simp only [safeX] at h
    split at h
    · rename_i b hb
      simp only [Bool.and_eq_true] at h
      by_cases he : i = dos.length
      · subst he
        rw [List.getElem?_append_right (Nat.le_refl _), Nat.sub_self] at ho
        rw [List.getElem?_append_right (by omega), hl, Nat.sub_self] at hc
        rw [List.getElem?_append_left hj] at ho'
        rw [List.getElem?_append_left (by omega)] at hc'
        simp only [List.getElem?_cons_zero, Option.some.injEq] at ho hc
        subst ho hc
        rcases safeWithX_ok h.1 j o' c' ho' hc' with h1 | h1 | h1
        · rw [Nat.zero_add] at h1
          exact .inl ⟨b, hb, h1⟩
        · exact .inr (.inl h1)
        · rw [Nat.zero_add] at h1
          exact .inr (.inr ⟨by simpa using h1.1, by simpa using h1.2.1, h1.2.2⟩)
      · exact safeX_ok (by simp [hl]) (by simpa using hl') h.2 i j o c o' c' hj (by simp; omega) (by simpa using ho) (by simpa using hc) (by simpa using ho') (by simpa using hc')
    · cases h

section
variable {X : Ctx} {M : Nat} {E0 E E' : Env} {w0 w w' : World} {σ σ' : St} {a : Act} {ops : Array Oper} {cs : List Rc} {d : Nat → Bool}

theorem foldK_quiet (hl : cs.length = ops.toList.length) {K n : Nat} (hn : n ≤ K) (hK : K ≤ ops.toList.length) (hq : ∀ (j : Nat) c, j < K → cs[j]? = some c → c.us = []) : (foldK ops.toList cs n σ).G = σ.G := by
  induction n with
  | zero => rw [foldK_zero]
  | succ n ih =>
    have hc := List.getElem?_eq_getElem (show n < cs.length by omega)
    rw [foldK_succ (List.getElem?_eq_getElem (show n < ops.toList.length by omega)) hc]
    simp only [stepS, hq n _ (by omega) hc, putAll]
    exact ih (by omega)

theorem regionX_ok (hm : TabOK X.P X.T) (hmix : X.P.follows .mixedOrders = true) {hs : List Hint} {K : Nat} {xs : List (Nat × Hint)} {ps : List Prop} (h : regionX X ops σ hs K xs = some (ps, σ')) (hp : AllP ps) (hS : SR X M E0 w0 σ a w E) {id : Nat} {Q : Exit → Act → World → Prop}
    (hQ : ∀ a' w' E', SR X M E0 w0 σ' a' w' E' → Q .normal a' w') : (Code.region id ops true).wp X.P Q a w := by
  unfold regionX at h
  split at h
  · cases h
  · rename_i cs ps' σ2 hx
    split at h
    · cases h
    · rename_i qs hre
      split at h
      · rename_i hc
        simp only [Bool.and_eq_true] at hc
        obtain ⟨⟨⟨⟨hc1, hc2⟩, hc3⟩, hc4⟩, hc5⟩ := hc
        simp only [Option.some.injEq, Prod.mk.injEq] at h
        obtain ⟨rfl, rfl⟩ := h
        obtain ⟨hp1, hp2⟩ := AllP_append hp
        obtain ⟨hl, rfl, hst⟩ := execOps_ok hx hp1
        have hKlt : K < ops.toList.length := Nat.le_of_ble_eq_true hc5
        have hquiet : ∀ (j : Nat) c, j < K → cs[j]? = some c → c.us = [] := fun j c hj hcj => by
          have := List.all_eq_true.1 hc3 c (List.mem_of_getElem? (i := j) (by rw [List.getElem?_take, if_pos hj]; exact hcj))
          simpa using this
        have hxK : ∀ i ∈ xs.map (·.1), i < K := fun i hi => by
          obtain ⟨x, hxm, rfl⟩ := List.mem_map.1 hi
          have := List.all_eq_true.1 hc4 x hxm
          exact Nat.le_of_ble_eq_true this
        have hcat : ∀ j, j < ops.toList.length → ∃ c', cs[j]? = some c' := fun j hj => ⟨_, List.getElem?_eq_getElem (by omega)⟩
        have hltc : ∀ {j : Nat} {c}, cs[j]? = some c → j < ops.toList.length := fun hcj => by rw [← hl]; exact (List.getElem?_eq_some_iff.1 hcj).1
        have hsafe : ∀ (i j : Nat) o c o' c', j < i → ops.toList[i]? = some o → cs[i]? = some c → ops.toList[j]? = some o' → cs[j]? = some c' → (∃ b, (befs ops.toList [])[i]? = some b ∧ b.testBit j = true) ∨ apart1 ops o' o c' c = true ∨ i = K ∧ j ∈ xs.map (·.1) ∧ o'.apart ops o = true :=
          fun i j o c o' c' h1 h2 h3 h4 h5 => safeX_ok rfl hl hc1 i j o c o' c' h1 (Nat.zero_le _) (by simpa using h2) (by simpa using h3) (by simpa using h4) (by simpa using h5)
        refine wp_region_any hmix ?_
        have hnone : ∀ j, (Array.replicate ops.size false).getD j false = false := fun j => by
          by_cases hj : j < ops.size <;> simp [hj]
        refine Inv.any0 (Q := Q) (w0 := w0) (E0 := E0) (M := M) (σ := σ) hl (fun i o c d a w E ho hci h0 hf hpp hI KK QQ hK => ?_) hc2 hQ ops.size _ a _ E (by simp) (unl_le _) (fun i b hi => by rw [hnone] at hi; cases hi) ?_
        · have hi := hltc hci
          -- pairs that are apart
          have lo : ∀ (j : Nat) o' c', j < i → d j = false → ops.toList[j]? = some o' → cs[j]? = some c' → apart1 ops o' o c' c = true ∨ i = K ∧ j ∈ xs.map (·.1) ∧ o'.apart ops o = true := fun j o' c' hj hd h1 h2 => by
            rcases hsafe i j o c o' c' hj ho hci h1 h2 with ⟨b, hb, hbj⟩ | h
            · have := hf b hb j hbj
              rw [hd] at this
              cases this
            · exact h
          have hi2 : ∀ (j : Nat) o' c', i < j → d j = true → ops.toList[j]? = some o' → cs[j]? = some c' → apart1 ops o o' c c' = true ∨ j = K ∧ i ∈ xs.map (·.1) ∧ o.apart ops o' = true := fun j o' c' hj hd h1 h2 => by
            rcases hsafe j i o' c' o c hj h1 h2 ho hci with ⟨b, hb, hbj⟩ | h
            · exact (hpp j b hd hb hbj).elim
            · exact h
          have sl1 : ∀ (j : Nat) o', j < i → d j = false → ops.toList[j]? = some o' → o'.apart ops o = true := fun j o' hj hd h1 => by
            obtain ⟨c', h2⟩ := hcat j (by omega)
            rcases lo j o' c' hj hd h1 h2 with h | h
            · exact (apart1_spec h).1
            · exact h.2.2
          have sl2 : ∀ (j : Nat) o', i < j → d j = true → ops.toList[j]? = some o' → o.apart ops o' = true := fun j o' hj hd h1 => by
            obtain ⟨c', h2⟩ := hcat j (List.getElem?_eq_some_iff.1 h1).1
            rcases hi2 j o' c' hj hd h1 h2 with h | h
            · exact (apart1_spec h).1
            · exact h.2.2
          have hslot := hI.slots hl hi h0 (fun j o' hj hd h1 t ht => (Oper.apart_spec (sl1 j o' hj hd h1)).1 t ht) fun j o' hj hd h1 t ht => (Oper.apart_spec (sl2 j o' hj hd h1)).2.2 t ht
          have hd1 : ∀ (j : Nat) o', i < j → d j = true → ops.toList[j]? = some o' → ∀ t, o.dst = some t → o'.dst ≠ some t := fun j o' hj hd h1 t ht => (Oper.apart_spec (sl2 j o' hj hd h1)).2.1 t ht
          by_cases hxi : i ∈ xs.map (·.1) ∧ d K = true
          · obtain ⟨hxi, hdK⟩ := hxi
            have hiK := hxK i hxi
            obtain ⟨o1, c1, h1, qs1, e1, e2, e3, e4, e5⟩ := rerun_ok hre hp2 i hxi
            rw [ho] at e1
            rw [hci] at e2
            cases e1
            cases e2
            refine hI.step0 hm hl ho hci e3 e4 hslot (hI.roots hl hKlt (fun j c' hj hd hcj u hu => ?_) fun j c' hj hd hcj u hu => ?_) (fun r R => getR_some) (foldK_sl hl 0 i (by omega)).1 (fun u hu => by rw [e5] at hu; cases hu) hd1 (fun j c' hj hd hcj u hu => by rw [e5] at hu; cases hu) hK
            · rcases Nat.lt_or_ge j K with hjK | hjK
              · rw [hquiet j c' hjK hcj] at hu
                cases hu
              · have : j = K := by omega
                rw [this, hdK] at hd
                cases hd
            · rcases hi2 j _ c' (by omega) hd (List.getElem?_eq_getElem (hltc hcj)) hcj with h | h
              · exact (apart1_spec h).2.2 u hu
              · omega
          · have far : ∀ (j : Nat) o' c', i < j → d j = true → ops.toList[j]? = some o' → cs[j]? = some c' → apart1 ops o o' c c' = true := fun j o' c' hj hd h1 h2 => by
              rcases hi2 j o' c' hj hd h1 h2 with h | h
              · exact h
              · exact (hxi ⟨h.2.1, h.1 ▸ hd⟩).elim
            by_cases hiK : i = K
            · subst hiK
              obtain ⟨h, qs, hs1, hq1⟩ := hst i o c ho hci
              have hd2 : ∀ (j : Nat) c', i < j → d j = true → cs[j]? = some c' → ∀ u ∈ c.us, ∀ u' ∈ c'.us, u'.1 ≠ u.1 := fun j c' hj hd hcj u hu u' hu' e =>
                ((apart1_spec (far j _ c' hj hd (List.getElem?_eq_getElem (hltc hcj)) hcj)).2.1 u hu).2 u' hu' e.symm
              refine hI.step0 hm hl ho hci hs1 hq1 hslot (hI.roots hl (Nat.le_of_lt hi) (fun j c' hj hd hcj u hu => ?_) fun j c' hj hd hcj u hu => ?_) (fun r R => getR_some) (foldK_sl hl 0 i (by omega)).1 (fun u hu hge => ?_) hd1 hd2 hK
              · rw [hquiet j c' hj hcj] at hu
                cases hu
              · have hne : j ≠ i := fun e => by rw [e, h0] at hd; cases hd
                exact (apart1_spec (far j _ c' (by omega) hd (List.getElem?_eq_getElem (hltc hcj)) hcj)).2.2 u hu
              · refine hI.fresh _ (Nat.le_trans (foldK_len (σ := σ) hl i (by omega)).1 hge) fun j c' hdj hc' u' hu' e => ?_
                rcases Nat.lt_trichotomy j i with hji | rfl | hji
                · rw [hquiet j c' hji hc'] at hu'
                  cases hu'
                · rw [h0] at hdj; cases hdj
                · exact hd2 j c' hji hdj hc' u hu u' hu' e
            · exact hI.step hm ⟨hl, hst⟩ ho hci h0 (fun j o' c' hj hd h1 h2 => (lo j o' c' hj hd h1 h2).resolve_right fun h => hiK h.1) far hK
        · have : (fun j => (Array.replicate ops.size false).getD j false) = fun _ => false := by funext j; exact hnone j
          rw [this]
          exact hS.drew.inv
      · cases h
end

section
variable {X : Ctx} {f : FuncId} {M : Nat} {k : List Item} {σ σ' : St} {res : List D} {G' : List Root}
theorem Wc.regX (hm : TabOK X.P X.T) (hmix : X.P.follows .mixedOrders = true) {id : Nat} {ops : Array Oper} {hs : List Hint} {K : Nat} {xs : List (Nat × Hint)} {ps : List Prop}
    (h : regionX X ops σ hs K xs = some (ps, σ')) (hp : AllP ps) (hk : Wc X f M k σ' res G') : Wc X f M (.code (.region id ops true) :: k) σ res G' :=
  fun G E0 w0 a w E hG hS => .code (regionX_ok hm hmix h hp hS fun a' w' E' hS' => ⟨rfl, hk G E0 w0 a' w' E' hG hS'⟩)

def rxF (X : Ctx) (k : List Item) (σ : St) (cs : List Cmd) (K : Nat) (xs : List (Nat × Hint)) : Option (List Prop × List Item × St) := match k, cs with
  | .code (.region _ ops true) :: k', [.reg hs] => match regionX X ops σ hs K xs with
    | some (ps, σ') => some (ps, k', σ')
    | none => none
  | _, _ => none
def rxP (X : Ctx) (k : List Item) (σ : St) (cs : List Cmd) (K : Nat) (xs : List (Nat × Hint)) : Option (List Prop) := match rxF X k σ cs K xs with
  | some (ps, _, _) => some ps
  | none => none
def rxK (X : Ctx) (k : List Item) (σ : St) (cs : List Cmd) (K : Nat) (xs : List (Nat × Hint)) : List Item := match rxF X k σ cs K xs with
  | some (_, k', _) => k'
  | none => []
def rxS (X : Ctx) (k : List Item) (σ : St) (cs : List Cmd) (K : Nat) (xs : List (Nat × Hint)) : St := match rxF X k σ cs K xs with
  | some (_, _, σ') => σ'
  | none => ⟨[], []⟩
theorem rx_ok (hm : TabOK X.P X.T) (hmix : X.P.follows .mixedOrders = true) (cs : List Cmd) (K : Nat) (xs : List (Nat × Hint)) {ps : List Prop} (h : rxP X k σ cs K xs = some ps) (hp : AllP ps) (hk : Wc X f M (rxK X k σ cs K xs) (rxS X k σ cs K xs) res G') : Wc X f M k σ res G' := by
  unfold rxP at h
  unfold rxK rxS at hk
  split at h
  · rename_i ps' k' σ' hf
    rw [hf] at hk
    cases h
    unfold rxF at hf
    split at hf
    · split at hf
      · rename_i hr
        cases hf
        exact Wc.regX hm hmix hr hp hk
      · cases hf
    · cases hf
  · cases h
theorem rxN_ok {ς ρ : Type} {K : ς → List Item} {Z : ς → St} {R : ρ → List D} {G : ρ → List Root} {o : ς ⊕ ρ} (hm : TabOK X.P X.T) (hmix : X.P.follows .mixedOrders = true) (cs : List Cmd) (K' : Nat) (xs : List (Nat × Hint)) {ps : List Prop} (h : rxP X k σ cs K' xs = some ps) (hp : AllP ps)
    (hk : Nx X f M K Z R G (rxK X k σ cs K' xs) (rxS X k σ cs K' xs) o) : Nx X f M K Z R G k σ o := by
  cases o with
  | inl s' => exact fun r hr => rx_ok hm hmix cs K' xs h hp (hk r hr)
  | inr r => exact rx_ok hm hmix cs K' xs h hp hk
end
end Go.Proofs.Ytnfeelacifllmaa.Ab

namespace Go.Proofs.Ytnfeelacifllmaa.Ab
open Go.Shelf Go.RowKit Go.Lib Go.Sort
variable {P : Program} {ρ : Ren}

theorem heap_cell {w : World} {b : Nat} {cs : Array Value} {ty : Nat} (hh : w.heap[b]? = some (.cells cs ty (0, 0))) (m : Nat) : w.cell? ⟨b, m, none⟩ = cs[m]? ∧ w.frozen? ⟨b, m, none⟩ = false := by
  unfold World.cell? World.frozen?
  simp only [hh]
  simp

theorem del_calls (L : Lays2.n23 P ρ) (b off n cap i j ty : Nat) (cs : Array Value) (l : List Int) (w : World) (hl : l.length = n) (hh : w.heap[b]? = some (.cells cs ty (0, 0))) (hs : off + n ≤ cs.size)
    (hc : ∀ (t : Nat) x, l[t]? = some x → cs[off + t]? = some (.int .i64 x)) (hcap : n ≤ cap) (hm : n ≤ 9223372036854775807) (hij : i < j) (hj : j ≤ n) :
    Calls P (ρ.f 23) #[.slice (some ⟨b, off, none⟩) n cap, .int .i64 i, .int .i64 j] w fun e w' => e = .returned (.slice (some ⟨b, off, none⟩) (i + (n - j)) cap) ∧
      w' = (w.drew.setCells b (off + i * 1) ((l.drop j).map (Value.int .i64))).setCells b (off + (i + (n - j))) (List.replicate (n - (i + (n - j))) (.int .i64 0)) := by
  have mixed := L.mixed; have t0 := L.t0; have a0 := L.a0; have z0 := L.z0; have v0 := L.v0; have t3 := L.t3; have a3 := L.a3; have z3 := L.z3; have v3 := L.v3; have t4 := L.t4; have a4 := L.a4; have z4 := L.z4; have v4 := L.v4; have t22 := L.t22; have a22 := L.a22; have z22 := L.z22; have v22 := L.v22
  obtain ⟨i0, hi0, hz0, hz1, hz2⟩ := info_parts L.i3
  have hhd : w.drew.heap[b]? = some (.cells cs ty (0, 0)) := hh
  obtain ⟨news, hnews⟩ : ∃ news, news = (l.drop j).map (Value.int .i64) := ⟨_, rfl⟩
  have hlen : news.length = n - j := by rw [hnews]; simp [hl]
  obtain ⟨A, hA, hsrc⟩ : ∃ A : Addr, (if cap = j then some (⟨b, off, none⟩ : Addr) else some ⟨b, off + j, none⟩) = some A ∧ Hid (∀ (t : Nat) u, news[t]? = some u → w.drew.cell? (A.add t) = some u) := by
    by_cases h : cap = j
    · refine ⟨⟨b, off, none⟩, by simp [h], fun t u hu => ?_⟩
      have h0 : news.length = 0 := by omega
      rw [List.length_eq_zero_iff.1 h0] at hu
      simp at hu
    · refine ⟨⟨b, off + j, none⟩, by simp [h], fun t u hu => ?_⟩
      rw [Addr.add_lit, (heap_cell hhd _).1]
      rw [hnews, List.getElem?_map, List.getElem?_drop, Option.map_eq_some_iff] at hu
      obtain ⟨x, hx, rfl⟩ := hu
      rw [Nat.add_assoc]
      exact hc _ _ hx
  have s1 : Hid (news.length = (n - j) * 1) := by rw [Nat.mul_one]; exact hlen
  have s2 : Hid (∀ u ∈ news, u.oneCell' = true) := by
    intro u hu
    rw [hnews] at hu
    obtain ⟨x, _, rfl⟩ := List.mem_map.1 hu
    rfl
  have s3 : Hid (∀ t, t < news.length → (w.drew.cell? ⟨b, off + i * 1 + t, none⟩).isSome = true ∧ w.drew.frozen? ⟨b, off + i * 1 + t, none⟩ = false) := by
    intro t ht
    rw [(heap_cell hhd _).1]
    exact ⟨by rw [Array.getElem?_eq_getElem (by omega)]; rfl, (heap_cell hhd _).2⟩
  obtain ⟨W1, hW1⟩ : ∃ W1, W1 = w.drew.setCells b (off + i * 1) news := ⟨_, rfl⟩
  obtain ⟨cs1, hh1, hz, _⟩ := setCells_heap b news (off + i * 1) w.drew cs ty (0, 0) hhd (by omega)
  rw [← hW1] at hh1
  have hcl : ∀ ty, (Builtin.clear_ #[ρ.t 22] ty #[.slice (some ⟨b, off + (i + (n - j)), none⟩) (n - (i + (n - j))) (cap - (i + (n - j)))]).run P W1 = .ok (.tuple #[]) (W1.setCells b (off + (i + (n - j))) (List.replicate (n - (i + (n - j))) (.int .i64 0))) :=
    fun ty => Lib.run_clear_slice W1 _ _ ty _ t22 v3 rfl rfl b (off + (i + (n - j))) _ _ (by omega) (fun t ht => by rw [(heap_cell hh1 _).1, Array.getElem?_eq_getElem (by omega)]; rfl) (fun t ht => (heap_cell hh1 _).2)
  have hW : Hid (W1 = w.drew.setCells b (off + i * 1) news) := hW1
  rw [← hnews, ← hW1]
  have hic : i ≤ cap := by omega
  have hjc : j ≤ cap := by omega
  clear hW1 hh1 hc hh hhd hnews hlen hz
  go_enter L.f23, Body2.n23_ntmps ρ
  go_wp2_with fail
  go_region_law_o (refine step_append_room rfl (.tmp 22) (.tmp 25) (ρ.t 22) rfl (ρ.t 3) i0 1 t22 hi0 hz1 b off i cap (by simp [Act.eval, Act.put]) A (n - j) (cap - j) news (by simp [Act.eval, Act.put]) s1.out hsrc.out s2.out (by omega) s3.out ?_; rw [← hW.out])
  go_wp2
  go_ret
  exact ⟨rfl, rfl⟩

theorem cell_add {w : World} {a : Addr} {cs : Array Value} {ty : Nat} (hsp : a.spot = none) (hh : w.heap[a.block]? = some (.cells cs ty (0, 0))) (m : Nat) : w.cell? (a.add m) = cs[a.off + m]? := by
  unfold World.cell?
  rw [add_block]
  simp only [hh]
  unfold Addr.add
  split
  · rename_i h; subst h; simp [hsp]
  · simp

def delEnv (E : Env) : Env :=
  { adr := E.adr
    len := E.len
    ow := fun b => if b = (E.adr 0).block then .own 1 [(0, 0)] else E.ow b
    st := fun s => if s = 0 then .dead else E.st s }

def delL (l : List Int) (i j : Int) : List Int := List.take (Int.toNat i) l ++ List.drop (Int.toNat j) l

theorem ct_del (L : Lays2.n23 P ρ) (hE : Ent P (ρ.f 23)) {gl : List (Nat × D)} {l : List Int} {i j : Int} (h0 : (0 : Int) ≤ i) (h1 : i < j) (h2 : j ≤ (l.length : Int)) (hm : (l.length : Int) ≤ 1000000000000) :
    Ct P gl (ρ.f 23) [.ref 0 1 none, I i, I j] [⟨false, false, 1, l.length, List.map I l⟩] [ow 1 I (delL l i j)] [deadR] := by
  obtain ⟨i, rfl⟩ := Int.eq_ofNat_of_zero_le h0
  obtain ⟨j, rfl⟩ := Int.eq_ofNat_of_zero_le (show (0 : Int) ≤ j by omega)
  refine ⟨hE, fun E w vs hgl hvs hargs hroots hfresh => ?_⟩
  have r0 := hroots 0 _ rfl
  have hst : E.st 0 = .own := r0.st
  have hln : E.len 0 = l.length := r0.len
  obtain ⟨v0, v1, v2, rfl⟩ : ∃ v0 v1 v2, vs = #[v0, v1, v2] := by
    rcases vs with ⟨vs⟩
    match vs, hvs with
    | [a, b, c], _ => exact ⟨a, b, c, rfl⟩
  have a0 := hargs 0 _ v0 rfl rfl
  have a1 := hargs 1 _ v1 rfl rfl
  have a2 := hargs 2 _ v2 rfl rfl
  cases a1
  cases a2
  cases a0 with
  | ref m r wd vw v hm' hs h =>
  obtain ⟨A, cap, rfl, hcap, _, hA⟩ := h (.inl hst)
  simp only [Vw, hln] at hcap hA ⊢
  obtain ⟨rfl, hsh⟩ := hA (by omega)
  obtain ⟨hsp, how, cs, ty, hh, hsz⟩ := hsh
  rw [if_pos hst] at how
  have hadd : (E.adr 0).add (0 * 1) = E.adr 0 := by simp [Addr.add]
  rw [hadd]
  have hc : ∀ (t : Nat) x, l[t]? = some x → cs[(E.adr 0).off + t]? = some (.int .i64 x) := fun t x hx => by
    obtain ⟨u, hu, hr⟩ := r0.cell t 0 (I x) (I x) (by rw [List.getElem?_map, hx]; rfl) rfl
    rw [cell_add hsp hh] at hu
    cases hr
    simpa using hu
  have hE0 : E.adr 0 = ⟨(E.adr 0).block, (E.adr 0).off, none⟩ := by
    rcases hA : E.adr 0 with ⟨b, o, sp⟩
    rw [hA] at hsp
    cases hsp
    rfl
  have hd := del_calls (P := P) L (E.adr 0).block (E.adr 0).off l.length cap i j ty cs l w rfl hh (by omega) hc hcap (by omega) (by omega) (by omega)
  rw [← hE0] at hd
  refine Calls.mono hd ?_
  rintro e w' ⟨rfl, rfl⟩
  have hlt := lt_of_get hh
  obtain ⟨cs1, g1, g2, g3⟩ := setCells_heap (E.adr 0).block ((l.drop j).map (Value.int .i64)) ((E.adr 0).off + i * 1) w.drew cs ty (0, 0) hh (by simp; omega)
  obtain ⟨p1, p2, p3, p4, p5⟩ := setCells_same (E.adr 0).block ((l.drop j).map (Value.int .i64)) ((E.adr 0).off + i * 1) w.drew
  generalize w.drew.setCells (E.adr 0).block ((E.adr 0).off + i * 1) ((l.drop j).map (Value.int .i64)) = w1 at g1 p1 p2 p3 p4 p5 ⊢
  obtain ⟨cs2, k1, k2, k3⟩ := setCells_heap (E.adr 0).block (List.replicate (l.length - (i + (l.length - j))) (Value.int .i64 0)) ((E.adr 0).off + (i + (l.length - j))) w1 cs1 ty (0, 0) g1 (by simp; omega)
  obtain ⟨q1, q2, q3, q4, q5⟩ := setCells_same (E.adr 0).block (List.replicate (l.length - (i + (l.length - j))) (Value.int .i64 0)) ((E.adr 0).off + (i + (l.length - j))) w1
  generalize w1.setCells (E.adr 0).block ((E.adr 0).off + (i + (l.length - j))) (List.replicate (l.length - (i + (l.length - j))) (Value.int .i64 0)) = w2 at k1 q1 q2 q3 q4 q5 ⊢
  have hsame : ∀ b, b ≠ (E.adr 0).block → w2.heap[b]? = w.heap[b]? := fun b hb => (q5 b hb).trans (p5 b hb)
  have hll : (delL l i j).length = i + (l.length - j) := by simp [delL]; omega
  have hcell : ∀ (t : Nat) x, (delL l i j)[t]? = some x → cs2[(E.adr 0).off + t]? = some (.int .i64 x) := fun t x hx => by
    have ht : t < i + (l.length - j) := by rw [← hll]; exact (List.getElem?_eq_some_iff.1 hx).1
    rw [k3, if_neg (by omega), g3]
    simp only [delL, Int.toNat_natCast] at hx
    by_cases hti : t < i
    · rw [if_neg (by omega)]
      refine hc t x ?_
      rw [List.getElem?_append_left (by simp; omega), List.getElem?_take_of_lt hti] at hx
      exact hx
    · rw [if_pos (by simp; omega), List.getElem?_map]
      rw [List.getElem?_append_right (by simp; omega)] at hx
      rw [show (E.adr 0).off + t - ((E.adr 0).off + i * 1) = t - (List.take i l).length by simp; omega, hx]
      rfl
  refine ⟨delEnv E, [.slice (some (E.adr 0)) (i + (l.length - j)) cap], rfl, ⟨?_, ?_, ?_, ?_, fun b hb hf => ?_, fun b hb hf => ?_, fun _ _ => rfl, fun b cs0 ty0 h => ?_, fun r hr hst' => ?_⟩, rfl, fun k R hR hdd => ?_, ?_, trivial⟩
  · rw [q1, p1]; exact Nat.le_refl _
  · rw [q2, p2]; rfl
  · rw [q3, p3]; rfl
  · exact ⟨by rw [q4.1, p4.1]; rfl, drw_trans (drw_trans (drw_le (Nat.le_succ _)) p4.2) q4.2⟩
  · have hne : b ≠ (E.adr 0).block := fun e => by rw [e, how] at hf; cases hf
    exact ⟨hsame b hne, by simp [delEnv, hne, hf]⟩
  · have hne : b ≠ (E.adr 0).block := fun e => by rw [e, how] at hf; cases hf
    exact ⟨hsame b hne, by simp [delEnv, hne, hf]⟩
  · by_cases hne : b = (E.adr 0).block
    · subst hne
      rw [hh] at h
      cases h
      exact ⟨cs2, k1, by rw [k2, g2]⟩
    · exact ⟨cs0, by rw [hsame b hne, h], rfl⟩
  · have : r = 0 := by simp at hr; exact hr
    subst this
    simp [delEnv] at hst'
  · have : k = 0 := by
      rcases k with _ | k
      · rfl
      · simp at hR
    subst this
    cases hR
    simp [deadR, Root.dead] at hdd
  · show Rep (delEnv E) w2 (.own 1 [(0, 0)]) (ow 1 I (delL l i j)) _
    have e : ow 1 I (delL l i j) = .list true 1 (i + (l.length - j)) (List.map I (delL l i j)) := by unfold ow; rw [hll]
    rw [e]
    refine .olist _ 1 [(0, 0)] 1 _ _ _ _ (fun t _ => match (delL l i j)[t]? with
      | some y => .int .i64 y
      | none => undef) (.inl rfl) (by rw [List.length_map, hll]) (by omega) (fun x hx => ?_) (fun _ => ⟨E.adr 0, cs2, ty, rfl, hsp, by simp [delEnv], k1, by rw [k2, g2]; omega, fun t c x y hx hy => ?_⟩) (fun t c x y hx hy => ?_)
    · obtain ⟨y, _, rfl⟩ := List.mem_map.1 hx
      rfl
    · rw [List.getElem?_map, Option.map_eq_some_iff] at hx
      obtain ⟨z, hz, rfl⟩ := hx
      have hc0 : c = 0 := by
        rcases c with _ | c
        · rfl
        · simp [D.cells] at hy
      subst hc0
      rw [cell_add hsp k1, Nat.mul_one, Nat.add_zero, hcell t z hz, hz]
    · rw [List.getElem?_map, Option.map_eq_some_iff] at hx
      obtain ⟨z, hz, rfl⟩ := hx
      have hc0 : c = 0 := by
        rcases c with _ | c
        · rfl
        · simp [D.cells] at hy
      subst hc0
      simp [D.cells] at hy
      subst hy
      rw [hz]
      exact .int _ _ _
end Go.Proofs.Ytnfeelacifllmaa.Ab

namespace Go.Proofs.Ytnfeelacifllmaa.Ab
open Go.Shelf Go.RowKit Go.Lib Go.Sort
variable {P : Program} {ρ : Ren} {α : Type}

theorem run_clear_k (w : World) (t e ty : TypeId) (z : Value) (k : Nat) (ht : P.underlying t = some (.slice e)) (hv : ∀ w, (zeroValue e).run P w = .ok z w) (hz : z.cells = Array.replicate k (.int .i64 0)) (b o n c : Nat) (hn : 0 < n)
    (hc : ∀ j, j < n * k → (w.cell? ⟨b, o + j, none⟩).isSome = true) (hf : ∀ j, j < n * k → w.frozen? ⟨b, o + j, none⟩ = false) :
    (Builtin.clear_ #[t] ty #[.slice (some ⟨b, o, none⟩) n c]).run P w = .ok (.tuple #[]) (w.setCells b o (List.replicate (n * k) (.int .i64 0))) := by
  have hzc : (Builtin.zeroCells z.cells n).toList = List.replicate (n * k) (.int .i64 0) := by
    rw [hz]
    apply List.ext_getElem
    · simp [Builtin.zeroCells]
    · intro i h1 h2
      have hi : i < n * k := by simpa using h2
      have hk : 0 < k := Nat.pos_of_ne_zero fun e => by subst e; simp at hi
      simp only [Builtin.zeroCells, Array.toList_map, List.getElem_map, List.getElem_replicate, Array.size_replicate, Array.toList_range, List.getElem_range]
      rw [getElem!_pos _ _ (by simpa using Nat.mod_lt _ hk)]
      simp
  have hst := run_storeCells_cells (P := P) b o (List.replicate (n * k) (.int .i64 0)) 0 w (by simpa using hc) (by simpa using hf) (by intro v hv'; rw [List.eq_of_mem_replicate hv']; rfl)
  simp only [Nat.add_zero] at hst
  obtain ⟨m, rfl⟩ : ∃ m, n = m + 1 := ⟨n - 1, by omega⟩
  simp [Builtin.clear_, run_underlying ht, hv, hzc, hst]

theorem flat_k {α : Type} {g : α → List Value} {k : Nat} (hk : ∀ x, (g x).length = k) : ∀ (l : List α), (l.flatMap g).length = l.length * k ∧ ∀ (t c : Nat) x, l[t]? = some x → c < k → (l.flatMap g)[t * k + c]? = (g x)[c]?
  | [] => ⟨by simp, fun t c x h => by simp at h⟩
  | y :: l => by
    obtain ⟨h1, h2⟩ := flat_k hk l
    refine ⟨by rw [List.flatMap_cons, List.length_append, hk, h1, List.length_cons, Nat.add_mul, Nat.one_mul, Nat.add_comm], fun t c x h hc => ?_⟩
    rw [List.flatMap_cons]
    cases t with
    | zero =>
      simp only [List.getElem?_cons_zero, Option.some.injEq] at h
      subst h
      rw [Nat.zero_mul, Nat.zero_add, List.getElem?_append_left (by rw [hk]; exact hc)]
    | succ t =>
      rw [List.getElem?_append_right (by rw [hk, Nat.add_mul]; omega), hk, show (t + 1) * k + c - k = t * k + c by rw [Nat.add_mul]; omega]
      exact h2 t c x (by simpa using h) hc

theorem div_mod_of_lt {n k m : Nat} (h : m < n * k) : m / k < n ∧ m % k < k ∧ m / k * k + m % k = m := by
  have hk : 0 < k := Nat.pos_of_ne_zero fun e => by subst e; simp at h
  exact ⟨(Nat.div_lt_iff_lt_mul hk).2 h, Nat.mod_lt _ hk, by rw [Nat.mul_comm]; exact Nat.div_add_mod m k⟩

theorem delk_calls (L : SlLaysE0.n45 P ρ) (k : Nat) (zE : ∀ w, (Go.sizeOf (ρ.t 23)).run P w = .ok k w) (z : Value) (v23 : ∀ w, (zeroValue (ρ.t 23)).run P w = .ok z w) (hz : z.cells = Array.replicate k (.int .i64 0)) (i0 : TypeInfo) (hi0 : P.info? (ρ.t 23) = some i0) (hz1 : i0.size = k)
    (g : α → List Value) (hk : ∀ x, (g x).length = k) (h1 : ∀ x, ∀ v ∈ g x, v.oneCell' = true)
    (b off n cap i j ty : Nat) (cs : Array Value) (l : List α) (w : World) (hl : l.length = n) (hh : w.heap[b]? = some (.cells cs ty (0, 0))) (hs : off + n * k ≤ cs.size)
    (hc : ∀ (t c : Nat) x u, l[t]? = some x → (g x)[c]? = some u → cs[off + t * k + c]? = some u) (hcap : n ≤ cap) (hm : n ≤ 9223372036854775807) (hij : i < j) (hj : j ≤ n) :
    Calls P (ρ.f 45) #[.slice (some ⟨b, off, none⟩) n cap, .int .i64 i, .int .i64 j] w fun e w' => e = .returned (.slice (some ⟨b, off, none⟩) (i + (n - j)) cap) ∧
      w' = (w.drew.setCells b (off + i * k) ((l.drop j).flatMap g)).setCells b (off + (i + (n - j)) * k) (List.replicate ((n - (i + (n - j))) * k) (.int .i64 0)) := by
  have mixed := L.mixed; have t0 := L.t0; have a0 := L.a0; have z0 := L.z0; have v0 := L.v0; have t3 := L.t3; have a3 := L.a3; have z3 := L.z3; have v3 := L.v3; have t4 := L.t4; have a4 := L.a4; have z4 := L.z4; have v4 := L.v4; have t22 := L.t22; have a22 := L.a22; have z22 := L.z22; have v22 := L.v22
  have hhd : w.drew.heap[b]? = some (.cells cs ty (0, 0)) := hh
  obtain ⟨news, hnews⟩ : ∃ news, news = (l.drop j).flatMap g := ⟨_, rfl⟩
  have hlen : news.length = (n - j) * k := by rw [hnews, (flat_k hk _).1, List.length_drop, hl]
  have hat : ∀ (t : Nat) u, news[t]? = some u → cs[off + j * k + t]? = some u := fun t u hu => by
    have ht : t < (n - j) * k := by rw [← hlen]; exact (List.getElem?_eq_some_iff.1 hu).1
    obtain ⟨d1, d2, d3⟩ := div_mod_of_lt ht
    have hx := List.getElem?_eq_getElem (show t / k < (l.drop j).length by rw [List.length_drop, hl]; exact d1)
    have := (flat_k hk (l.drop j)).2 _ _ _ hx d2
    rw [d3, ← hnews, hu] at this
    rw [List.getElem?_drop] at hx
    have hcc := hc _ _ _ u hx this.symm
    rw [Nat.add_mul] at hcc
    rw [← d3]
    rw [show off + j * k + (t / k * k + t % k) = off + (j * k + t / k * k) + t % k by omega]
    exact hcc
  obtain ⟨A, hA, hsrc⟩ : ∃ A : Addr, (if cap = j then some (⟨b, off, none⟩ : Addr) else some ⟨b, off + j * k, none⟩) = some A ∧ Hid (∀ (t : Nat) u, news[t]? = some u → w.drew.cell? (A.add t) = some u) := by
    by_cases h : cap = j
    · refine ⟨⟨b, off, none⟩, by simp [h], fun t u hu => ?_⟩
      have h0 : news.length = 0 := by rw [hlen, show n - j = 0 by omega, Nat.zero_mul]
      rw [List.length_eq_zero_iff.1 h0] at hu
      simp at hu
    · refine ⟨⟨b, off + j * k, none⟩, by simp [h], fun t u hu => ?_⟩
      rw [Addr.add_lit, (heap_cell hhd _).1]
      exact hat t u hu
  have bnd : i * k + (n - j) * k ≤ n * k := by rw [← Nat.add_mul]; exact Nat.mul_le_mul_right k (by omega)
  have bnd2 : (i + (n - j)) * k + (n - (i + (n - j))) * k ≤ n * k := by rw [← Nat.add_mul]; exact Nat.mul_le_mul_right k (by omega)
  have s1 : Hid (news.length = (n - j) * k) := hlen
  have s2 : Hid (∀ u ∈ news, u.oneCell' = true) := by
    intro u hu
    rw [hnews] at hu
    obtain ⟨x, _, hx⟩ := List.mem_flatMap.1 hu
    exact h1 x u hx
  have s3 : Hid (∀ t, t < news.length → (w.drew.cell? ⟨b, off + i * k + t, none⟩).isSome = true ∧ w.drew.frozen? ⟨b, off + i * k + t, none⟩ = false) := by
    intro t ht
    rw [(heap_cell hhd _).1]
    exact ⟨by rw [Array.getElem?_eq_getElem (by omega)]; rfl, (heap_cell hhd _).2⟩
  obtain ⟨W1, hW1⟩ : ∃ W1, W1 = w.drew.setCells b (off + i * k) news := ⟨_, rfl⟩
  obtain ⟨cs1, hh1, hz2, _⟩ := setCells_heap b news (off + i * k) w.drew cs ty (0, 0) hhd (by omega)
  rw [← hW1] at hh1
  have hcl : ∀ ty, (Builtin.clear_ #[ρ.t 22] ty #[.slice (some ⟨b, off + (i + (n - j)) * k, none⟩) (n - (i + (n - j))) (cap - (i + (n - j)))]).run P W1 = .ok (.tuple #[]) (W1.setCells b (off + (i + (n - j)) * k) (List.replicate ((n - (i + (n - j))) * k) (.int .i64 0))) :=
    fun ty => run_clear_k W1 _ _ ty _ k t22 v23 hz b (off + (i + (n - j)) * k) _ _ (by omega) (fun t ht => by rw [(heap_cell hh1 _).1, Array.getElem?_eq_getElem (by omega)]; rfl) (fun t ht => (heap_cell hh1 _).2)
  have hW : Hid (W1 = w.drew.setCells b (off + i * k) news) := hW1
  rw [← hnews, ← hW1]
  have hic : i ≤ cap := by omega
  have hjc : j ≤ cap := by omega
  clear hW1 hh1 hc hh hhd hnews hlen hz2 hat bnd bnd2 v23 hz
  obtain ⟨_, _, FG⟩ := L.f45
  go_enter FG, SlBodyN.n45_ntmps ρ
  go_wp2_with fail
  go_region_law_o (refine step_append_room rfl (.tmp 22) (.tmp 25) (ρ.t 22) rfl (ρ.t 23) i0 k t22 hi0 hz1 b off i cap (by simp [Act.eval, Act.put]) A (n - j) (cap - j) news (by simp [Act.eval, Act.put]) s1.out hsrc.out s2.out (by omega) s3.out ?_; rw [← hW.out])
  go_wp2
  go_ret
  exact ⟨rfl, rfl⟩

def delK (l : List α) (i j : Int) : List α := List.take (Int.toNat i) l ++ List.drop (Int.toNat j) l
theorem ct_delk (L : SlLaysE0.n45 P ρ) (hE : Ent P (ρ.f 45)) {k : Nat} {z : Value} (hi : (P.info? (ρ.t 23)).map (fun i => (i.zero, i.size)) = some (some z, k)) (hz : z.cells = Array.replicate k (.int .i64 0)) (hk0 : 0 < k) {f : α → D} {e : α → List Int} (hf : ∀ x, (f x).cells = (e x).map I) (he : ∀ x, (e x).length = k)
    {gl : List (Nat × D)} {l : List α} {i j : Int} (h0 : (0 : Int) ≤ i) (h1 : i < j) (h2 : j ≤ (l.length : Int)) (hm : (l.length : Int) ≤ 1000000000000) :
    Ct P gl (ρ.f 45) [.ref 0 k none, I i, I j] [⟨false, false, k, l.length, List.map f l⟩] [ow k f (delK l i j)] [deadR] := by
  obtain ⟨i, rfl⟩ := Int.eq_ofNat_of_zero_le h0
  obtain ⟨j, rfl⟩ := Int.eq_ofNat_of_zero_le (show (0 : Int) ≤ j by omega)
  obtain ⟨i0, hi0, hi1⟩ := Option.map_eq_some_iff.1 hi
  simp only [Prod.mk.injEq] at hi1
  have zE : ∀ w, (Go.sizeOf (ρ.t 23)).run P w = .ok k w := fun w => by simp [sizeOf, typeInfo, hi0, hi1.2]
  have v23 : ∀ w, (zeroValue (ρ.t 23)).run P w = .ok z w := fun w => by simp [zeroValue, typeInfo, hi0, hi1.1]
  refine ⟨hE, fun E w vs hgl hvs hargs hroots hfresh => ?_⟩
  have r0 := hroots 0 _ rfl
  have hst : E.st 0 = .own := r0.st
  have hln : E.len 0 = l.length := r0.len
  obtain ⟨v0, v1, v2, rfl⟩ : ∃ v0 v1 v2, vs = #[v0, v1, v2] := by
    rcases vs with ⟨vs⟩
    match vs, hvs with
    | [a, b, c], _ => exact ⟨a, b, c, rfl⟩
  have a0 := hargs 0 _ v0 rfl rfl
  have a1 := hargs 1 _ v1 rfl rfl
  have a2 := hargs 2 _ v2 rfl rfl
  cases a1
  cases a2
  cases a0 with
  | ref m r wd vw v hm' hs h =>
  obtain ⟨A, cap, rfl, hcap, _, hA⟩ := h (.inl hst)
  simp only [Vw, hln] at hcap hA ⊢
  obtain ⟨rfl, hsh⟩ := hA (by omega)
  obtain ⟨hsp, how, cs, ty, hh, hsz⟩ := hsh
  rw [if_pos hst] at how
  have hadd : (E.adr 0).add (0 * k) = E.adr 0 := by simp [Addr.add]
  rw [hadd]
  let g : α → List Value := fun x => (e x).map (Value.int .i64)
  have hg : ∀ x, (g x).length = k := fun x => by simp [g, he]
  have hc : ∀ (t c : Nat) x u, l[t]? = some x → (g x)[c]? = some u → cs[(E.adr 0).off + t * k + c]? = some u := fun t c x u hx hu => by
    simp only [g, List.getElem?_map, Option.map_eq_some_iff] at hu
    obtain ⟨n, hn, rfl⟩ := hu
    obtain ⟨u, hu, hr⟩ := r0.cell t c (f x) (I n) (by rw [List.getElem?_map, hx]; rfl) (by rw [hf, List.getElem?_map, hn]; rfl)
    rw [cell_add hsp hh] at hu
    cases hr
    rw [Nat.add_assoc]
    simpa using hu
  have hE0 : E.adr 0 = ⟨(E.adr 0).block, (E.adr 0).off, none⟩ := by
    rcases hA : E.adr 0 with ⟨b, o, sp⟩
    rw [hA] at hsp
    cases hsp
    rfl
  have hs0 : (E.adr 0).off + l.length * k ≤ cs.size := by
    have := Nat.mul_le_mul_right k (show l.length ≤ 0 + cap by omega)
    omega
  have hsz0 : (E.adr 0).off + cap * k ≤ cs.size := by
    rw [Nat.zero_add] at hsz
    exact hsz
  have hd := delk_calls (P := P) L k zE z v23 hz i0 hi0 hi1.2 g hg (fun x v hv => by simp only [g, List.mem_map] at hv; obtain ⟨n, _, rfl⟩ := hv; rfl) (E.adr 0).block (E.adr 0).off l.length cap i j ty cs l w rfl hh hs0 hc hcap (by omega) (by omega) (by omega)
  rw [← hE0] at hd
  refine Calls.mono hd ?_
  rintro _ w' ⟨rfl, rfl⟩
  have hlt := lt_of_get hh
  have hnl : ((l.drop j).flatMap g).length = (l.length - j) * k := by rw [(flat_k hg _).1, List.length_drop]
  have bnd : i * k + (l.length - j) * k ≤ l.length * k := by rw [← Nat.add_mul]; exact Nat.mul_le_mul_right k (by omega)
  have bnd2 : (i + (l.length - j)) * k + (l.length - (i + (l.length - j))) * k ≤ l.length * k := by rw [← Nat.add_mul]; exact Nat.mul_le_mul_right k (by omega)
  obtain ⟨cs1, g1, g2, g3⟩ := setCells_heap (E.adr 0).block ((l.drop j).flatMap g) ((E.adr 0).off + i * k) w.drew cs ty (0, 0) hh (by omega)
  obtain ⟨p1, p2, p3, p4, p5⟩ := setCells_same (E.adr 0).block ((l.drop j).flatMap g) ((E.adr 0).off + i * k) w.drew
  generalize w.drew.setCells (E.adr 0).block ((E.adr 0).off + i * k) ((l.drop j).flatMap g) = w1 at g1 p1 p2 p3 p4 p5 ⊢
  obtain ⟨cs2, k1, k2, k3⟩ := setCells_heap (E.adr 0).block (List.replicate ((l.length - (i + (l.length - j))) * k) (Value.int .i64 0)) ((E.adr 0).off + (i + (l.length - j)) * k) w1 cs1 ty (0, 0) g1 (by simp; omega)
  obtain ⟨q1, q2, q3, q4, q5⟩ := setCells_same (E.adr 0).block (List.replicate ((l.length - (i + (l.length - j))) * k) (Value.int .i64 0)) ((E.adr 0).off + (i + (l.length - j)) * k) w1
  generalize w1.setCells (E.adr 0).block ((E.adr 0).off + (i + (l.length - j)) * k) (List.replicate ((l.length - (i + (l.length - j))) * k) (Value.int .i64 0)) = w2 at k1 q1 q2 q3 q4 q5 ⊢
  have hsame : ∀ b, b ≠ (E.adr 0).block → w2.heap[b]? = w.heap[b]? := fun b hb => (q5 b hb).trans (p5 b hb)
  have hll : (delK l i j).length = i + (l.length - j) := by simp [delK]; omega
  have hcell : ∀ (t c : Nat) x u, (delK l i j)[t]? = some x → (g x)[c]? = some u → cs2[(E.adr 0).off + t * k + c]? = some u := fun t c x u hx hu => by
    have ht : t < i + (l.length - j) := by rw [← hll]; exact (List.getElem?_eq_some_iff.1 hx).1
    have hck : c < k := by rw [← hg x]; exact (List.getElem?_eq_some_iff.1 hu).1
    have b1 : t * k + k ≤ (i + (l.length - j)) * k := by rw [← Nat.succ_mul]; exact Nat.mul_le_mul_right k ht
    rw [k3, if_neg (by omega), g3]
    simp only [delK, Int.toNat_natCast] at hx
    by_cases hti : t < i
    · have b2 : t * k + k ≤ i * k := by rw [← Nat.succ_mul]; exact Nat.mul_le_mul_right k hti
      rw [if_neg (by omega)]
      refine hc t c x u ?_ hu
      rw [List.getElem?_append_left (by simp; omega), List.getElem?_take_of_lt hti] at hx
      exact hx
    · have b3 : i * k + (t - i) * k = t * k := by rw [← Nat.add_mul]; congr 1; omega
      have b4 : (t - i) * k + k ≤ (l.length - j) * k := by rw [← Nat.succ_mul]; exact Nat.mul_le_mul_right k (by omega)
      rw [if_pos (by rw [hnl]; omega)]
      rw [List.getElem?_append_right (by simp; omega)] at hx
      have := (flat_k hg (l.drop j)).2 (t - i) c x (by rw [show t - i = t - (List.take i l).length by simp; omega]; exact hx) hck
      rw [show (E.adr 0).off + t * k + c - ((E.adr 0).off + i * k) = (t - i) * k + c by omega, this]
      exact hu
  refine ⟨delEnv E, [.slice (some (E.adr 0)) (i + (l.length - j)) cap], rfl, ⟨?_, ?_, ?_, ?_, fun b hb hf => ?_, fun b hb hf => ?_, fun _ _ => rfl, fun b cs0 ty0 h => ?_, fun r hr hst' => ?_⟩, rfl, fun k' R hR hdd => ?_, ?_, trivial⟩
  · rw [q1, p1]; exact Nat.le_refl _
  · rw [q2, p2]; rfl
  · rw [q3, p3]; rfl
  · exact ⟨by rw [q4.1, p4.1]; rfl, drw_trans (drw_trans (drw_le (Nat.le_succ _)) p4.2) q4.2⟩
  · have hne : b ≠ (E.adr 0).block := fun e => by rw [e, how] at hf; cases hf
    exact ⟨hsame b hne, by simp [delEnv, hne, hf]⟩
  · have hne : b ≠ (E.adr 0).block := fun e => by rw [e, how] at hf; cases hf
    exact ⟨hsame b hne, by simp [delEnv, hne, hf]⟩
  · by_cases hne : b = (E.adr 0).block
    · subst hne
      rw [hh] at h
      cases h
      exact ⟨cs2, k1, by rw [k2, g2]⟩
    · exact ⟨cs0, by rw [hsame b hne, h], rfl⟩
  · have : r = 0 := by simp at hr; exact hr
    subst this
    simp [delEnv] at hst'
  · have : k' = 0 := by
      rcases k' with _ | k'
      · rfl
      · simp at hR
    subst this
    cases hR
    simp [deadR, Root.dead] at hdd
  · show Rep (delEnv E) w2 (.own 1 [(0, 0)]) (ow k f (delK l i j)) _
    have e0 : ow k f (delK l i j) = .list true k (i + (l.length - j)) (List.map f (delK l i j)) := by unfold ow; rw [hll]
    rw [e0]
    have hcell2 : ∀ (t c : Nat) x y, (List.map f (delK l i j))[t]? = some x → x.cells[c]? = some y → ∃ u n, (delK l i j)[t]? = some u ∧ (e u)[c]? = some n ∧ y = I n := fun t c x y hx hy => by
      rw [List.getElem?_map, Option.map_eq_some_iff] at hx
      obtain ⟨u, hu, rfl⟩ := hx
      rw [hf, List.getElem?_map, Option.map_eq_some_iff] at hy
      obtain ⟨n, hn, rfl⟩ := hy
      exact ⟨u, n, hu, hn, rfl⟩
    refine .olist _ 1 [(0, 0)] k _ _ _ _ (fun t c => match (delK l i j)[t]? with
      | some y => ((g y)[c]?).getD undef
      | none => undef) (.inl rfl) (by rw [List.length_map, hll]) (by omega) (fun x hx => ?_) (fun _ => ⟨E.adr 0, cs2, ty, rfl, hsp, by simp [delEnv], k1, by rw [k2, g2]; exact hsz0, fun t c x y hx hy => ?_⟩) (fun t c x y hx hy => ?_)
    · obtain ⟨y, _, rfl⟩ := List.mem_map.1 hx
      rw [hf, List.length_map, he]
    · obtain ⟨u, n, h1, h2, rfl⟩ := hcell2 t c x y hx hy
      have hu : (g u)[c]? = some (.int .i64 n) := by simp only [g, List.getElem?_map, h2]; rfl
      rw [cell_add hsp k1, ← Nat.add_assoc, hcell t c u _ h1 hu]
      simp only [h1, hu, Option.getD_some]
    · obtain ⟨u, n, h1, h2, rfl⟩ := hcell2 t c x y hx hy
      have hu : (g u)[c]? = some (.int .i64 n) := by simp only [g, List.getElem?_map, h2]; rfl
      simp only [h1, hu, Option.getD_some]
      exact .int _ _ _
end Go.Proofs.Ytnfeelacifllmaa.Ab
