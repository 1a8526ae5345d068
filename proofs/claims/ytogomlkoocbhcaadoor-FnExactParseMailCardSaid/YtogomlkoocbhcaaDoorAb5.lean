/- The steps of functions on plain data, part 5: no condition. -/
import Derived.Test.YtogomlkoocbhcaaDoorAb4
import Derived.ChangeArms
import Derived.ChangeShapes
import Derived.ChangeOld
import Derived.DataReads
import Derived.WalkKit
import Derived.ProofKit
import Derived.OpenShut
import Derived.ShutString
import Derived.SizedLaws
import Derived.Carry
import Derived.Handed
import Derived.LaidHandle
import Derived.LaidMore
import Derived.LaidSub
import Derived.ChangeVars
import Derived.Sort.Grow
import Derived.Lib.LaidTab
import Derived.Deep.Draws
import Derived.Shelf.Strconv.Itoa3
import Derived.Shelf.Strings.OnBuilder
import Derived.Shelf.Strings.SplitShaped
set_option linter.unusedVariables false
set_option linter.unusedSimpArgs false
open Go.RowKit
namespace Go.Proofs.YtogomlkoocbhcaaDoor.Ab

def E0 : Env := ⟨fun _ => ⟨0, 0, none⟩, fun _ => 0, fun _ => .fz, fun _ => .fresh⟩

def Seg (w : World) (ds : List D) (cs : List Value) : Prop := ds.length = cs.length ∧ ∀ (j : Nat) c u, ds[j]? = some c → cs[j]? = some u → Rep E0 w .fz c u

theorem Seg.nil {w : World} {cs : List Value} (h : cs = []) : Seg w [] cs := ⟨by simp [h], fun j c u h => by simp at h⟩

theorem Seg.cons {w : World} {ds ds' : List D} {cs : List Value} {off sz : Nat} (h : Seg w ds ((cs.drop off).take sz)) (h' : Seg w ds' (cs.drop (off + sz))) : Seg w (ds ++ ds') (cs.drop off) := by
 have e : cs.drop off = (cs.drop off).take sz ++ cs.drop (off + sz) := by
  rw [← List.drop_drop, List.take_append_drop]
 rw [e]
 refine ⟨by simp only [List.length_append, h.1, h'.1], fun j c u hc hu => ?_⟩
 by_cases hj : j < ds.length
 ·rw [List.getElem?_append_left hj] at hc
  rw [List.getElem?_append_left (by rw [← h.1]; exact hj)] at hu
  exact h.2 j c u hc hu
 ·rw [List.getElem?_append_right (by omega)] at hc
  rw [List.getElem?_append_right (by rw [← h.1]; omega), ← h.1] at hu
  exact h'.2 _ c u hc hu

def Opn (P : Program) (t : TypeId) {α : Type} (f : α → D) (G : α → Prop) : Prop :=
 ∀ {H : Type} (enc : TypeId × Value → H) (w : World) (base : Nat) (spare : Nat → Bool) (held : Bool) (fuel : Nat) (cs : List Value) (x : DataW H × List MemPlace), DataW.trod enc P w base spare held fuel t cs = some x → ∃ a, G a ∧ Seg w (f a).cells cs

section
variable {P : Program} {t : TypeId}

theorem Opn.int {k : IntKind} (ht : P.underlying t = some (.int k)) : Opn P t (D.int k) fun n => (Lit.int k n).wf = true := by
 intro H enc w base spare held fuel cs x h
 obtain ⟨n, rfl, _, hw⟩ := DataW.trod_int ht h
 exact ⟨n, hw, rfl, fun j c u hc hu => by cases j <;> simp [D.cells] at hc hu; subst hc hu; exact .int _ _ _⟩

theorem Opn.bool (ht : P.underlying t = some .bool) : Opn P t D.bool fun _ => True := by
 intro H enc w base spare held fuel cs x h
 obtain ⟨n, rfl, _⟩ := DataW.trod_bool ht h
 exact ⟨n, trivial, rfl, fun j c u hc hu => by cases j <;> simp [D.cells] at hc hu; subst hc hu; exact .bool _ _⟩

theorem Opn.str (ht : P.underlying t = some .string) : Opn P t D.str fun s => s.size ≤ maxLen := by
 intro H enc w base spare held fuel cs x h
 obtain ⟨n, rfl, _, hw⟩ := DataW.trod_string ht h
 exact ⟨n, hw, rfl, fun j c u hc hu => by cases j <;> simp [D.cells] at hc hu; subst hc hu; exact .str _ _⟩

theorem pick_fun {α : Type} (Q : Nat → α → Prop) : ∀ n : Nat, (∀ i, i < n → ∃ a, Q i a) → ∃ l : List α, l.length = n ∧ ∀ (i : Nat) a, l[i]? = some a → Q i a
 | 0, _ => ⟨[], rfl, fun i a h => by simp at h⟩
 | n + 1, h => by
  obtain ⟨l, hl, hq⟩ := pick_fun Q n fun i hi => h i (by omega)
  obtain ⟨a, ha⟩ := h n (by omega)
  refine ⟨l ++ [a], by simp [hl], fun i b hb => ?_⟩
  by_cases hi : i < l.length
  ·rw [List.getElem?_append_left hi] at hb
   exact hq i b hb
  ·rw [List.getElem?_append_right (by omega)] at hb
   have : i - l.length = 0 := by
    have := (List.getElem?_eq_some_iff.1 hb).1
    simp at this
    omega
   rw [this] at hb
   simp at hb
   subst hb
   rw [show i = n by omega]
   exact ha

theorem Opn.slice {α : Type} {f : α → D} {G : α → Prop} {e : TypeId} {wd : Nat} (ht : P.underlying t = some (.slice e)) (hw : P.cellsOf e = wd) (h0 : 0 < wd) (hf : ∀ a, (f a).cells.length = wd) (h : Opn P e f G) :
  Opn P t (sl wd f) fun l => (∀ x ∈ l, G x) ∧ l.length ≤ maxLen := by
 intro H enc w base spare held fuel cs x hx
 rcases DataW.trod_slice ht hx with ⟨rfl, _⟩ | ⟨a, len, cap, elems, rest, n, _, rfl, _, hb, hl, hm, hlen, hel, _⟩
 ·refine ⟨[], ⟨by simp, by simp⟩, rfl, fun j c u hc hu => ?_⟩
  cases j <;> simp [D.cells, sl] at hc hu
  subst hc hu
  exact .flist _ _ _ _ _ _ _ (fun _ _ => undef) (.inr (.inl rfl)) rfl (Nat.le_refl _) (by simp) (fun h => by omega) (fun i j x c h => by simp at h)
 ·obtain ⟨l, hll, hq⟩ := pick_fun (fun i y => G y ∧ ∃ cs', w.cells? base (a.add (i * wd)) wd = some cs' ∧ Seg w (f y).cells cs') len fun i hi => by
   have h1 := hel i hi
   rw [List.getElem?_eq_getElem (by omega), hw, Option.bind_eq_some_iff] at h1
   obtain ⟨cs', hc, ht'⟩ := h1
   obtain ⟨y, hy, hs⟩ := h enc w base spare held n cs' _ ht'
   exact ⟨y, hy, cs', hc, hs⟩
  have hcell : ∀ (i j : Nat) y c, l[i]? = some y → (f y).cells[j]? = some c → ∃ u, w.cell? (a.add (i * wd + j)) = some u ∧ Rep E0 w .fz c u := fun i j y c hy hc => by
   obtain ⟨_, cs', hcs, hs⟩ := hq i y hy
   obtain ⟨_, hl', hcc⟩ := World.cells?_some hcs
   have hj : j < cs'.length := by rw [← hs.1]; exact (List.getElem?_eq_some_iff.1 hc).1
   have h2 := hcc j (by omega)
   rw [List.getElem?_eq_getElem hj] at h2
   rw [add_add] at h2
   exact ⟨_, h2, hs.2 j c _ hc (List.getElem?_eq_getElem hj)⟩
  refine ⟨l, ⟨fun y hy => ?_, by omega⟩, rfl, fun j c u hc hu => ?_⟩
  ·obtain ⟨i, hi⟩ := List.getElem?_of_mem hy
   exact (hq i y hi).1
  ·cases j <;> simp [D.cells, sl] at hc hu
   subst hc hu
   have key : ∀ (i j : Nat) x c, (List.map f l)[i]? = some x → x.cells[j]? = some c → w.cell? (a.add (i * wd + j)) = some ((w.cell? (a.add (i * wd + j))).getD undef) ∧ Rep E0 w .fz c ((w.cell? (a.add (i * wd + j))).getD undef) := fun i j x c hx hj => by
    rw [List.getElem?_map, Option.map_eq_some_iff] at hx
    obtain ⟨y, hy, rfl⟩ := hx
    obtain ⟨u, hu, hr⟩ := hcell i j y c hy hj
    rw [hu]
    exact ⟨rfl, hr⟩
   rw [hll]
   refine .flist _ _ _ _ _ _ _ (fun i j => (w.cell? (a.add (i * wd + j))).getD undef) (.inr (.inl rfl)) (by simp [hll]) hl (fun x hx => ?_) (fun hpos => ⟨a, rfl, rfl, ?_, fun i j x c hx hj => (key i j x c hx hj).1⟩) (fun i j x c hx hj => (key i j x c hx hj).2)
   ·obtain ⟨y, _, rfl⟩ := List.mem_map.1 hx
    exact hf y
   ·obtain ⟨_, cs', hcs, _⟩ := hq 0 _ (List.getElem?_eq_getElem (by omega))
    have := World.cells?_block hcs h0
    rwa [add_block] at this

theorem Opn.field {α : Type} {f : α → D} {G : α → Prop} (O : Opn P t f G) {H : Type} {enc : TypeId × Value → H} {w : World} {base : Nat} {spare : Nat → Bool} {held : Bool} {n : Nat} {fs : Array Field} {cs : List Value} {xs : List (DataW H × List MemPlace)}
  (hx : xs.length = fs.size) (hf : ∀ (i : Nat) (fd : Field), fs[i]? = some fd → DataW.trod enc P w base spare held n fd.type ((cs.drop fd.offset).take (P.cellsOf fd.type)) = xs[i]?) (i : Nat) {fd : Field} (hi : fs[i]? = some fd) (ht : fd.type = t) {off sz : Nat} (ho : fd.offset = off) (hs : P.cellsOf t = sz) :
  ∃ a, G a ∧ Seg w (f a).cells ((cs.drop off).take sz) := by
 have h1 := hf i fd hi
 have hlt : i < xs.length := by rw [hx]; exact (Array.getElem?_eq_some_iff.1 hi).1
 rw [List.getElem?_eq_getElem hlt, ht, ho, hs] at h1
 exact O enc w base spare held n _ _ h1

end

theorem post_below {w w' : World} {res : List D} {e : Ending} (h : Post E0 w [] res [] e w') : Below w.heap.size w w' := by
 obtain ⟨E', us, _, hF, _⟩ := h
 exact ⟨hF.os, hF.tape, hF.output.1, hF.sz, fun k hk => (hF.fz k hk rfl).1⟩

theorem post_true {w w' : World} {e : Ending} (h : Post E0 w [] [.bool true] [] e w') : e = .returned (.bool true) := by
 obtain ⟨E', us, he, _, _, _, hR⟩ := h
 match us, hR with
 | [u], hR =>
  obtain ⟨h1, _⟩ := hR
  have : u = .bool true := Rep.bool_inv h1
  rw [he, this]
  rfl

theorem law_walk {P : Program} {gl : List (Nat × D)} {f : FuncId} {args : List D} (h : Ct P gl f args [] [.bool true] []) {w : World} {vs : Array Value} (hg : GlOK gl E0 w) (hn : vs.size = args.length) (hr : ∀ (i : Nat) d v, args[i]? = some d → vs[i]? = some v → Rep E0 w .slot d v) :
  Calls P f vs w fun e w' => e = .returned (.bool true) ∧ Below w.heap.size w w' :=
 (h.2 E0 w vs hg hn hr (fun k R hk => by simp at hk) (fun k _ => rfl)).mono fun e w' hp => ⟨post_true hp, post_below hp⟩

end Go.Proofs.YtogomlkoocbhcaaDoor.Ab

open Go.RowKit Go.ChangeShapes Go.WideShapes
namespace Go.Proofs.YtogomlkoocbhcaaDoor.Ab

theorem Rep.fz_slot {E : Env} {w : World} {d : D} {v : Value} (h : Rep E w .fz d v) : Rep E w .slot d v := by
 generalize hm : Md.fz = m at h
 cases h with
 | int m k n => exact .int _ _ _
 | bool m b => exact .bool _ _
 | ifc m b v hv => exact .ifc _ _ _ hv
 | str m s => exact .str _ _
 | nil m => exact .nil _
 | undef m v hm' => exact .undef _ _ (.inl rfl)
 | hid m v h1 h2 hm' => exact .hid _ _ h1 h2 (.inl rfl)
 | anyb b => cases hm
 | fn => cases hm
 | agg => cases hm
 | tup => cases hm
 | flist m o wd n xs A cap us hm' hn hc hw ha h => exact .flist _ _ _ _ _ _ _ us (.inl rfl) hn hc hw ha h
 | olist m r p wd n xs A cap us hm' => subst hm; rcases hm' with h | h <;> cases h
 | ref m r wd vw v hm' hs h => exact .ref _ _ _ _ _ (.inl rfl) hs h
 | ptr m r wd i j v hm' hs h => exact .ptr _ _ _ _ _ _ (.inl rfl) hs h
 | fptr m wd xs i j a us hm' hw ha h => exact .fptr _ _ _ _ _ _ us (.inl rfl) hw ha h

def OpnV (P : Program) (t : TypeId) (Q : D → Prop) : Prop :=
 ∀ {H : Type} (enc : TypeId × Value → H) (w : World) (base b0 : Nat) (spare : Nat → Bool) (held : Bool) (v : Value) (d : DataW H) (ps : List MemPlace),
  Value.okWide P w .any b0 t v → DataW.Trod enc P w base spare held t v d ps → ∃ x, Q x ∧ Rep E0 w .slot x v

theorem Opn.one {P : Program} {t : TypeId} {α : Type} {f : α → D} {G : α → Prop} (O : Opn P t f G) (hv : ∀ {w : World} {b0 : Nat} {v : Value}, Value.okWide P w .any b0 t v → v.cells.toList = [v]) (hf : ∀ a, (f a).cells = [f a]) : OpnV P t fun d => ∃ a, d = f a ∧ G a := by
 intro H enc w base b0 spare held v d ps hw ⟨fuel, h⟩
 obtain ⟨a, hG, _, hs⟩ := O enc w base spare held fuel _ _ h
 refine ⟨f a, ⟨a, rfl, hG⟩, Rep.fz_slot (hs 0 _ _ (by rw [hf]; rfl) (by rw [hv hw]; rfl))⟩

theorem Opn.agg {P : Program} {t : TypeId} {α : Type} {f : α → D} {G : α → Prop} (O : Opn P t f G) {fs : Array Field} (ht : P.underlying t = some (.struct fs)) (hf : ∀ a, f a = .agg (f a).cells) : OpnV P t fun d => ∃ a, d = f a ∧ G a := by
 intro H enc w base b0 spare held v d ps hw ⟨fuel, h⟩
 obtain ⟨a, hG, hl, hs⟩ := O enc w base spare held fuel _ _ h
 obtain ⟨cs, rfl, _⟩ := okWide_struct ht hw
 refine ⟨f a, ⟨a, rfl, hG⟩, ?_⟩
 rw [hf a]
 refine .agg _ _ (by simpa [Value.cells] using hl) fun i c u hc hu => Rep.fz_slot (hs i c u hc ?_)
 simpa [Value.cells] using hu

theorem OpnV.int {P : Program} {t : TypeId} {k : IntKind} (ht : P.underlying t = some (.int k)) : OpnV P t fun d => ∃ n, d = .int k n ∧ (Lit.int k n).wf = true :=
 Opn.one (Opn.int ht) (fun hw => by obtain ⟨n, rfl⟩ := okWide_int ht hw; rfl) fun _ => rfl
theorem OpnV.bool {P : Program} {t : TypeId} (ht : P.underlying t = some .bool) : OpnV P t fun d => ∃ n, d = .bool n ∧ True :=
 Opn.one (Opn.bool ht) (fun hw => by obtain ⟨n, rfl⟩ := okWide_bool ht hw; rfl) fun _ => rfl
theorem OpnV.str {P : Program} {t : TypeId} (ht : P.underlying t = some .string) : OpnV P t fun d => ∃ s, d = .str s ∧ s.size ≤ maxLen :=
 Opn.one (Opn.str ht) (fun hw => by obtain ⟨n, rfl⟩ := okWide_string ht hw; rfl) fun _ => rfl
theorem OpnV.slice {P : Program} {t : TypeId} {α : Type} {f : α → D} {G : α → Prop} {e : TypeId} {wd : Nat} (ht : P.underlying t = some (.slice e)) (hw : P.cellsOf e = wd) (h0 : 0 < wd) (hf : ∀ a, (f a).cells.length = wd) (h : Opn P e f G) :
  OpnV P t fun d => ∃ l, d = sl wd f l ∧ (∀ x ∈ l, G x) ∧ l.length ≤ maxLen :=
 Opn.one (Opn.slice ht hw h0 hf h) (fun hw => by obtain ⟨a, n, c, rfl⟩ := okWide_slice ht hw; rfl) fun _ => rfl

theorem Opn.strct {P : Program} {t : TypeId} {α : Type} {f : α → D} {G : α → Prop} {fs : Array Field} (ht : P.underlying t = some (.struct fs))
  (h : ∀ {H : Type} (enc : TypeId × Value → H) (w : World) (base : Nat) (spare : Nat → Bool) (held : Bool) (n : Nat) (cs : List Value) (xs : List (DataW H × List MemPlace)), cs.length = P.cellsOf t → xs.length = fs.size →
   (∀ (i : Nat) (fd : Field), fs[i]? = some fd → DataW.trod enc P w base spare held n fd.type ((cs.drop fd.offset).take (P.cellsOf fd.type)) = xs[i]?) → ∃ a, G a ∧ Seg w (f a).cells cs) : Opn P t f G := by
 intro H enc w base spare held fuel cs x hx
 obtain ⟨xs, n, _, rfl, hl, hxs, hf⟩ := DataW.trod_struct ht hx
 exact h enc w base spare held n cs xs hl hxs hf

def fieldsOf (P : Program) (t : TypeId) : Array Field := match P.underlying t with
 | some (.struct fs) => fs
 | _ => #[]
def isStrct (P : Program) (t : TypeId) : Bool := match P.underlying t with
 | some (.struct _) => true
 | _ => false
theorem isStrct_ok {P : Program} {t : TypeId} (h : isStrct P t = true) : P.underlying t = some (.struct (fieldsOf P t)) := by
 unfold isStrct at h
 unfold fieldsOf
 split at h
 ·rename_i fs hu; rw [hu]
 ·cases h
def fieldAt (P : Program) (t : TypeId) (i : Nat) : Option (TypeId × Nat × Nat) := match (fieldsOf P t)[i]? with
 | some fd => some (fd.type, fd.offset, P.cellsOf fd.type)
 | none => none
theorem Opn.fieldAt {P : Program} {t ft : TypeId} {α : Type} {f : α → D} {G : α → Prop} (O : Opn P ft f G) {H : Type} {enc : TypeId × Value → H} {w : World} {base : Nat} {spare : Nat → Bool} {held : Bool} {n : Nat} {cs : List Value} {xs : List (DataW H × List MemPlace)}
  (hx : xs.length = (fieldsOf P t).size) (hf : ∀ (i : Nat) (fd : Field), (fieldsOf P t)[i]? = some fd → DataW.trod enc P w base spare held n fd.type ((cs.drop fd.offset).take (P.cellsOf fd.type)) = xs[i]?) (i : Nat) {off sz : Nat} (h : fieldAt P t i = some (ft, off, sz)) :
  ∃ a, G a ∧ Seg w (f a).cells ((cs.drop off).take sz) := by
 unfold Ab.fieldAt at h
 split at h
 ·rename_i fd hfd
  simp only [Option.some.injEq, Prod.mk.injEq] at h
  obtain ⟨h1, h2, h3⟩ := h
  exact Opn.field O hx hf i hfd h1 h2 (by rw [← h1]; exact h3)
 ·cases h

inductive OpnL (P : Program) : List TypeId → (List D → Prop) → Prop
 | nil : OpnL P [] fun ds => ds = []
 | cons {t : TypeId} {ts : List TypeId} {Q : D → Prop} {R : List D → Prop} (h : OpnV P t Q) (hr : OpnL P ts R) : OpnL P (t :: ts) fun ds => ∃ d r, ds = d :: r ∧ Q d ∧ R r

theorem OpnL.get {P : Program} {ts : List TypeId} {R : List D → Prop} (h : OpnL P ts R) {H : Type} {enc : TypeId × Value → H} {w : World} {b0 : Nat} : ∀ {vs : List Value} {ds : List (DataW H)} {ps : List MemPlace},
  (∀ (j : Nat) t v, ts[j]? = some t → vs[j]? = some v → Value.okWide P w .any b0 t v) → DataW.TrodAll enc P w 0 (fun _ => true) true ts vs ds ps → ∃ xs, R xs ∧ vs.length = xs.length ∧ ∀ (i : Nat) d v, xs[i]? = some d → vs[i]? = some v → Rep E0 w .slot d v := by
 induction h with
 | nil =>
  intro vs ds ps _ hA
  obtain ⟨rfl, rfl, rfl⟩ := trodAll_nil hA
  exact ⟨[], rfl, rfl, fun i d v h => by simp at h⟩
 | cons hv hr ih =>
  intro vs ds ps hok hA
  obtain ⟨v, vs', d, ds', p, q, rfl, rfl, rfl, h1, h2⟩ := trodAll_cons hA
  obtain ⟨x, hQ, hx⟩ := hv enc w 0 b0 _ true v d p (hok 0 _ _ rfl rfl) h1
  obtain ⟨xs, hR, hl, hxs⟩ := ih (fun j t v ht hv => hok (j + 1) t v (by simpa using ht) (by simpa using hv)) h2
  refine ⟨x :: xs, ⟨_, _, rfl, hQ, hR⟩, by simp [hl], fun i d v hd hv => ?_⟩
  cases i with
  | zero => simp at hd hv; subst hd hv; exact hx
  | succ i => exact hxs i d v (by simpa using hd) (by simpa using hv)

theorem trodAll_below {H : Type} {enc : TypeId × Value → H} {P : Program} (hl : laidOutB P = true) {W W' : World} (hb : Below W.heap.size W W') : ∀ {ts : List TypeId} {vs : List Value} {ds : List (DataW H)} {ps : List MemPlace},
  ts.all (fun t => P.readableRec t && decide (t < P.types.size)) = true → DataW.TrodAll enc P W 0 (fun _ => true) true ts vs ds ps → DataW.TrodAll enc P W' 0 (fun b => decide (b < W.heap.size)) true ts vs ds ps
 | [], vs, ds, ps, _, h => by
  obtain ⟨rfl, rfl, rfl⟩ := trodAll_nil h
  exact trodAll_mk0
 | t :: ts, vs, ds, ps, ha, h => by
  obtain ⟨v, vs', d, ds', p, q, rfl, rfl, rfl, h1, h2⟩ := trodAll_cons h
  simp only [List.all_cons, Bool.and_eq_true, decide_eq_true_eq] at ha
  have hlt : ∀ x ∈ p, x.block < W.heap.size := by
   obtain ⟨m, hm⟩ := h1
   exact DataW.trod_lt m _ _ _ hm
  exact ⟨_, _, Below.trod hl ha.1.1 ha.1.2 h1 hb hlt, trodAll_below hl hb ha.2 h2, rfl⟩

theorem law_returns {C : Checked} {os : Os} {f : FuncId} {fn : Func} {s : ChangeSpec} {conds : List PathCond} {Q : List D → Prop} {rt : TypeId} {H : Type} {enc : TypeId × Value → H}
  (own : ownKnob C.prog.godebug = none) (started : os.Started) (noInit : C.prog.inits.idxOf? f = none) (hfn : C.prog.funcs[f]? = some fn)
  (witness : ∃ (w : World) (tape : Tape) (i : Input), w.os = os ∧ (w.forCall tape i).Shaped C.prog ∧ i.vars = [] ∧ Input.okWide C.prog (w.forCall tape i) .any w.heap.size f i ∧
   s.pre6 enc C.prog fn conds false (w.forCall tape i).memory i.args ∧ ({} : Assume).holds C.prog (lone (Frame.enter C.prog f i.args .normal) [] (w.forCall tape i)))
  (laid : laidOutB C.prog = true) (hread : fn.params.toList.all (fun t => C.prog.readableRec t && decide (t < C.prog.types.size)) = true)
  (hres : fn.resultTypes = #[rt]) (hrt : C.prog.underlying rt = some .bool) (hvars : s.vars = [])
  (hspec : ∀ ds : List (DataW H), ds.length = fn.params.size → s.fn H ds = { results := [.lit (.bool true)], args := ds })
  (O : OpnL C.prog fn.params.toList Q) (law : ∀ xs, Q xs → Ct C.prog [] f xs [] [.bool true] []) :
  ReturnsInHanded {} C os f .any (s.pre6 enc C.prog fn conds false) (s.post enc C.prog fn false true false false) := by
 refine returnsInHanded_of_change_sized own started noInit hfn witness ?_
 intro W base args ds gs before hval hW hcnd hsz _
 have hW' := hW
 obtain ⟨p, q, hA, hV, rfl, hfz, hnd⟩ := hW
 rw [hvars] at hV
 obtain ⟨rfl, rfl⟩ := trodVars_none hV
 obtain ⟨xs, hQ, hl, hxs⟩ := O.get (fun j t v ht hv => hval j t v (by simpa using ht) (by simpa using hv)) hA
 have hlen : ds.length = fn.params.size := by
  have key : ∀ {ts : List TypeId} {vs : List Value} {ds : List (DataW H)} {ps : List MemPlace}, DataW.TrodAll enc C.prog W 0 (fun _ => true) true ts vs ds ps → ds.length = ts.length := by
   intro ts
   induction ts with
   | nil => intro vs ds ps h; obtain ⟨rfl, rfl, rfl⟩ := trodAll_nil h; rfl
   | cons t ts ih => intro vs ds ps h; obtain ⟨v, vs', d, ds', p, q, rfl, rfl, rfl, h1, h2⟩ := trodAll_cons h; simp [ih h2]
  simpa using key hA
 refine (law_walk (law xs hQ) (w := W) (vs := args) (fun x h => by cases h) (by simpa using hl) (fun i d v hd hv => hxs i d v hd (by simpa using hv))).mono fun e W' ⟨he, bel⟩ => ?_
 subst he
 have hb := trodAll_below laid bel hread hA
 refine ⟨_, rfl, ds, [], _, [], p, [], hW', ?_, ?_, ?_, bel.frame _, fun h => by cases h⟩
 ·rw [hspec _ (by simpa using hlen), hres]
  exact trodAll_mk1 (shut_bool hrt _)
 ·rw [hspec _ (by simpa using hlen)]
  simpa using hb
 ·rw [hspec _ (by simpa using hlen), hvars]
  rfl

theorem u8_wf {n : Int} (h : (Lit.int .u8 n).wf = true) : 0 ≤ n ∧ n < 256 := by
 simp [Lit.wf, IntKind.min, IntKind.max, IntKind.signed, IntKind.bits] at h
 omega
theorem i64_wf {n : Int} (h : (Lit.int .i64 n).wf = true) : -9223372036854775808 ≤ n ∧ n ≤ 9223372036854775807 := by
 simp [Lit.wf, IntKind.min, IntKind.max, IntKind.signed, IntKind.bits] at h
 omega

end Go.Proofs.YtogomlkoocbhcaaDoor.Ab

open Go Go.RowKit Go.ChangeShapes Go.WideShapes
namespace Go.Proofs.YtogomlkoocbhcaaDoor.Ab

def layAll (f : TypeId → DataW Unit → Option (List Value)) : List (TypeId × DataW Unit) → Option (List (List Value))
 | [] => some []
 | (t, d) :: r => match f t d, layAll f r with
  | some v, some vs => some (v :: vs)
  | _, _ => none
def offsOk (P : Program) : Nat → List Field → List (List Value) → Bool
 | _, [], [] => true
 | o, f :: fs, v :: vs => Nat.beq f.offset o && Nat.beq (P.cellsOf f.type) v.length && offsOk P (o + v.length) fs vs
 | _, _, _ => false
def layOf (P : Program) : Nat → TypeId → DataW Unit → Option (List Value)
 | 0, _, _ => none
 | n + 1, t, d => match P.underlying t with
  | some (.int k) => (match d with
   | .lit (.int k' m) => if k = k' then some [.int k m] else none
   | _ => none)
  | some .string => (match d with
   | .lit (.string b) => some [.string ⟨b.toArray⟩]
   | _ => none)
  | some (.struct fs) => (match d with
   | .agg ds => match layAll (layOf P n) ((fs.toList.map (·.type)).zip ds) with
    | some vss => if Nat.beq fs.size ds.length && offsOk P 0 fs.toList vss && Nat.beq (P.cellsOf t) vss.flatten.length then some vss.flatten else none
    | none => none
   | _ => none)
  | some (.array m e) => (match d with
   | .agg ds => match layAll (layOf P n) (ds.map fun x => (e, x)) with
    | some vss => if Nat.beq m ds.length && vss.all (fun v => Nat.beq v.length (P.cellsOf e)) && Nat.beq (P.cellsOf t) vss.flatten.length then some vss.flatten else none
    | none => none
   | _ => none)
  | _ => none

theorem layAll_get {f : TypeId → DataW Unit → Option (List Value)} : ∀ {l : List (TypeId × DataW Unit)} {vss : List (List Value)}, layAll f l = some vss → vss.length = l.length ∧ ∀ (i : Nat) t d, l[i]? = some (t, d) → ∃ v, vss[i]? = some v ∧ f t d = some v
 | [], vss, h => by
  simp only [layAll, Option.some.injEq] at h
  subst h
  exact ⟨rfl, fun i t d h => by simp at h⟩
 | (t, d) :: r, vss, h => by
  unfold layAll at h
  split at h
  ·rename_i v vs hv hvs
   simp only [Option.some.injEq] at h
   subst h
   obtain ⟨h1, h2⟩ := layAll_get hvs
   refine ⟨by simp [h1], fun i t' d' hi => ?_⟩
   cases i with
   | zero => simp at hi; obtain ⟨rfl, rfl⟩ := hi; exact ⟨v, rfl, hv⟩
   | succ i => exact h2 i t' d' (by simpa using hi)
  ·cases h

theorem pieces : ∀ (vss : List (List Value)) (cs : List Value), cs.length = vss.flatten.length → (∀ (i : Nat) v, vss[i]? = some v → (cs.drop (vss.take i).flatten.length).take v.length = v) → cs = vss.flatten
 | [], cs, h, _ => by simpa using h
 | v :: r, cs, h, hp => by
  have h0 := hp 0 v rfl
  simp only [List.take_zero, List.flatten_nil, List.length_nil, List.drop_zero] at h0
  have hr := pieces r (cs.drop v.length) (by simp only [List.flatten_cons, List.length_append] at h; rw [List.length_drop]; omega) (fun i u hi => by
   have := hp (i + 1) u (by simpa using hi)
   rw [List.take_succ_cons, List.flatten_cons, List.length_append, ← List.drop_drop] at this
   exact this)
  rw [List.flatten_cons, ← hr]
  exact (List.take_append_drop v.length cs).symm.trans (by rw [h0])

theorem offsOk_get {P : Program} : ∀ {fs : List Field} {vss : List (List Value)} {o : Nat}, offsOk P o fs vss = true → ∀ (i : Nat) f v, fs[i]? = some f → vss[i]? = some v → f.offset = o + (vss.take i).flatten.length ∧ P.cellsOf f.type = v.length
 | [], [], o, _ => fun i f v h => by simp at h
 | [], _ :: _, o, h => by simp [offsOk] at h
 | _ :: _, [], o, h => by simp [offsOk] at h
 | f :: fs, v :: vs, o, h => fun i f' v' hf hv => by
  simp only [offsOk, Bool.and_eq_true, Nat.beq_eq] at h
  cases i with
  | zero =>
   simp at hf hv
   subst hf hv
   simp [h.1.1, h.1.2]
  | succ i =>
   have := offsOk_get h.2 i f' v' (by simpa using hf) (by simpa using hv)
   simp only [List.take_succ_cons, List.flatten_cons, List.length_append]
   omega

section
variable {P : Program} {w : World} {base : Nat} {spare : Nat → Bool} {held : Bool}
theorem lay_ok : ∀ (n : Nat) {t : TypeId} {d : DataW Unit} {vs cs : List Value} {fuel : Nat} {p : List MemPlace},
  layOf P n t d = some vs → DataW.trod (fun _ => ()) P w base spare held fuel t cs = some (d, p) → cs = vs
 | 0, t, d, vs, cs, fuel, p, h, _ => by simp [layOf] at h
 | n + 1, t, d, vs, cs, fuel, p, h, ht => by
  unfold layOf at h
  split at h
  ·rename_i k hu
   obtain ⟨m, rfl, hx, _⟩ := DataW.trod_int hu ht
   simp only [Prod.mk.injEq] at hx
   obtain ⟨rfl, _⟩ := hx
   simp at h
   exact h
  ·rename_i hu
   obtain ⟨s, rfl, hx, _⟩ := DataW.trod_string hu ht
   simp only [Prod.mk.injEq] at hx
   obtain ⟨rfl, _⟩ := hx
   simp at h
   exact h
  ·rename_i fs hu
   obtain ⟨xs, m, rfl, hx, hl, hxs, hf⟩ := DataW.trod_struct hu ht
   simp only [Prod.mk.injEq] at hx
   obtain ⟨rfl, _⟩ := hx
   simp only at h
   split at h
   ·rename_i vss hv
    split at h
    ·rename_i hc
     simp only [Bool.and_eq_true, Nat.beq_eq] at hc
     simp only [Option.some.injEq] at h
     subst h
     obtain ⟨h1, h2⟩ := layAll_get hv
     refine pieces vss cs (by rw [hl, hc.2]) fun i v hi => ?_
     have hlt : i < vss.length := (List.getElem?_eq_some_iff.1 hi).1
     rw [h1, List.length_zip, List.length_map, List.length_map] at hlt
     have hlt1 : i < fs.size := by simp at hlt; omega
     have hlt2 : i < xs.length := by omega
     have hfi : fs[i]? = some fs[i] := Array.getElem?_eq_getElem hlt1
     have hxi : xs[i]? = some xs[i] := List.getElem?_eq_getElem hlt2
     obtain ⟨v', e1, e2⟩ := h2 i fs[i].type xs[i].1 (by
      rw [List.getElem?_zip_eq_some]
      exact ⟨by simp [hlt1], by simp [List.getElem?_map, hxi]⟩)
     obtain rfl : v = v' := Option.some.inj (hi.symm.trans e1)
     obtain ⟨o1, o2⟩ := offsOk_get hc.1.2 i fs[i] v (by simp [hlt1]) hi
     have := hf i _ hfi
     rw [hxi, o2, o1, Nat.zero_add] at this
     exact lay_ok n e2 this
    ·cases h
   ·cases h
  ·rename_i m e hu
   obtain ⟨xs, k, rfl, hx, hl, hxs, hf⟩ := DataW.trod_array hu ht
   simp only [Prod.mk.injEq] at hx
   obtain ⟨rfl, _⟩ := hx
   simp only at h
   split at h
   ·rename_i vss hv
    split at h
    ·rename_i hc
     simp only [Bool.and_eq_true, Nat.beq_eq] at hc
     simp only [Option.some.injEq] at h
     subst h
     obtain ⟨h1, h2⟩ := layAll_get hv
     have hall : ∀ v ∈ vss, v.length = P.cellsOf e := fun v hv => by simpa using List.all_eq_true.1 hc.1.2 v hv
     refine pieces vss cs (by rw [hl, hc.2]) fun i v hi => ?_
     have hlt : i < vss.length := (List.getElem?_eq_some_iff.1 hi).1
     rw [h1, List.length_map, List.length_map] at hlt
     have hxi : xs[i]? = some xs[i] := List.getElem?_eq_getElem hlt
     obtain ⟨v', e1, e2⟩ := h2 i e xs[i].1 (by simp [hxi])
     obtain rfl : v = v' := Option.some.inj (hi.symm.trans e1)
     have hlen : (vss.take i).flatten.length = i * P.cellsOf e := by
      have key : ∀ (l : List (List Value)), (∀ v ∈ l, v.length = P.cellsOf e) → l.flatten.length = l.length * P.cellsOf e := by
       intro l
       induction l with
       | nil => intro _; simp
       | cons a r ih => intro h; rw [List.flatten_cons, List.length_append, ih fun v hv => h v (List.mem_cons_of_mem _ hv), h a List.mem_cons_self, List.length_cons, Nat.succ_mul, Nat.add_comm]
      rw [key _ fun v hv => hall v (List.mem_of_mem_take hv), List.length_take, Nat.min_eq_left (by have := (List.getElem?_eq_some_iff.1 hi).1; omega)]
     have := hf i (by omega)
     rw [hxi] at this
     rw [hlen, hall v (List.mem_of_getElem? hi)]
     exact lay_ok n e2 this
    ·cases h
   ·cases h
  ·cases h
end

def litOk : Value → Bool
 | .int _ _ | .string _ | .bool _ | .nilIface | .iface _ _ => true
 | _ => false
theorem leaf_rep {E : Env} {w : World} {m : Md} {v : Value} (h : litOk v = true) : Rep E w m (leafOf v) v := by
 cases v with
 | bool b => exact .bool _ _
 | nilIface => exact .ifc _ _ _ (.inl ⟨rfl, rfl⟩)
 | iface t p => exact .ifc _ _ _ (.inr ⟨rfl, _, _, rfl⟩)
 | int k n => exact .int _ _ _
 | string s => exact .str _ _
 | _ => cases h

theorem trod_ifc {P : Program} {w : World} {base : Nat} {spare : Nat → Bool} {held : Bool} {fuel : Nat} {t : TypeId} {cs : List Value} {ms : Array (String × TypeId)} {nm : String} {d : DataW Unit} {p : List MemPlace} (ht : P.underlying t = some (.interface ms))
  (h : DataW.trod (fun _ => ()) P w base spare held fuel t cs = some (.iface nm d, p)) : ∃ u v, cs = [.iface u v] := by
 cases fuel with
 | zero => simp [DataW.trod] at h
 | succ n =>
  unfold DataW.trod at h
  rw [ht] at h
  split at h <;> simp_all
def laidCs (P : Program) (t : TypeId) (d : DataW Unit) : Option (List D) :=
 match layOf P 8 t d with
 | some vs => if vs.all litOk then some (vs.map leafOf) else none
 | none => match P.underlying t, d with
  | some (.interface _), .iface _ _ => some [.ifc true]
  | _, _ => none
theorem laidCs_ok {P : Program} {w : World} {base : Nat} {spare : Nat → Bool} {held : Bool} {fuel : Nat} {t : TypeId} {d : DataW Unit} {p : List MemPlace} {cs : List Value} {ds : List D} (h : laidCs P t d = some ds)
  (hd : DataW.trod (fun _ => ()) P w base spare held fuel t cs = some (d, p)) : ds = cs.map leafOf ∧ ∀ v ∈ cs, litOk v = true := by
 unfold laidCs at h
 split at h
 ·rename_i us hl
  split at h
  ·rename_i hall
   cases h
   have e := lay_ok 8 hl hd
   subst e
   exact ⟨rfl, fun v hv => List.all_eq_true.1 hall v hv⟩
  ·cases h
 ·split at h
  ·rename_i hu
   cases h
   obtain ⟨u, v, rfl⟩ := trod_ifc (by assumption) hd
   exact ⟨rfl, fun x hx => by rw [List.mem_singleton.1 hx]; rfl⟩
  ·cases h
def laidOne (P : Program) (x : String × DataW Unit) : Option (Nat × List D) :=
 match P.globalNamed x.1 with
 | some g => match (P.globals[g]?).map (·.type) with
  | some t => match laidCs P t x.2 with
   | some cs => some (g, cs)
   | none => none
  | none => none
 | none => none

theorem laid_gl {P : Program} {W : World} : ∀ {laid : List (String × DataW Unit)} {ps : List MemPlace}, DataW.LaidVars P W laid ps → ∀ (x : String × DataW Unit), x ∈ laid → ∀ g cs, laidOne P x = some (g, cs) →
  Rep E0 W .slot (.fptr cs.length [.agg cs] 0 0) (.pointer (some ⟨g, 0, none⟩)) ∧ ∃ cs' ty z, W.heap[g]? = some (.cells cs' ty z) ∧ cs'.toList.map leafOf = cs
 | [], ps, _, x, hx, _, _, _ => by cases hx
 | (n, d) :: r, ps, ⟨g0, t, vs, fuel, p, q, hg, ht, hv, hd, hr, _⟩, x, hx, g, cs, ho => by
  rcases List.mem_cons.1 hx with rfl | hx
  ·unfold laidOne at ho
   simp only [hg, ht] at ho
   split at ho
   ·rename_i ds hl
    ·simp only [Option.some.injEq, Prod.mk.injEq] at ho
     obtain ⟨rfl, rfl⟩ := ho
     obtain ⟨rfl, hall'⟩ := laidCs_ok hl hd
     generalize e : vs.toList = us at *
     have hcell : ∀ (j : Nat) (c : D), (us.map leafOf)[j]? = some c → ∃ u, us[j]? = some u ∧ c = leafOf u := by
      intro j c hc
      rw [List.getElem?_map] at hc
      cases hu : us[j]? with
      | none => rw [hu] at hc; cases hc
      | some u => rw [hu] at hc; exact ⟨u, rfl, (Option.some.inj hc).symm⟩
     have hsz : g0 < W.heap.size := by
      unfold World.var? at hv
      simp only [hg, Option.bind_some] at hv
      split at hv
      ·rename_i h; exact lt_of_get h
      ·cases hv
     have := Rep.fptr (E := E0) (w := W) .slot (us.map leafOf).length [.agg (us.map leafOf)] 0 0 ⟨g0, 0, none⟩ (fun _ j => (us[j]?).getD (.bool false)) (.inl rfl) (fun x hx => by rw [List.mem_singleton] at hx; subst hx; rfl)
      ⟨rfl, hsz, fun i j x c hx hc => ?_⟩ (fun i j x c hx hc => ?_)
     ·refine ⟨by simpa [Addr.add] using this, ?_⟩
      unfold World.var? at hv
      simp only [hg, Option.bind_some] at hv
      split at hv
      ·rename_i cs' ty z hh
       cases hv
       exact ⟨_, ty, z, hh, by rw [e]⟩
      ·cases hv
     ·match i, hx with
      | 0, hx =>
       simp at hx
       subst hx
       obtain ⟨u, hu, _⟩ := hcell j c hc
       have := World.var?_cell hg hv j
       rw [hu]
       simp only [Nat.zero_mul, Nat.zero_add, Option.getD_some]
       rw [show (⟨g0, 0, none⟩ : Addr).add j = ⟨g0, j, none⟩ from by cases j <;> simp [Addr.add], this, ← Array.getElem?_toList, e, hu]
      | i + 1, hx => simp at hx
     ·match i, hx with
      | 0, hx =>
       simp at hx
       subst hx
       obtain ⟨u, hu, rfl⟩ := hcell j c hc
       rw [hu]
       exact leaf_rep (hall' u (List.mem_of_getElem? hu))
      | i + 1, hx => simp at hx
   ·cases ho
  ·exact laid_gl hr x hx g cs ho

def glFind (P : Program) : List (String × DataW Unit) → Nat → Option (List D)
 | [], _ => none
 | x :: r, g => match laidOne P x with
  | some (g', cs) => if Nat.beq g g' then some cs else glFind P r g
  | none => glFind P r g
def glSel (P : Program) (laid : List (String × DataW Unit)) : List Nat → Option (List (Nat × D))
 | [] => some []
 | g :: gs => match glFind P laid g, glSel P laid gs with
  | some cs, some l => some ((g, .fptr cs.length [.agg cs] 0 0) :: l)
  | _, _ => none
theorem glFind_mem {P : Program} {g : Nat} {cs : List D} : ∀ {laid : List (String × DataW Unit)}, glFind P laid g = some cs → ∃ x ∈ laid, laidOne P x = some (g, cs)
 | [], h => by cases h
 | x :: r, h => by
  unfold glFind at h
  split at h
  ·rename_i g' cs' h1
   split at h
   ·rename_i he
    cases h
    rw [Nat.eq_of_beq_eq_true he]
    exact ⟨x, List.mem_cons_self, h1⟩
   ·obtain ⟨y, hy, e⟩ := glFind_mem h
    exact ⟨y, List.mem_cons_of_mem _ hy, e⟩
  ·obtain ⟨y, hy, e⟩ := glFind_mem h
   exact ⟨y, List.mem_cons_of_mem _ hy, e⟩
theorem glSel_mem {P : Program} {laid : List (String × DataW Unit)} : ∀ {gs : List Nat} {gl : List (Nat × D)}, glSel P laid gs = some gl → ∀ y ∈ gl, ∃ x ∈ laid, ∃ g cs, laidOne P x = some (g, cs) ∧ y = (g, .fptr cs.length [.agg cs] 0 0)
 | [], gl, h, y, hy => by
  simp only [glSel, Option.some.injEq] at h
  subst h
  cases hy
 | g :: gs, gl, h, y, hy => by
  unfold glSel at h
  split at h
  ·rename_i cs l h1 h2
   simp only [Option.some.injEq] at h
   subst h
   rcases List.mem_cons.1 hy with rfl | hy
   ·obtain ⟨x, hx, e⟩ := glFind_mem h1
    exact ⟨x, hx, g, cs, e, rfl⟩
   ·exact glSel_mem h2 y hy
  ·cases h
theorem laid_filter {laid : List (String × DataW Unit)} (hplain : laid.all (fun x => x.2.handleName?.isNone) = true) : (laid.filter fun x => x.2.handleName?.isNone) = laid ∧ (laid.filter fun x => x.2.handleName?.isSome) = [] := by
 refine ⟨List.filter_eq_self.2 fun x hx => List.all_eq_true.1 hplain x hx, List.filter_eq_nil_iff.2 fun x hx => ?_⟩
 have := List.all_eq_true.1 hplain x hx
 cases hh : x.2.handleName? with
 | none => simp
 | some a => rw [hh] at this; cases this
theorem laidMetH_heap {P : Program} {w w' : World} {laid : List (String × DataW Unit)} (hplain : laid.all (fun x => x.2.handleName?.isNone) = true) (hh : w.heap = w'.heap) (h : laidMetH P laid w) : laidMetH P laid w' := by
 obtain ⟨h1, h2⟩ := laidMetH_iff.1 h
 refine laidMetH_iff.2 ⟨h1.of_heap hh, ?_⟩
 rw [(laid_filter hplain).2]
 exact fun x hx => by cases hx
theorem gl_ok {P : Program} {W : World} {laid : List (String × DataW Unit)} {gl : List (Nat × D)} (hplain : laid.all (fun x => x.2.handleName?.isNone) = true) (h : glSel P laid (gl.map Prod.fst) = some gl) (hL : laidMetH P laid W) : GlOK gl E0 W := by
 have hm : laidMet P (laid.filter fun x => x.2.handleName?.isNone) W := (laidMetH_iff.1 hL).1
 have hf : (laid.filter fun x => x.2.handleName?.isNone) = laid := List.filter_eq_self.2 fun x hx => List.all_eq_true.1 hplain x hx
 rw [hf] at hm
 obtain ⟨ps, hv, _⟩ := hm
 intro y hy
 obtain ⟨x, hx, g, cs, e1, rfl⟩ := glSel_mem h y hy
 obtain ⟨k1, k2⟩ := laid_gl hv x hx g cs e1
 exact ⟨⟨_, _, _, _, rfl⟩, k1, rfl, k2⟩

def varsOk (P : Program) (ns : List String) : Bool := ns.all fun n => match P.globalNamed n with
 | some g => match (P.globals[g]?).map (·.type) with
  | some t => P.readableRec t && decide (t < P.types.size)
  | none => false
 | none => false
theorem trodVars_below {H : Type} {enc : TypeId × Value → H} {P : Program} (hl : laidOutB P = true) {W W' : World} (hb : Below W.heap.size W W') : ∀ {ns : List String} {gs : List (DataW H)} {q : List MemPlace},
  varsOk P ns = true → DataW.TrodVars enc P W (fun _ => true) ns gs q → DataW.TrodVars enc P W' (fun b => decide (b < W.heap.size)) ns gs q
 | [], [], q, _, h => h
 | [], _ :: _, q, _, h => by simp [DataW.TrodVars] at h
 | _ :: _, [], q, _, h => by simp [DataW.TrodVars] at h
 | n :: ns, d :: ds, q, ha, ⟨g, t, cs, fuel, p, q', hg, ht, hv, hd, hr, e⟩ => by
  unfold varsOk at ha
  simp only [List.all_cons, hg, ht, Bool.and_eq_true, decide_eq_true_eq] at ha
  have hsz : g < W.heap.size := by
   unfold World.var? at hv
   simp only [hg, Option.bind_some] at hv
   split at hv
   ·rename_i h; exact lt_of_get h
   ·cases hv
  have hlt : ∀ x ∈ p, x.block < W.heap.size := DataW.trod_lt _ _ _ _ hd
  obtain ⟨fuel', hd'⟩ := Below.trod hl ha.1.1 ha.1.2 (v := .agg cs) ⟨fuel, hd⟩ hb hlt
  have hv' : W'.var? P n = some cs := by
   rw [← hv]
   unfold World.var?
   simp only [hg, Option.bind_some, hb.block g hsz]
  exact ⟨g, t, cs, fuel', p, q', hg, ht, hv', hd', trodVars_below hl hb (by unfold varsOk; exact ha.2) hr, e⟩

theorem law_returns_laid {C : Checked} {os : Os} {f : FuncId} {fn : Func} {s : ChangeSpec} {conds : List PathCond} {Q : List D → Prop} {rt : TypeId} {H : Type} {enc : TypeId × Value → H}
  {laid : List (String × DataW Unit)} {gl : List (Nat × D)}
  (own : ownKnob C.prog.godebug = none) (started : os.Started) (noInit : C.prog.inits.idxOf? f = none) (hfn : C.prog.funcs[f]? = some fn)
  (witness : ∃ (w : World) (tape : Tape) (i : Input), w.os = os ∧ (w.forCall tape i).Shaped C.prog ∧ i.vars = [] ∧ Input.okWide C.prog (w.forCall tape i) .any w.heap.size f i ∧
   ((s.pre enc C.prog fn conds false (w.forCall tape i).memory i.args ∧ laidMetH C.prog laid (w.forCall tape i).memory) ∧ sizedMet enc C.prog fn (OpenSpec.ofChange s) false (w.forCall tape i).memory i.args) ∧
    ({} : Assume).holds C.prog (lone (Frame.enter C.prog f i.args .normal) [] (w.forCall tape i)))
  (laidout : laidOutB C.prog = true) (hread : fn.params.toList.all (fun t => C.prog.readableRec t && decide (t < C.prog.types.size)) = true)
  (hres : fn.resultTypes = #[rt]) (hrt : C.prog.underlying rt = some .bool) (hvars : varsOk C.prog s.vars = true)
  (hspec : ∀ ds gs : List (DataW H), ds.length = fn.params.size → gs.length = s.vars.length → s.fn H (ds ++ gs) = { results := [.lit (.bool true)], args := ds, vars := gs })
  (hplain : laid.all (fun x => x.2.handleName?.isNone) = true) (hgl : glSel C.prog laid (gl.map Prod.fst) = some gl)
  (O : OpnL C.prog fn.params.toList Q) (law : ∀ xs, Q xs → Ct C.prog gl f xs [] [.bool true] []) :
  ReturnsInHanded {} C os f .any (fun w args => (s.pre enc C.prog fn conds false w args ∧ laidMetH C.prog laid w) ∧ sizedMet enc C.prog fn (OpenSpec.ofChange s) false w args) (s.post enc C.prog fn false true false false) := by
 refine returnsInHanded_of_change_and (X := fun w _ => laidMetH C.prog laid w) (fun _ _ _ hh h => laidMetH_heap hplain hh h) own started noInit hfn witness ?_
 intro W base args ds gs before hval hW hcnd hsz hL _
 have hW' := hW
 obtain ⟨p, q, hA, hV, rfl, hfz, hnd⟩ := hW
 obtain ⟨xs, hQ, hl, hxs⟩ := O.get (fun j t v ht hv => hval j t v (by simpa using ht) (by simpa using hv)) hA
 have hlen : ds.length = fn.params.size := by
  have key : ∀ {ts : List TypeId} {vs : List Value} {ds : List (DataW H)} {ps : List MemPlace}, DataW.TrodAll enc C.prog W 0 (fun _ => true) true ts vs ds ps → ds.length = ts.length := by
   intro ts
   induction ts with
   | nil => intro vs ds ps h; obtain ⟨rfl, rfl, rfl⟩ := trodAll_nil h; rfl
   | cons t ts ih => intro vs ds ps h; obtain ⟨v, vs', d, ds', p, q, rfl, rfl, rfl, h1, h2⟩ := trodAll_cons h; simp [ih h2]
  simpa using key hA
 have hgs : gs.length = s.vars.length := by
  have key : ∀ {ns : List String} {gs : List (DataW H)} {q : List MemPlace}, DataW.TrodVars enc C.prog W (fun _ => true) ns gs q → gs.length = ns.length := by
   intro ns
   induction ns with
   | nil => intro gs q h; cases gs with
    | nil => rfl
    | cons a r => simp [DataW.TrodVars] at h
   | cons n ns ih => intro gs q h; cases gs with
    | nil => simp [DataW.TrodVars] at h
    | cons a r => obtain ⟨g, t, cs, fuel, p, q', _, _, _, _, hr, _⟩ := h; simp [ih hr]
  exact key hV
 refine (law_walk (law xs hQ) (w := W) (vs := args) (gl_ok hplain hgl hL) (by simpa using hl) (fun i d v hd hv => hxs i d v hd (by simpa using hv))).mono fun e W' ⟨he, bel⟩ => ?_
 subst he
 have hb := trodAll_below laidout bel hread hA
 have hbv := trodVars_below laidout bel hvars hV
 refine ⟨_, rfl, ds, gs, _, [], p, q, hW', ?_, ?_, ?_, bel.frame _, fun h => by cases h⟩
 ·rw [hspec _ _ (by simpa using hlen) hgs, hres]
  exact trodAll_mk1 (shut_bool hrt _)
 ·rw [hspec _ _ (by simpa using hlen) hgs]
  simpa using hb
 ·rw [hspec _ _ (by simpa using hlen) hgs]
  simpa using hbv

end Go.Proofs.YtogomlkoocbhcaaDoor.Ab

namespace Go.Proofs.YtogomlkoocbhcaaDoor.Ab
open Go.RowKit
def farE (E : Env) (n : Nat) : Env := { E with ow := fun b => if b < n then E.ow b else .far }
theorem frm_below {E : Env} {w w' : World} (h : Below w.heap.size w w') (hd : DrawOk w w') : Frm 0 E w (farE E w.heap.size) w' where
 sz := h.size
 os := h.os
 tape := h.tape
 output := ⟨h.output, hd⟩
 fz := fun b hb ho => ⟨h.block b hb, by simp [farE, hb, ho]⟩
 far := fun b hb ho => ⟨h.block b hb, by simp [farE, hb, ho]⟩
 adr := fun _ _ => rfl
 shape := fun b cs ty hh => ⟨cs, by rw [h.block b (lt_of_get hh), hh], rfl⟩
 shp := fun r hr => absurd hr (Nat.not_lt_zero _)
theorem below_grow {w : World} (k : Nat) (os : Array Obj) : Below w.heap.size w (Sort.grow (w.drewN k) os) := by
 refine ⟨rfl, rfl, rfl, by simp [Sort.grow, World.drewN], fun b hb => ?_⟩
 show (w.heap ++ os)[b]? = w.heap[b]?
 rw [Array.getElem?_append_left hb]
theorem leaf_ints {k : IntKind} : ∀ {l : List Value} {zs : List Int}, l.map leafOf = zs.map (D.int k) → l = zs.map (Value.int k)
 | [], [], _ => rfl
 | [], _ :: _, h => by simp at h
 | _ :: _, [], h => by simp at h
 | v :: l, z :: zs, h => by
  simp only [List.map_cons, List.cons.injEq] at h
  obtain ⟨h1, h2⟩ := h
  rw [leaf_ints h2, List.map_cons]
  congr 1
  unfold leafOf at h1
  split at h1 <;> cases h1
  rfl
theorem tab_is {P : Program} {gl : List (Nat × D)} {E : Env} {w : World} (hgl : GlOK gl E w) {g W : Nat} {k : IntKind} {zs : List Int} {nm : String} (hg : (g, .fptr W [.agg (zs.map (D.int k))] 0 0) ∈ gl) (hn : P.globalNamed nm = some g) : Lib.TabIs P w nm k zs := by
 obtain ⟨_, _, _, cs, ty, z, hh, he⟩ := hgl _ hg
 unfold Lib.TabIs World.var?
 rw [hn, Option.bind_some]
 simp only at hh
 rw [hh]
 have := leaf_ints (zs := zs) he
 simp only [Option.some.injEq]
 rw [← this]
theorem post_one {E : Env} {w w' : World} {d : D} {v : Value} (h : Below w.heap.size w w') (hd : DrawOk w w') (hr : ∀ E' w' m, Rep E' w' m d v) (hn : ∀ cs, d ≠ .agg cs) : Post E w [] [d] [] (.returned v) w' := by
 refine ⟨farE E w.heap.size, [v], rfl, frm_below h hd, rfl, fun k R hR => by simp at hR, ?_, trivial⟩
 unfold ResRep
 split
 ·exact absurd rfl (hn _)
 ·exact hr _ _ _
end Go.Proofs.YtogomlkoocbhcaaDoor.Ab

namespace Go.Proofs.YtogomlkoocbhcaaDoor.Ab
open Go.Shelf Go.RowKit Go.Lib
variable {P : Program} {ρ : Ren}
theorem ct_itoa (L : LaysM.n171 P ρ) (hE : Ent P (ρ.f 171)) {gl : List (Nat × D)} {g W : Nat} (hg : glOf gl g = some (.fptr W [.agg (Lib.pow10Tab.map (D.int .u64))] 0 0)) (hn : P.globalNamed "internal/strconv.uint64pow10" = some g) {n : Int}
  (h : -9223372036854775808 ≤ n ∧ n ≤ 9223372036854775807) : Ct P gl (ρ.f 171) [.int .i64 n] [] [.str (itoaB n)] [] := by
 refine ⟨hE, fun E w vs hgl hvs hargs _ _ => ?_⟩
 obtain ⟨v0, rfl⟩ : ∃ v0, vs = #[v0] := by
  rcases vs with ⟨vs⟩
  match vs, hvs with
  | [a], _ => exact ⟨a, rfl⟩
 have a0 := hargs 0 _ v0 rfl rfl
 cases a0
 refine Calls.mono (Any.strconv_Itoa L n h.1 h.2 w (tab_is hgl (glOf_mem hg) hn)) ?_
 rintro e w' ⟨rfl, k, os, rfl⟩
 exact post_one (below_grow k os) (drw_le (by simp [Sort.grow, World.drewN])) (fun _ _ _ => .str _ _) (fun _ h => by cases h)
end Go.Proofs.YtogomlkoocbhcaaDoor.Ab

namespace Go.Proofs.YtogomlkoocbhcaaDoor.Ab
open Go.Shelf Go.RowKit Go.Lib
variable {P : Program} {ρ : Ren}
theorem ct_join (L : Lays.n156 P ρ) (X : Builder.Extra P ρ) (hE : Ent P (ρ.f 156)) {gl : List (Nat × D)} {xs : List ByteArray} {sep : ByteArray}
  (h : xs.length ≤ 140737488355328 ∧ (Lib.join (xs.map (·.data.toList)) sep.data.toList).length ≤ 140737488355328) : Ct P gl (ρ.f 156) [.list false 1 xs.length (xs.map D.str), .str sep] [] [.str (joinB xs sep)] [] := by
 refine ⟨hE, fun E w vs hgl hvs hargs _ _ => ?_⟩
 obtain ⟨v0, v1, rfl⟩ : ∃ v0 v1, vs = #[v0, v1] := by
  rcases vs with ⟨vs⟩
  match vs, hvs with
  | [a, b], _ => exact ⟨a, b, rfl⟩
 have a0 := hargs 0 _ v0 rfl rfl
 have a1 := hargs 1 _ v1 rfl rfl
 cases a1
 obtain ⟨A, cap, us, rfl, hlen, hcap, hwd, ha, hrr⟩ := a0.list_inv (.inl rfl)
 rcases Nat.eq_zero_or_pos xs.length with h0 | h0
 ·have e : xs = [] := List.length_eq_zero_iff.1 h0
  subst e
  refine Calls.mono (Any.strings_Join_none L X A cap sep w) ?_
  rintro e w' ⟨rfl, rfl⟩
  exact post_one ⟨rfl, rfl, rfl, Nat.le_refl _, fun _ _ => rfl⟩ (drw_le (Nat.le_refl _)) (fun _ _ _ => .str _ _) (fun _ h => by cases h)
 ·obtain ⟨a, rfl, ho, hb, hc⟩ := ha h0
  have hcell : ∀ (j : Nat) x, xs[j]? = some x → w.cell? (a.add j) = some (.string x) := fun j x hx => by
   have h1 := hc j 0 (.str x) (.str x) (by rw [List.getElem?_map, hx]; rfl) rfl
   have h2 := hrr j 0 (.str x) (.str x) (by rw [List.getElem?_map, hx]; rfl) rfl
   rw [Nat.mul_one, Nat.add_zero] at h1
   rw [h1, h2.str_inv]
  have hsp : a.spot = none := by
   have := hcell 0 xs[0] (List.getElem?_eq_getElem h0)
   unfold World.cell? at this
   split at this
   ·split at this
    ·cases this
    ·rename_i hs
     cases hsp : a.spot with
     | none => rfl
     | some x => simp [Addr.add, hsp] at hs
   ·cases this
  obtain ⟨bk, o, sp⟩ := a
  simp only at hsp
  subst hsp
  have hadd : ∀ j, (⟨bk, o, none⟩ : Addr).add j = ⟨bk, o + j, none⟩ := fun j => by
   unfold Addr.add
   split
   ·rename_i hj; subst hj; rfl
   ·rfl
  refine Calls.mono (Any.strings_Join L X bk o cap xs sep w (fun j x hx => by rw [← hadd]; exact hcell j x hx) hb h.1 hcap h.2) ?_
  rintro e w' ⟨rfl, hB⟩
  exact post_one hB trivial (fun _ _ _ => .str _ _) (fun _ h => by cases h)
end Go.Proofs.YtogomlkoocbhcaaDoor.Ab

namespace Go.Proofs.YtogomlkoocbhcaaDoor.Ab
open Go.Shelf Go.RowKit Go.Lib
variable {P : Program} {ρ : Ren}
theorem cell_add1 {w : World} {a : Addr} {cs : Array Value} {ty : Nat} (hsp : a.spot = none) (hh : w.heap[a.block]? = some (.cells cs ty (0, 0))) (m : Nat) : w.cell? (a.add m) = cs[a.off + m]? := by
 unfold World.cell?
 rw [add_block]
 simp only [hh]
 unfold Addr.add
 split
 ·rename_i h; subst h; simp [hsp]
 ·simp
theorem idx1_cons (b c : UInt8) (l : List UInt8) : Lib.index (b :: l) [c] = if b = c then 0 else if Lib.index l [c] = -1 then -1 else Lib.index l [c] + 1 := by
 have e : Lib.index (b :: l) [c] = if [c].isPrefixOf (b :: l) then 0 else if Lib.index l [c] == -1 then -1 else Lib.index l [c] + 1 := rfl
 rw [e]
 by_cases h : b = c
 ·subst h; simp [List.isPrefixOf]
 ·have h' : ¬ c = b := fun e => h e.symm
  rw [if_neg h]
  have hp : ([c].isPrefixOf (b :: l)) = false := by simp [List.isPrefixOf, h']
  rw [hp]
  simp only [Bool.false_eq_true, if_false, beq_iff_eq]
theorem idx1_byte (c : UInt8) : ∀ l : List UInt8, Lib.indexByte l c = Lib.index l [c]
 | [] => rfl
 | b :: l => by
  rw [idx1_cons]
  unfold Lib.indexByte
  rw [idx1_byte c l]
  simp only [beq_iff_eq]
theorem idx1_ge (l : List UInt8) (c : UInt8) : -1 ≤ Lib.index l [c] := Lib.index_ge l [c]
theorem splL_idx (c : UInt8) : ∀ l : List UInt8, splL c l = if Lib.index l [c] = -1 then [l] else l.take (Lib.index l [c]).toNat :: splL c (l.drop ((Lib.index l [c]).toNat + 1))
 | [] => rfl
 | b :: l => by
  have hg := idx1_ge l c
  rw [idx1_cons, show splL c (b :: l) = if b = c then [] :: splL c l else match splL c l with | [] => [[b]] | x :: r => (b :: x) :: r from rfl]
  by_cases h : b = c
  ·rw [if_pos h, if_pos h, if_neg (by decide)]
   rfl
  ·rw [if_neg h, if_neg h, splL_idx c l]
   by_cases h2 : Lib.index l [c] = -1
   ·rw [if_pos h2, if_pos h2, if_pos rfl]
   ·rw [if_neg h2, if_neg h2, if_neg (by omega)]
    have e : (Lib.index l [c] + 1).toNat = (Lib.index l [c]).toNat + 1 := by omega
    rw [e]
    rfl
theorem splitK_splL (c : UInt8) : ∀ (k : Nat) (l : List UInt8), Lib.count l [c] = k → Lib.splitK [c] 0 k l = splL c l
 | 0, l, h => by
  have h2 : Lib.index l [c] = -1 := by
   have hg := idx1_ge l c
   refine Decidable.byContradiction fun h1 => ?_
   have := Lib.count_hit (s := l) (sub := [c]) (i := (Lib.index l [c]).toNat) (by simp) (by omega)
   omega
  rw [splL_idx, if_pos h2]
  rfl
 | k + 1, l, h => by
  have hg := idx1_ge l c
  have h2 : ¬ Lib.index l [c] = -1 := fun e => by rw [Lib.count_miss e] at h; omega
  have h3 := Lib.count_hit (s := l) (sub := [c]) (i := (Lib.index l [c]).toNat) (by simp) (by omega)
  rw [splL_idx, if_neg h2]
  unfold Lib.splitK
  rw [if_neg (by simpa using h2), Nat.add_zero]
  exact congrArg _ (splitK_splL c k _ (by simp only [List.length_cons, List.length_nil] at h3 ⊢; omega))
theorem split_b1 (s : ByteArray) (c : UInt8) : Lib.splitB ⟨#[c]⟩ 0 (Lib.countB s ⟨#[c]⟩) s = splitB1 s c := by
 have h := Lib.splitB_data ⟨#[c]⟩ 0 (Lib.countB s ⟨#[c]⟩) s
 have h2 : Lib.splitK [c] 0 (Lib.countB s ⟨#[c]⟩) s.data.toList = splL c s.data.toList := splitK_splL c _ _ rfl
 unfold splitB1
 rw [← h2]
 have h3 : (Lib.splitB ⟨#[c]⟩ 0 (Lib.countB s ⟨#[c]⟩) s).map (·.data.toList) = Lib.splitK [c] 0 (Lib.countB s ⟨#[c]⟩) s.data.toList := h
 have h4 : ((fun x : List UInt8 => (⟨x.toArray⟩ : ByteArray)) ∘ fun x : ByteArray => x.data.toList) = id := funext fun x => by cases x; rfl
 rw [← h3, List.map_map, h4, List.map_id]
set_option maxHeartbeats 1000000 in
theorem split1_calls (L : LaysM.n146 P ρ) (s : ByteArray) (c : UInt8) (w : World) (hs : s.size < 4294967281) :
  Calls P (ρ.f 146) #[.string s, .string ⟨#[c]⟩] w fun e w' => e = .returned (.slice (some ⟨w.heap.size, 0, none⟩) (splitB1 s c).length (splitB1 s c).length) ∧ w' = w.alloc (.cells ((splitB1 s c).map Value.string).toArray (ρ.t 9)) := by
 have h1 : 1 ≤ (⟨#[c]⟩ : ByteArray).size := Nat.le_refl 1
 have hle := Lib.countB_le ⟨#[c]⟩ h1 s.size s (Nat.le_refl _)
 have hlen := Lib.splitB_all ⟨#[c]⟩ h1 0 _ s rfl
 have cc := Any.strings_genSplit_core { L with } L.i9 s ⟨#[c]⟩ 0 (-1) (Lib.countB s ⟨#[c]⟩ + 1) w hs h1 (Nat.zero_le _)
  (fun x cs hx => (Any.strings_Index_one { L with } x c _).mono fun e w' ⟨he, hw⟩ => ⟨by rw [he, idx1_byte], hw⟩)
  ((Any.strings_Count_one { L with } s c w).mono fun e w' ⟨he, hw⟩ => ⟨by
   rw [he]
   show _ = Ending.returned (Value.int .i64 ((Lib.count s.data.toList [c] : Nat) : Int))
   rw [Lib.count_one]
   rfl, hw⟩) (by decide) (by decide) (by rw [if_pos (by decide)]; omega)
 rw [Nat.add_sub_cancel, hlen] at cc
 have e2 : Lib.cellsOf (Lib.splitB ⟨#[c]⟩ 0 (Lib.countB s ⟨#[c]⟩) s) (Lib.countB s ⟨#[c]⟩ + 1) = ((Lib.splitB ⟨#[c]⟩ 0 (Lib.countB s ⟨#[c]⟩) s).map Value.string).toArray := by rw [← hlen]; exact Lib.cellsOf_full _
 rw [e2, ← hlen, split_b1] at cc
 clear hlen e2 hle
 have t3 := L.t3; have t9 := L.t9; have t31 := L.t31
 have a3 := L.a3; have a9 := L.a9; have a31 := L.a31
 have z3 := L.z3; have v3 := L.v3; have z9 := L.z9; have v9 := L.v9; have z31 := L.z31; have v31 := L.v31
 have e221 : ∀ args w, (callFunc (ρ.f 221) args).run P w = .ok (.enter (ρ.f 221) args) w := enters_of L.f221 (by kernel_rfl) rfl
 go_enter L.f146, Body.n146_ntmps ρ
 go_wp2_with (go_at_fn (ρ.f 221); refine cc.mono ?_; rintro e w' ⟨rfl, hw⟩; rw [hw])
 go_ret
 exact ⟨rfl, rfl⟩
theorem ct_split (L : LaysM.n146 P ρ) (hE : Ent P (ρ.f 146)) {gl : List (Nat × D)} {s sep : ByteArray} {r : List ByteArray} (H : splitD s sep = some r) :
  Ct P gl (ρ.f 146) [.str s, .str sep] [] [ow 1 D.str r] [] := by
 unfold splitD at H
 split at H
 ·rename_i hc
  cases H
  obtain ⟨c, rfl⟩ := Lib.one_byte sep hc.2
  refine ⟨hE, fun E w vs hgl hvs hargs _ _ => ?_⟩
  obtain ⟨v0, v1, rfl⟩ : ∃ v0 v1, vs = #[v0, v1] := by
   rcases vs with ⟨vs⟩
   match vs, hvs with
   | [a, b], _ => exact ⟨a, b, rfl⟩
  have a0 := hargs 0 _ v0 rfl rfl
  have a1 := hargs 1 _ v1 rfl rfl
  cases a0
  cases a1
  refine Calls.mono (split1_calls L s c w hc.1) ?_
  have ec : (⟨#[c]⟩ : ByteArray).data.getD 0 0 = c := rfl
  rw [ec]
  generalize splitB1 s c = l
  rintro e w' ⟨rfl, rfl⟩
  have hold : ∀ b, b < w.heap.size → (w.alloc (.cells (l.map Value.string).toArray (ρ.t 9))).heap[b]? = w.heap[b]? := fun b hb => by
   show (w.heap.push _)[b]? = _
   rw [Array.getElem?_push, if_neg (by omega)]
  have hnew : (w.alloc (.cells (l.map Value.string).toArray (ρ.t 9))).heap[w.heap.size]? = some (.cells (l.map Value.string).toArray (ρ.t 9) (0, 0)) := by
   show (w.heap.push _)[w.heap.size]? = _
   rw [Array.getElem?_push, if_pos rfl]
  have hsz : (w.alloc (.cells (l.map Value.string).toArray (ρ.t 9))).heap.size = w.heap.size + 1 := Array.size_push _
  refine ⟨{ E with ow := fun b => if b = w.heap.size then .own 0 [(0, 0)] else if b < w.heap.size then E.ow b else .far }, [_], rfl, ⟨?_, rfl, rfl, ⟨rfl, drw_le (Nat.le_refl _)⟩, fun b hb hf => ⟨hold b hb, ?_⟩, fun b hb hf => ⟨hold b hb, ?_⟩, fun _ _ => rfl, fun b cs ty h => ⟨cs, by rw [hold b (lt_of_get h), h], rfl⟩, fun r hr => absurd hr (Nat.not_lt_zero _)⟩, rfl, fun k R hR => by simp at hR, ?_, trivial⟩
  ·rw [hsz]; omega
  ·dsimp only; rw [if_neg (by omega), if_pos hb, hf]
  ·dsimp only; rw [if_neg (by omega), if_pos hb, hf]
  ·show Rep _ _ (.own 0 [(0, 0)]) (ow 1 D.str l) _
   unfold ow
   refine .olist _ 0 [(0, 0)] 1 _ _ _ _ (fun i _ => match l[i]? with
    | some y => .string y
    | none => undef) (.inl rfl) (by rw [List.length_map]) (Nat.le_refl _) (fun x hx => ?_) (fun _ => ⟨⟨w.heap.size, 0, none⟩, _, _, rfl, rfl, if_pos rfl, hnew, by simp, fun i j x c hx hc' => ?_⟩) (fun i j x c hx hc' => ?_)
   ·obtain ⟨y, _, rfl⟩ := List.mem_map.1 hx
    rfl
   ·rw [List.getElem?_map, Option.map_eq_some_iff] at hx
    obtain ⟨z, hz, rfl⟩ := hx
    have hc0 : j = 0 := by
     rcases j with _ | j
     ·rfl
     ·simp [D.cells] at hc'
    subst hc0
    rw [cell_add1 (a := ⟨w.heap.size, 0, none⟩) rfl hnew, hz]
    simp [hz]
   ·rw [List.getElem?_map, Option.map_eq_some_iff] at hx
    obtain ⟨z, hz, rfl⟩ := hx
    have hc0 : j = 0 := by
     rcases j with _ | j
     ·rfl
     ·simp [D.cells] at hc'
    subst hc0
    simp [D.cells] at hc'
    subst hc'
    rw [hz]
    exact .str _ _
 ·cases H
end Go.Proofs.YtogomlkoocbhcaaDoor.Ab
