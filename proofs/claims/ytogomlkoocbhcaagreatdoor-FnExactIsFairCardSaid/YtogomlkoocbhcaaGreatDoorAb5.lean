/- The steps of functions on plain data, part 5: no condition. -/
import Derived.Test.YtogomlkoocbhcaaGreatDoorAb4
import Derived.ChangeArms
import Derived.ChangeShapes
import Derived.ChangeOld
import Derived.DataReads
import Derived.WalkKit
import Derived.ProofKit
import Derived.OpenShut
import Derived.ShutString
import Derived.SizedLaws
import Derived.Carry
import Derived.Handed
import Derived.LaidHandle
import Derived.LaidMore
import Derived.LaidSub
import Derived.ChangeVars
import Derived.Shelf.Lays2
import Derived.Shelf.RegionOpenPlain
import Derived.Deep.LoopGhost
import Derived.Deep.RegionLaw
import Derived.Lib.Walk
import Derived.Lib.SliceRun
import Derived.Sort.WalkB12
import Derived.Lib.SlicesDelete
import Derived.Shelf.Sort.Plain
import Derived.Shelf.Slices.In.SortNone
import Derived.Test.YtogomlkoocbhcaaGreatDoorAb3
import Derived.Shelf.SlSortCmp.NoneTotal
import Derived.Sort.Grow
import Derived.Lib.LaidTab
import Derived.Deep.Draws
set_option linter.unusedVariables false
set_option linter.unusedSimpArgs false
open Go.RowKit
namespace Go.Proofs.YtogomlkoocbhcaaGreatDoor.Ab

def E0 : Env := ⟨fun _ => ⟨0, 0, none⟩, fun _ => 0, fun _ => .fz, fun _ => .fresh⟩

def Seg (w : World) (ds : List D) (cs : List Value) : Prop := ds.length = cs.length ∧ ∀ (j : Nat) c u, ds[j]? = some c → cs[j]? = some u → Rep E0 w .fz c u

theorem Seg.nil {w : World} {cs : List Value} (h : cs = []) : Seg w [] cs := ⟨by simp [h], fun j c u h => by simp at h⟩

theorem Seg.cons {w : World} {ds ds' : List D} {cs : List Value} {off sz : Nat} (h : Seg w ds ((cs.drop off).take sz)) (h' : Seg w ds' (cs.drop (off + sz))) : Seg w (ds ++ ds') (cs.drop off) := by
 have e : cs.drop off = (cs.drop off).take sz ++ cs.drop (off + sz) := by
  rw [← List.drop_drop, List.take_append_drop]
 rw [e]
 refine ⟨by simp only [List.length_append, h.1, h'.1], fun j c u hc hu => ?_⟩
 by_cases hj : j < ds.length
 ·rw [List.getElem?_append_left hj] at hc
  rw [List.getElem?_append_left (by rw [← h.1]; exact hj)] at hu
  exact h.2 j c u hc hu
 ·rw [List.getElem?_append_right (by omega)] at hc
  rw [List.getElem?_append_right (by rw [← h.1]; omega), ← h.1] at hu
  exact h'.2 _ c u hc hu

def Opn (P : Program) (t : TypeId) {α : Type} (f : α → D) (G : α → Prop) : Prop :=
 ∀ {H : Type} (enc : TypeId × Value → H) (w : World) (base : Nat) (spare : Nat → Bool) (held : Bool) (fuel : Nat) (cs : List Value) (x : DataW H × List MemPlace), DataW.trod enc P w base spare held fuel t cs = some x → ∃ a, G a ∧ Seg w (f a).cells cs

section
variable {P : Program} {t : TypeId}

theorem Opn.int {k : IntKind} (ht : P.underlying t = some (.int k)) : Opn P t (D.int k) fun n => (Lit.int k n).wf = true := by
 intro H enc w base spare held fuel cs x h
 obtain ⟨n, rfl, _, hw⟩ := DataW.trod_int ht h
 exact ⟨n, hw, rfl, fun j c u hc hu => by cases j <;> simp [D.cells] at hc hu; subst hc hu; exact .int _ _ _⟩

theorem Opn.bool (ht : P.underlying t = some .bool) : Opn P t D.bool fun _ => True := by
 intro H enc w base spare held fuel cs x h
 obtain ⟨n, rfl, _⟩ := DataW.trod_bool ht h
 exact ⟨n, trivial, rfl, fun j c u hc hu => by cases j <;> simp [D.cells] at hc hu; subst hc hu; exact .bool _ _⟩

theorem Opn.str (ht : P.underlying t = some .string) : Opn P t D.str fun s => s.size ≤ maxLen := by
 intro H enc w base spare held fuel cs x h
 obtain ⟨n, rfl, _, hw⟩ := DataW.trod_string ht h
 exact ⟨n, hw, rfl, fun j c u hc hu => by cases j <;> simp [D.cells] at hc hu; subst hc hu; exact .str _ _⟩

theorem pick_fun {α : Type} (Q : Nat → α → Prop) : ∀ n : Nat, (∀ i, i < n → ∃ a, Q i a) → ∃ l : List α, l.length = n ∧ ∀ (i : Nat) a, l[i]? = some a → Q i a
 | 0, _ => ⟨[], rfl, fun i a h => by simp at h⟩
 | n + 1, h => by
  obtain ⟨l, hl, hq⟩ := pick_fun Q n fun i hi => h i (by omega)
  obtain ⟨a, ha⟩ := h n (by omega)
  refine ⟨l ++ [a], by simp [hl], fun i b hb => ?_⟩
  by_cases hi : i < l.length
  ·rw [List.getElem?_append_left hi] at hb
   exact hq i b hb
  ·rw [List.getElem?_append_right (by omega)] at hb
   have : i - l.length = 0 := by
    have := (List.getElem?_eq_some_iff.1 hb).1
    simp at this
    omega
   rw [this] at hb
   simp at hb
   subst hb
   rw [show i = n by omega]
   exact ha

theorem Opn.slice {α : Type} {f : α → D} {G : α → Prop} {e : TypeId} {wd : Nat} (ht : P.underlying t = some (.slice e)) (hw : P.cellsOf e = wd) (h0 : 0 < wd) (hf : ∀ a, (f a).cells.length = wd) (h : Opn P e f G) :
  Opn P t (sl wd f) fun l => (∀ x ∈ l, G x) ∧ l.length ≤ maxLen := by
 intro H enc w base spare held fuel cs x hx
 rcases DataW.trod_slice ht hx with ⟨rfl, _⟩ | ⟨a, len, cap, elems, rest, n, _, rfl, _, hb, hl, hm, hlen, hel, _⟩
 ·refine ⟨[], ⟨by simp, by simp⟩, rfl, fun j c u hc hu => ?_⟩
  cases j <;> simp [D.cells, sl] at hc hu
  subst hc hu
  exact .flist _ _ _ _ _ _ _ (fun _ _ => undef) (.inr (.inl rfl)) rfl (Nat.le_refl _) (by simp) (fun h => by omega) (fun i j x c h => by simp at h)
 ·obtain ⟨l, hll, hq⟩ := pick_fun (fun i y => G y ∧ ∃ cs', w.cells? base (a.add (i * wd)) wd = some cs' ∧ Seg w (f y).cells cs') len fun i hi => by
   have h1 := hel i hi
   rw [List.getElem?_eq_getElem (by omega), hw, Option.bind_eq_some_iff] at h1
   obtain ⟨cs', hc, ht'⟩ := h1
   obtain ⟨y, hy, hs⟩ := h enc w base spare held n cs' _ ht'
   exact ⟨y, hy, cs', hc, hs⟩
  have hcell : ∀ (i j : Nat) y c, l[i]? = some y → (f y).cells[j]? = some c → ∃ u, w.cell? (a.add (i * wd + j)) = some u ∧ Rep E0 w .fz c u := fun i j y c hy hc => by
   obtain ⟨_, cs', hcs, hs⟩ := hq i y hy
   obtain ⟨_, hl', hcc⟩ := World.cells?_some hcs
   have hj : j < cs'.length := by rw [← hs.1]; exact (List.getElem?_eq_some_iff.1 hc).1
   have h2 := hcc j (by omega)
   rw [List.getElem?_eq_getElem hj] at h2
   rw [add_add] at h2
   exact ⟨_, h2, hs.2 j c _ hc (List.getElem?_eq_getElem hj)⟩
  refine ⟨l, ⟨fun y hy => ?_, by omega⟩, rfl, fun j c u hc hu => ?_⟩
  ·obtain ⟨i, hi⟩ := List.getElem?_of_mem hy
   exact (hq i y hi).1
  ·cases j <;> simp [D.cells, sl] at hc hu
   subst hc hu
   have key : ∀ (i j : Nat) x c, (List.map f l)[i]? = some x → x.cells[j]? = some c → w.cell? (a.add (i * wd + j)) = some ((w.cell? (a.add (i * wd + j))).getD undef) ∧ Rep E0 w .fz c ((w.cell? (a.add (i * wd + j))).getD undef) := fun i j x c hx hj => by
    rw [List.getElem?_map, Option.map_eq_some_iff] at hx
    obtain ⟨y, hy, rfl⟩ := hx
    obtain ⟨u, hu, hr⟩ := hcell i j y c hy hj
    rw [hu]
    exact ⟨rfl, hr⟩
   rw [hll]
   refine .flist _ _ _ _ _ _ _ (fun i j => (w.cell? (a.add (i * wd + j))).getD undef) (.inr (.inl rfl)) (by simp [hll]) hl (fun x hx => ?_) (fun hpos => ⟨a, rfl, rfl, ?_, fun i j x c hx hj => (key i j x c hx hj).1⟩) (fun i j x c hx hj => (key i j x c hx hj).2)
   ·obtain ⟨y, _, rfl⟩ := List.mem_map.1 hx
    exact hf y
   ·obtain ⟨_, cs', hcs, _⟩ := hq 0 _ (List.getElem?_eq_getElem (by omega))
    have := World.cells?_block hcs h0
    rwa [add_block] at this

theorem Opn.field {α : Type} {f : α → D} {G : α → Prop} (O : Opn P t f G) {H : Type} {enc : TypeId × Value → H} {w : World} {base : Nat} {spare : Nat → Bool} {held : Bool} {n : Nat} {fs : Array Field} {cs : List Value} {xs : List (DataW H × List MemPlace)}
  (hx : xs.length = fs.size) (hf : ∀ (i : Nat) (fd : Field), fs[i]? = some fd → DataW.trod enc P w base spare held n fd.type ((cs.drop fd.offset).take (P.cellsOf fd.type)) = xs[i]?) (i : Nat) {fd : Field} (hi : fs[i]? = some fd) (ht : fd.type = t) {off sz : Nat} (ho : fd.offset = off) (hs : P.cellsOf t = sz) :
  ∃ a, G a ∧ Seg w (f a).cells ((cs.drop off).take sz) := by
 have h1 := hf i fd hi
 have hlt : i < xs.length := by rw [hx]; exact (Array.getElem?_eq_some_iff.1 hi).1
 rw [List.getElem?_eq_getElem hlt, ht, ho, hs] at h1
 exact O enc w base spare held n _ _ h1

end

theorem post_below {w w' : World} {res : List D} {e : Ending} (h : Post E0 w [] res [] e w') : Below w.heap.size w w' := by
 obtain ⟨E', us, _, hF, _⟩ := h
 exact ⟨hF.os, hF.tape, hF.output.1, hF.sz, fun k hk => (hF.fz k hk rfl).1⟩

theorem post_true {w w' : World} {e : Ending} (h : Post E0 w [] [.bool true] [] e w') : e = .returned (.bool true) := by
 obtain ⟨E', us, he, _, _, _, hR⟩ := h
 match us, hR with
 | [u], hR =>
  obtain ⟨h1, _⟩ := hR
  have : u = .bool true := Rep.bool_inv h1
  rw [he, this]
  rfl

theorem law_walk {P : Program} {gl : List (Nat × D)} {f : FuncId} {args : List D} (h : Ct P gl f args [] [.bool true] []) {w : World} {vs : Array Value} (hg : GlOK gl E0 w) (hn : vs.size = args.length) (hr : ∀ (i : Nat) d v, args[i]? = some d → vs[i]? = some v → Rep E0 w .slot d v) :
  Calls P f vs w fun e w' => e = .returned (.bool true) ∧ Below w.heap.size w w' :=
 (h.2 E0 w vs hg hn hr (fun k R hk => by simp at hk) (fun k _ => rfl)).mono fun e w' hp => ⟨post_true hp, post_below hp⟩

end Go.Proofs.YtogomlkoocbhcaaGreatDoor.Ab

open Go.RowKit Go.ChangeShapes Go.WideShapes
namespace Go.Proofs.YtogomlkoocbhcaaGreatDoor.Ab

theorem Rep.fz_slot {E : Env} {w : World} {d : D} {v : Value} (h : Rep E w .fz d v) : Rep E w .slot d v := by
 generalize hm : Md.fz = m at h
 cases h with
 | int m k n => exact .int _ _ _
 | bool m b => exact .bool _ _
 | str m s => exact .str _ _
 | nil m => exact .nil _
 | undef m v hm' => exact .undef _ _ (.inl rfl)
 | hid m v h1 h2 hm' => exact .hid _ _ h1 h2 (.inl rfl)
 | anyb b => cases hm
 | fn => cases hm
 | agg => cases hm
 | tup => cases hm
 | flist m o wd n xs A cap us hm' hn hc hw ha h => exact .flist _ _ _ _ _ _ _ us (.inl rfl) hn hc hw ha h
 | olist m r p wd n xs A cap us hm' => subst hm; rcases hm' with h | h <;> cases h
 | ref m r wd vw v hm' hs h => exact .ref _ _ _ _ _ (.inl rfl) hs h
 | ptr m r wd i j v hm' hs h => exact .ptr _ _ _ _ _ _ (.inl rfl) hs h
 | fptr m wd xs i j a us hm' hw ha h => exact .fptr _ _ _ _ _ _ us (.inl rfl) hw ha h

def OpnV (P : Program) (t : TypeId) (Q : D → Prop) : Prop :=
 ∀ {H : Type} (enc : TypeId × Value → H) (w : World) (base b0 : Nat) (spare : Nat → Bool) (held : Bool) (v : Value) (d : DataW H) (ps : List MemPlace),
  Value.okWide P w .any b0 t v → DataW.Trod enc P w base spare held t v d ps → ∃ x, Q x ∧ Rep E0 w .slot x v

theorem Opn.one {P : Program} {t : TypeId} {α : Type} {f : α → D} {G : α → Prop} (O : Opn P t f G) (hv : ∀ {w : World} {b0 : Nat} {v : Value}, Value.okWide P w .any b0 t v → v.cells.toList = [v]) (hf : ∀ a, (f a).cells = [f a]) : OpnV P t fun d => ∃ a, d = f a ∧ G a := by
 intro H enc w base b0 spare held v d ps hw ⟨fuel, h⟩
 obtain ⟨a, hG, _, hs⟩ := O enc w base spare held fuel _ _ h
 refine ⟨f a, ⟨a, rfl, hG⟩, Rep.fz_slot (hs 0 _ _ (by rw [hf]; rfl) (by rw [hv hw]; rfl))⟩

theorem Opn.agg {P : Program} {t : TypeId} {α : Type} {f : α → D} {G : α → Prop} (O : Opn P t f G) {fs : Array Field} (ht : P.underlying t = some (.struct fs)) (hf : ∀ a, f a = .agg (f a).cells) : OpnV P t fun d => ∃ a, d = f a ∧ G a := by
 intro H enc w base b0 spare held v d ps hw ⟨fuel, h⟩
 obtain ⟨a, hG, hl, hs⟩ := O enc w base spare held fuel _ _ h
 obtain ⟨cs, rfl, _⟩ := okWide_struct ht hw
 refine ⟨f a, ⟨a, rfl, hG⟩, ?_⟩
 rw [hf a]
 refine .agg _ _ (by simpa [Value.cells] using hl) fun i c u hc hu => Rep.fz_slot (hs i c u hc ?_)
 simpa [Value.cells] using hu

theorem OpnV.int {P : Program} {t : TypeId} {k : IntKind} (ht : P.underlying t = some (.int k)) : OpnV P t fun d => ∃ n, d = .int k n ∧ (Lit.int k n).wf = true :=
 Opn.one (Opn.int ht) (fun hw => by obtain ⟨n, rfl⟩ := okWide_int ht hw; rfl) fun _ => rfl
theorem OpnV.bool {P : Program} {t : TypeId} (ht : P.underlying t = some .bool) : OpnV P t fun d => ∃ n, d = .bool n ∧ True :=
 Opn.one (Opn.bool ht) (fun hw => by obtain ⟨n, rfl⟩ := okWide_bool ht hw; rfl) fun _ => rfl
theorem OpnV.str {P : Program} {t : TypeId} (ht : P.underlying t = some .string) : OpnV P t fun d => ∃ s, d = .str s ∧ s.size ≤ maxLen :=
 Opn.one (Opn.str ht) (fun hw => by obtain ⟨n, rfl⟩ := okWide_string ht hw; rfl) fun _ => rfl
theorem OpnV.slice {P : Program} {t : TypeId} {α : Type} {f : α → D} {G : α → Prop} {e : TypeId} {wd : Nat} (ht : P.underlying t = some (.slice e)) (hw : P.cellsOf e = wd) (h0 : 0 < wd) (hf : ∀ a, (f a).cells.length = wd) (h : Opn P e f G) :
  OpnV P t fun d => ∃ l, d = sl wd f l ∧ (∀ x ∈ l, G x) ∧ l.length ≤ maxLen :=
 Opn.one (Opn.slice ht hw h0 hf h) (fun hw => by obtain ⟨a, n, c, rfl⟩ := okWide_slice ht hw; rfl) fun _ => rfl

theorem Opn.strct {P : Program} {t : TypeId} {α : Type} {f : α → D} {G : α → Prop} {fs : Array Field} (ht : P.underlying t = some (.struct fs))
  (h : ∀ {H : Type} (enc : TypeId × Value → H) (w : World) (base : Nat) (spare : Nat → Bool) (held : Bool) (n : Nat) (cs : List Value) (xs : List (DataW H × List MemPlace)), cs.length = P.cellsOf t → xs.length = fs.size →
   (∀ (i : Nat) (fd : Field), fs[i]? = some fd → DataW.trod enc P w base spare held n fd.type ((cs.drop fd.offset).take (P.cellsOf fd.type)) = xs[i]?) → ∃ a, G a ∧ Seg w (f a).cells cs) : Opn P t f G := by
 intro H enc w base spare held fuel cs x hx
 obtain ⟨xs, n, _, rfl, hl, hxs, hf⟩ := DataW.trod_struct ht hx
 exact h enc w base spare held n cs xs hl hxs hf

def fieldsOf (P : Program) (t : TypeId) : Array Field := match P.underlying t with
 | some (.struct fs) => fs
 | _ => #[]
def isStrct (P : Program) (t : TypeId) : Bool := match P.underlying t with
 | some (.struct _) => true
 | _ => false
theorem isStrct_ok {P : Program} {t : TypeId} (h : isStrct P t = true) : P.underlying t = some (.struct (fieldsOf P t)) := by
 unfold isStrct at h
 unfold fieldsOf
 split at h
 ·rename_i fs hu; rw [hu]
 ·cases h
def fieldAt (P : Program) (t : TypeId) (i : Nat) : Option (TypeId × Nat × Nat) := match (fieldsOf P t)[i]? with
 | some fd => some (fd.type, fd.offset, P.cellsOf fd.type)
 | none => none
theorem Opn.fieldAt {P : Program} {t ft : TypeId} {α : Type} {f : α → D} {G : α → Prop} (O : Opn P ft f G) {H : Type} {enc : TypeId × Value → H} {w : World} {base : Nat} {spare : Nat → Bool} {held : Bool} {n : Nat} {cs : List Value} {xs : List (DataW H × List MemPlace)}
  (hx : xs.length = (fieldsOf P t).size) (hf : ∀ (i : Nat) (fd : Field), (fieldsOf P t)[i]? = some fd → DataW.trod enc P w base spare held n fd.type ((cs.drop fd.offset).take (P.cellsOf fd.type)) = xs[i]?) (i : Nat) {off sz : Nat} (h : fieldAt P t i = some (ft, off, sz)) :
  ∃ a, G a ∧ Seg w (f a).cells ((cs.drop off).take sz) := by
 unfold Ab.fieldAt at h
 split at h
 ·rename_i fd hfd
  simp only [Option.some.injEq, Prod.mk.injEq] at h
  obtain ⟨h1, h2, h3⟩ := h
  exact Opn.field O hx hf i hfd h1 h2 (by rw [← h1]; exact h3)
 ·cases h

inductive OpnL (P : Program) : List TypeId → (List D → Prop) → Prop
 | nil : OpnL P [] fun ds => ds = []
 | cons {t : TypeId} {ts : List TypeId} {Q : D → Prop} {R : List D → Prop} (h : OpnV P t Q) (hr : OpnL P ts R) : OpnL P (t :: ts) fun ds => ∃ d r, ds = d :: r ∧ Q d ∧ R r

theorem OpnL.get {P : Program} {ts : List TypeId} {R : List D → Prop} (h : OpnL P ts R) {H : Type} {enc : TypeId × Value → H} {w : World} {b0 : Nat} : ∀ {vs : List Value} {ds : List (DataW H)} {ps : List MemPlace},
  (∀ (j : Nat) t v, ts[j]? = some t → vs[j]? = some v → Value.okWide P w .any b0 t v) → DataW.TrodAll enc P w 0 (fun _ => true) true ts vs ds ps → ∃ xs, R xs ∧ vs.length = xs.length ∧ ∀ (i : Nat) d v, xs[i]? = some d → vs[i]? = some v → Rep E0 w .slot d v := by
 induction h with
 | nil =>
  intro vs ds ps _ hA
  obtain ⟨rfl, rfl, rfl⟩ := trodAll_nil hA
  exact ⟨[], rfl, rfl, fun i d v h => by simp at h⟩
 | cons hv hr ih =>
  intro vs ds ps hok hA
  obtain ⟨v, vs', d, ds', p, q, rfl, rfl, rfl, h1, h2⟩ := trodAll_cons hA
  obtain ⟨x, hQ, hx⟩ := hv enc w 0 b0 _ true v d p (hok 0 _ _ rfl rfl) h1
  obtain ⟨xs, hR, hl, hxs⟩ := ih (fun j t v ht hv => hok (j + 1) t v (by simpa using ht) (by simpa using hv)) h2
  refine ⟨x :: xs, ⟨_, _, rfl, hQ, hR⟩, by simp [hl], fun i d v hd hv => ?_⟩
  cases i with
  | zero => simp at hd hv; subst hd hv; exact hx
  | succ i => exact hxs i d v (by simpa using hd) (by simpa using hv)

theorem trodAll_below {H : Type} {enc : TypeId × Value → H} {P : Program} (hl : laidOutB P = true) {W W' : World} (hb : Below W.heap.size W W') : ∀ {ts : List TypeId} {vs : List Value} {ds : List (DataW H)} {ps : List MemPlace},
  ts.all (fun t => P.readableRec t && decide (t < P.types.size)) = true → DataW.TrodAll enc P W 0 (fun _ => true) true ts vs ds ps → DataW.TrodAll enc P W' 0 (fun b => decide (b < W.heap.size)) true ts vs ds ps
 | [], vs, ds, ps, _, h => by
  obtain ⟨rfl, rfl, rfl⟩ := trodAll_nil h
  exact trodAll_mk0
 | t :: ts, vs, ds, ps, ha, h => by
  obtain ⟨v, vs', d, ds', p, q, rfl, rfl, rfl, h1, h2⟩ := trodAll_cons h
  simp only [List.all_cons, Bool.and_eq_true, decide_eq_true_eq] at ha
  have hlt : ∀ x ∈ p, x.block < W.heap.size := by
   obtain ⟨m, hm⟩ := h1
   exact DataW.trod_lt m _ _ _ hm
  exact ⟨_, _, Below.trod hl ha.1.1 ha.1.2 h1 hb hlt, trodAll_below hl hb ha.2 h2, rfl⟩

theorem law_returns {C : Checked} {os : Os} {f : FuncId} {fn : Func} {s : ChangeSpec} {conds : List PathCond} {Q : List D → Prop} {rt : TypeId} {H : Type} {enc : TypeId × Value → H}
  (own : ownKnob C.prog.godebug = none) (started : os.Started) (noInit : C.prog.inits.idxOf? f = none) (hfn : C.prog.funcs[f]? = some fn)
  (witness : ∃ (w : World) (tape : Tape) (i : Input), w.os = os ∧ (w.forCall tape i).Shaped C.prog ∧ i.vars = [] ∧ Input.okWide C.prog (w.forCall tape i) .any w.heap.size f i ∧
   s.pre6 enc C.prog fn conds false (w.forCall tape i).memory i.args ∧ ({} : Assume).holds C.prog (lone (Frame.enter C.prog f i.args .normal) [] (w.forCall tape i)))
  (laid : laidOutB C.prog = true) (hread : fn.params.toList.all (fun t => C.prog.readableRec t && decide (t < C.prog.types.size)) = true)
  (hres : fn.resultTypes = #[rt]) (hrt : C.prog.underlying rt = some .bool) (hvars : s.vars = [])
  (hspec : ∀ ds : List (DataW H), ds.length = fn.params.size → s.fn H ds = { results := [.lit (.bool true)], args := ds })
  (O : OpnL C.prog fn.params.toList Q) (law : ∀ xs, Q xs → Ct C.prog [] f xs [] [.bool true] []) :
  ReturnsInHanded {} C os f .any (s.pre6 enc C.prog fn conds false) (s.post enc C.prog fn false true false false) := by
 refine returnsInHanded_of_change_sized own started noInit hfn witness ?_
 intro W base args ds gs before hval hW hcnd hsz _
 have hW' := hW
 obtain ⟨p, q, hA, hV, rfl, hfz, hnd⟩ := hW
 rw [hvars] at hV
 obtain ⟨rfl, rfl⟩ := trodVars_none hV
 obtain ⟨xs, hQ, hl, hxs⟩ := O.get (fun j t v ht hv => hval j t v (by simpa using ht) (by simpa using hv)) hA
 have hlen : ds.length = fn.params.size := by
  have key : ∀ {ts : List TypeId} {vs : List Value} {ds : List (DataW H)} {ps : List MemPlace}, DataW.TrodAll enc C.prog W 0 (fun _ => true) true ts vs ds ps → ds.length = ts.length := by
   intro ts
   induction ts with
   | nil => intro vs ds ps h; obtain ⟨rfl, rfl, rfl⟩ := trodAll_nil h; rfl
   | cons t ts ih => intro vs ds ps h; obtain ⟨v, vs', d, ds', p, q, rfl, rfl, rfl, h1, h2⟩ := trodAll_cons h; simp [ih h2]
  simpa using key hA
 refine (law_walk (law xs hQ) (w := W) (vs := args) (fun x h => by cases h) (by simpa using hl) (fun i d v hd hv => hxs i d v hd (by simpa using hv))).mono fun e W' ⟨he, bel⟩ => ?_
 subst he
 have hb := trodAll_below laid bel hread hA
 refine ⟨_, rfl, ds, [], _, [], p, [], hW', ?_, ?_, ?_, bel.frame _, fun h => by cases h⟩
 ·rw [hspec _ (by simpa using hlen), hres]
  exact trodAll_mk1 (shut_bool hrt _)
 ·rw [hspec _ (by simpa using hlen)]
  simpa using hb
 ·rw [hspec _ (by simpa using hlen), hvars]
  rfl

theorem u8_wf {n : Int} (h : (Lit.int .u8 n).wf = true) : 0 ≤ n ∧ n < 256 := by
 simp [Lit.wf, IntKind.min, IntKind.max, IntKind.signed, IntKind.bits] at h
 omega
theorem i64_wf {n : Int} (h : (Lit.int .i64 n).wf = true) : -9223372036854775808 ≤ n ∧ n ≤ 9223372036854775807 := by
 simp [Lit.wf, IntKind.min, IntKind.max, IntKind.signed, IntKind.bits] at h
 omega

end Go.Proofs.YtogomlkoocbhcaaGreatDoor.Ab

open Go Go.RowKit Go.ChangeShapes Go.WideShapes
namespace Go.Proofs.YtogomlkoocbhcaaGreatDoor.Ab

def layAll (f : TypeId → DataW Unit → Option (List Value)) : List (TypeId × DataW Unit) → Option (List (List Value))
 | [] => some []
 | (t, d) :: r => match f t d, layAll f r with
  | some v, some vs => some (v :: vs)
  | _, _ => none
def offsOk (P : Program) : Nat → List Field → List (List Value) → Bool
 | _, [], [] => true
 | o, f :: fs, v :: vs => Nat.beq f.offset o && Nat.beq (P.cellsOf f.type) v.length && offsOk P (o + v.length) fs vs
 | _, _, _ => false
def layOf (P : Program) : Nat → TypeId → DataW Unit → Option (List Value)
 | 0, _, _ => none
 | n + 1, t, d => match P.underlying t with
  | some (.int k) => (match d with
   | .lit (.int k' m) => if k = k' then some [.int k m] else none
   | _ => none)
  | some .string => (match d with
   | .lit (.string b) => some [.string ⟨b.toArray⟩]
   | _ => none)
  | some (.struct fs) => (match d with
   | .agg ds => match layAll (layOf P n) ((fs.toList.map (·.type)).zip ds) with
    | some vss => if Nat.beq fs.size ds.length && offsOk P 0 fs.toList vss && Nat.beq (P.cellsOf t) vss.flatten.length then some vss.flatten else none
    | none => none
   | _ => none)
  | some (.array m e) => (match d with
   | .agg ds => match layAll (layOf P n) (ds.map fun x => (e, x)) with
    | some vss => if Nat.beq m ds.length && vss.all (fun v => Nat.beq v.length (P.cellsOf e)) && Nat.beq (P.cellsOf t) vss.flatten.length then some vss.flatten else none
    | none => none
   | _ => none)
  | _ => none

theorem layAll_get {f : TypeId → DataW Unit → Option (List Value)} : ∀ {l : List (TypeId × DataW Unit)} {vss : List (List Value)}, layAll f l = some vss → vss.length = l.length ∧ ∀ (i : Nat) t d, l[i]? = some (t, d) → ∃ v, vss[i]? = some v ∧ f t d = some v
 | [], vss, h => by
  simp only [layAll, Option.some.injEq] at h
  subst h
  exact ⟨rfl, fun i t d h => by simp at h⟩
 | (t, d) :: r, vss, h => by
  unfold layAll at h
  split at h
  ·rename_i v vs hv hvs
   simp only [Option.some.injEq] at h
   subst h
   obtain ⟨h1, h2⟩ := layAll_get hvs
   refine ⟨by simp [h1], fun i t' d' hi => ?_⟩
   cases i with
   | zero => simp at hi; obtain ⟨rfl, rfl⟩ := hi; exact ⟨v, rfl, hv⟩
   | succ i => exact h2 i t' d' (by simpa using hi)
  ·cases h

theorem pieces : ∀ (vss : List (List Value)) (cs : List Value), cs.length = vss.flatten.length → (∀ (i : Nat) v, vss[i]? = some v → (cs.drop (vss.take i).flatten.length).take v.length = v) → cs = vss.flatten
 | [], cs, h, _ => by simpa using h
 | v :: r, cs, h, hp => by
  have h0 := hp 0 v rfl
  simp only [List.take_zero, List.flatten_nil, List.length_nil, List.drop_zero] at h0
  have hr := pieces r (cs.drop v.length) (by simp only [List.flatten_cons, List.length_append] at h; rw [List.length_drop]; omega) (fun i u hi => by
   have := hp (i + 1) u (by simpa using hi)
   rw [List.take_succ_cons, List.flatten_cons, List.length_append, ← List.drop_drop] at this
   exact this)
  rw [List.flatten_cons, ← hr]
  exact (List.take_append_drop v.length cs).symm.trans (by rw [h0])

theorem offsOk_get {P : Program} : ∀ {fs : List Field} {vss : List (List Value)} {o : Nat}, offsOk P o fs vss = true → ∀ (i : Nat) f v, fs[i]? = some f → vss[i]? = some v → f.offset = o + (vss.take i).flatten.length ∧ P.cellsOf f.type = v.length
 | [], [], o, _ => fun i f v h => by simp at h
 | [], _ :: _, o, h => by simp [offsOk] at h
 | _ :: _, [], o, h => by simp [offsOk] at h
 | f :: fs, v :: vs, o, h => fun i f' v' hf hv => by
  simp only [offsOk, Bool.and_eq_true, Nat.beq_eq] at h
  cases i with
  | zero =>
   simp at hf hv
   subst hf hv
   simp [h.1.1, h.1.2]
  | succ i =>
   have := offsOk_get h.2 i f' v' (by simpa using hf) (by simpa using hv)
   simp only [List.take_succ_cons, List.flatten_cons, List.length_append]
   omega

section
variable {P : Program} {w : World} {base : Nat} {spare : Nat → Bool} {held : Bool}
theorem lay_ok : ∀ (n : Nat) {t : TypeId} {d : DataW Unit} {vs cs : List Value} {fuel : Nat} {p : List MemPlace},
  layOf P n t d = some vs → DataW.trod (fun _ => ()) P w base spare held fuel t cs = some (d, p) → cs = vs
 | 0, t, d, vs, cs, fuel, p, h, _ => by simp [layOf] at h
 | n + 1, t, d, vs, cs, fuel, p, h, ht => by
  unfold layOf at h
  split at h
  ·rename_i k hu
   obtain ⟨m, rfl, hx, _⟩ := DataW.trod_int hu ht
   simp only [Prod.mk.injEq] at hx
   obtain ⟨rfl, _⟩ := hx
   simp at h
   exact h
  ·rename_i hu
   obtain ⟨s, rfl, hx, _⟩ := DataW.trod_string hu ht
   simp only [Prod.mk.injEq] at hx
   obtain ⟨rfl, _⟩ := hx
   simp at h
   exact h
  ·rename_i fs hu
   obtain ⟨xs, m, rfl, hx, hl, hxs, hf⟩ := DataW.trod_struct hu ht
   simp only [Prod.mk.injEq] at hx
   obtain ⟨rfl, _⟩ := hx
   simp only at h
   split at h
   ·rename_i vss hv
    split at h
    ·rename_i hc
     simp only [Bool.and_eq_true, Nat.beq_eq] at hc
     simp only [Option.some.injEq] at h
     subst h
     obtain ⟨h1, h2⟩ := layAll_get hv
     refine pieces vss cs (by rw [hl, hc.2]) fun i v hi => ?_
     have hlt : i < vss.length := (List.getElem?_eq_some_iff.1 hi).1
     rw [h1, List.length_zip, List.length_map, List.length_map] at hlt
     have hlt1 : i < fs.size := by simp at hlt; omega
     have hlt2 : i < xs.length := by omega
     have hfi : fs[i]? = some fs[i] := Array.getElem?_eq_getElem hlt1
     have hxi : xs[i]? = some xs[i] := List.getElem?_eq_getElem hlt2
     obtain ⟨v', e1, e2⟩ := h2 i fs[i].type xs[i].1 (by
      rw [List.getElem?_zip_eq_some]
      exact ⟨by simp [hlt1], by simp [List.getElem?_map, hxi]⟩)
     obtain rfl : v = v' := Option.some.inj (hi.symm.trans e1)
     obtain ⟨o1, o2⟩ := offsOk_get hc.1.2 i fs[i] v (by simp [hlt1]) hi
     have := hf i _ hfi
     rw [hxi, o2, o1, Nat.zero_add] at this
     exact lay_ok n e2 this
    ·cases h
   ·cases h
  ·rename_i m e hu
   obtain ⟨xs, k, rfl, hx, hl, hxs, hf⟩ := DataW.trod_array hu ht
   simp only [Prod.mk.injEq] at hx
   obtain ⟨rfl, _⟩ := hx
   simp only at h
   split at h
   ·rename_i vss hv
    split at h
    ·rename_i hc
     simp only [Bool.and_eq_true, Nat.beq_eq] at hc
     simp only [Option.some.injEq] at h
     subst h
     obtain ⟨h1, h2⟩ := layAll_get hv
     have hall : ∀ v ∈ vss, v.length = P.cellsOf e := fun v hv => by simpa using List.all_eq_true.1 hc.1.2 v hv
     refine pieces vss cs (by rw [hl, hc.2]) fun i v hi => ?_
     have hlt : i < vss.length := (List.getElem?_eq_some_iff.1 hi).1
     rw [h1, List.length_map, List.length_map] at hlt
     have hxi : xs[i]? = some xs[i] := List.getElem?_eq_getElem hlt
     obtain ⟨v', e1, e2⟩ := h2 i e xs[i].1 (by simp [hxi])
     obtain rfl : v = v' := Option.some.inj (hi.symm.trans e1)
     have hlen : (vss.take i).flatten.length = i * P.cellsOf e := by
      have key : ∀ (l : List (List Value)), (∀ v ∈ l, v.length = P.cellsOf e) → l.flatten.length = l.length * P.cellsOf e := by
       intro l
       induction l with
       | nil => intro _; simp
       | cons a r ih => intro h; rw [List.flatten_cons, List.length_append, ih fun v hv => h v (List.mem_cons_of_mem _ hv), h a List.mem_cons_self, List.length_cons, Nat.succ_mul, Nat.add_comm]
      rw [key _ fun v hv => hall v (List.mem_of_mem_take hv), List.length_take, Nat.min_eq_left (by have := (List.getElem?_eq_some_iff.1 hi).1; omega)]
     have := hf i (by omega)
     rw [hxi] at this
     rw [hlen, hall v (List.mem_of_getElem? hi)]
     exact lay_ok n e2 this
    ·cases h
   ·cases h
  ·cases h
end

def litOk : Value → Bool
 | .int _ _ | .string _ | .bool _ => true
 | _ => false
theorem leaf_rep {E : Env} {w : World} {m : Md} {v : Value} (h : litOk v = true) : Rep E w m (leafOf v) v := by
 cases v with
 | bool b => exact .bool _ _
 | int k n => exact .int _ _ _
 | string s => exact .str _ _
 | _ => cases h

def laidOne (P : Program) (x : String × DataW Unit) : Option (Nat × List D) :=
 match P.globalNamed x.1 with
 | some g => match (P.globals[g]?).map (·.type) with
  | some t => match layOf P 8 t x.2 with
   | some vs => if vs.all litOk then some (g, vs.map leafOf) else none
   | none => none
  | none => none
 | none => none

theorem laid_gl {P : Program} {W : World} : ∀ {laid : List (String × DataW Unit)} {ps : List MemPlace}, DataW.LaidVars P W laid ps → ∀ (x : String × DataW Unit), x ∈ laid → ∀ g cs, laidOne P x = some (g, cs) →
  Rep E0 W .slot (.fptr cs.length [.agg cs] 0 0) (.pointer (some ⟨g, 0, none⟩)) ∧ ∃ cs' ty z, W.heap[g]? = some (.cells cs' ty z) ∧ cs'.toList.map leafOf = cs
 | [], ps, _, x, hx, _, _, _ => by cases hx
 | (n, d) :: r, ps, ⟨g0, t, vs, fuel, p, q, hg, ht, hv, hd, hr, _⟩, x, hx, g, cs, ho => by
  rcases List.mem_cons.1 hx with rfl | hx
  ·unfold laidOne at ho
   simp only [hg, ht] at ho
   split at ho
   ·rename_i us hl
    split at ho
    ·rename_i hall
     simp only [Option.some.injEq, Prod.mk.injEq] at ho
     obtain ⟨rfl, rfl⟩ := ho
     have e := lay_ok 8 hl hd
     have hall' : ∀ v ∈ us, litOk v = true := fun v hv => List.all_eq_true.1 hall v hv
     have hcell : ∀ (j : Nat) (c : D), (us.map leafOf)[j]? = some c → ∃ u, us[j]? = some u ∧ c = leafOf u := by
      intro j c hc
      rw [List.getElem?_map] at hc
      cases hu : us[j]? with
      | none => rw [hu] at hc; cases hc
      | some u => rw [hu] at hc; exact ⟨u, rfl, (Option.some.inj hc).symm⟩
     have hsz : g0 < W.heap.size := by
      unfold World.var? at hv
      simp only [hg, Option.bind_some] at hv
      split at hv
      ·rename_i h; exact lt_of_get h
      ·cases hv
     have := Rep.fptr (E := E0) (w := W) .slot (us.map leafOf).length [.agg (us.map leafOf)] 0 0 ⟨g0, 0, none⟩ (fun _ j => (us[j]?).getD (.bool false)) (.inl rfl) (fun x hx => by rw [List.mem_singleton] at hx; subst hx; rfl)
      ⟨rfl, hsz, fun i j x c hx hc => ?_⟩ (fun i j x c hx hc => ?_)
     ·refine ⟨by simpa [Addr.add] using this, ?_⟩
      unfold World.var? at hv
      simp only [hg, Option.bind_some] at hv
      split at hv
      ·rename_i cs' ty z hh
       cases hv
       exact ⟨_, ty, z, hh, by rw [e]⟩
      ·cases hv
     ·match i, hx with
      | 0, hx =>
       simp at hx
       subst hx
       obtain ⟨u, hu, _⟩ := hcell j c hc
       have := World.var?_cell hg hv j
       rw [hu]
       simp only [Nat.zero_mul, Nat.zero_add, Option.getD_some]
       rw [show (⟨g0, 0, none⟩ : Addr).add j = ⟨g0, j, none⟩ from by cases j <;> simp [Addr.add], this, ← Array.getElem?_toList, e, hu]
      | i + 1, hx => simp at hx
     ·match i, hx with
      | 0, hx =>
       simp at hx
       subst hx
       obtain ⟨u, hu, rfl⟩ := hcell j c hc
       rw [hu]
       exact leaf_rep (hall' u (List.mem_of_getElem? hu))
      | i + 1, hx => simp at hx
    ·cases ho
   ·cases ho
  ·exact laid_gl hr x hx g cs ho

def glFind (P : Program) : List (String × DataW Unit) → Nat → Option (List D)
 | [], _ => none
 | x :: r, g => match laidOne P x with
  | some (g', cs) => if Nat.beq g g' then some cs else glFind P r g
  | none => glFind P r g
def glSel (P : Program) (laid : List (String × DataW Unit)) : List Nat → Option (List (Nat × D))
 | [] => some []
 | g :: gs => match glFind P laid g, glSel P laid gs with
  | some cs, some l => some ((g, .fptr cs.length [.agg cs] 0 0) :: l)
  | _, _ => none
theorem glFind_mem {P : Program} {g : Nat} {cs : List D} : ∀ {laid : List (String × DataW Unit)}, glFind P laid g = some cs → ∃ x ∈ laid, laidOne P x = some (g, cs)
 | [], h => by cases h
 | x :: r, h => by
  unfold glFind at h
  split at h
  ·rename_i g' cs' h1
   split at h
   ·rename_i he
    cases h
    rw [Nat.eq_of_beq_eq_true he]
    exact ⟨x, List.mem_cons_self, h1⟩
   ·obtain ⟨y, hy, e⟩ := glFind_mem h
    exact ⟨y, List.mem_cons_of_mem _ hy, e⟩
  ·obtain ⟨y, hy, e⟩ := glFind_mem h
   exact ⟨y, List.mem_cons_of_mem _ hy, e⟩
theorem glSel_mem {P : Program} {laid : List (String × DataW Unit)} : ∀ {gs : List Nat} {gl : List (Nat × D)}, glSel P laid gs = some gl → ∀ y ∈ gl, ∃ x ∈ laid, ∃ g cs, laidOne P x = some (g, cs) ∧ y = (g, .fptr cs.length [.agg cs] 0 0)
 | [], gl, h, y, hy => by
  simp only [glSel, Option.some.injEq] at h
  subst h
  cases hy
 | g :: gs, gl, h, y, hy => by
  unfold glSel at h
  split at h
  ·rename_i cs l h1 h2
   simp only [Option.some.injEq] at h
   subst h
   rcases List.mem_cons.1 hy with rfl | hy
   ·obtain ⟨x, hx, e⟩ := glFind_mem h1
    exact ⟨x, hx, g, cs, e, rfl⟩
   ·exact glSel_mem h2 y hy
  ·cases h
theorem laid_filter {laid : List (String × DataW Unit)} (hplain : laid.all (fun x => x.2.handleName?.isNone) = true) : (laid.filter fun x => x.2.handleName?.isNone) = laid ∧ (laid.filter fun x => x.2.handleName?.isSome) = [] := by
 refine ⟨List.filter_eq_self.2 fun x hx => List.all_eq_true.1 hplain x hx, List.filter_eq_nil_iff.2 fun x hx => ?_⟩
 have := List.all_eq_true.1 hplain x hx
 cases hh : x.2.handleName? with
 | none => simp
 | some a => rw [hh] at this; cases this
theorem laidMetH_heap {P : Program} {w w' : World} {laid : List (String × DataW Unit)} (hplain : laid.all (fun x => x.2.handleName?.isNone) = true) (hh : w.heap = w'.heap) (h : laidMetH P laid w) : laidMetH P laid w' := by
 obtain ⟨h1, h2⟩ := laidMetH_iff.1 h
 refine laidMetH_iff.2 ⟨h1.of_heap hh, ?_⟩
 rw [(laid_filter hplain).2]
 exact fun x hx => by cases hx
theorem gl_ok {P : Program} {W : World} {laid : List (String × DataW Unit)} {gl : List (Nat × D)} (hplain : laid.all (fun x => x.2.handleName?.isNone) = true) (h : glSel P laid (gl.map Prod.fst) = some gl) (hL : laidMetH P laid W) : GlOK gl E0 W := by
 have hm : laidMet P (laid.filter fun x => x.2.handleName?.isNone) W := (laidMetH_iff.1 hL).1
 have hf : (laid.filter fun x => x.2.handleName?.isNone) = laid := List.filter_eq_self.2 fun x hx => List.all_eq_true.1 hplain x hx
 rw [hf] at hm
 obtain ⟨ps, hv, _⟩ := hm
 intro y hy
 obtain ⟨x, hx, g, cs, e1, rfl⟩ := glSel_mem h y hy
 obtain ⟨k1, k2⟩ := laid_gl hv x hx g cs e1
 exact ⟨⟨_, _, _, _, rfl⟩, k1, rfl, k2⟩

def varsOk (P : Program) (ns : List String) : Bool := ns.all fun n => match P.globalNamed n with
 | some g => match (P.globals[g]?).map (·.type) with
  | some t => P.readableRec t && decide (t < P.types.size)
  | none => false
 | none => false
theorem trodVars_below {H : Type} {enc : TypeId × Value → H} {P : Program} (hl : laidOutB P = true) {W W' : World} (hb : Below W.heap.size W W') : ∀ {ns : List String} {gs : List (DataW H)} {q : List MemPlace},
  varsOk P ns = true → DataW.TrodVars enc P W (fun _ => true) ns gs q → DataW.TrodVars enc P W' (fun b => decide (b < W.heap.size)) ns gs q
 | [], [], q, _, h => h
 | [], _ :: _, q, _, h => by simp [DataW.TrodVars] at h
 | _ :: _, [], q, _, h => by simp [DataW.TrodVars] at h
 | n :: ns, d :: ds, q, ha, ⟨g, t, cs, fuel, p, q', hg, ht, hv, hd, hr, e⟩ => by
  unfold varsOk at ha
  simp only [List.all_cons, hg, ht, Bool.and_eq_true, decide_eq_true_eq] at ha
  have hsz : g < W.heap.size := by
   unfold World.var? at hv
   simp only [hg, Option.bind_some] at hv
   split at hv
   ·rename_i h; exact lt_of_get h
   ·cases hv
  have hlt : ∀ x ∈ p, x.block < W.heap.size := DataW.trod_lt _ _ _ _ hd
  obtain ⟨fuel', hd'⟩ := Below.trod hl ha.1.1 ha.1.2 (v := .agg cs) ⟨fuel, hd⟩ hb hlt
  have hv' : W'.var? P n = some cs := by
   rw [← hv]
   unfold World.var?
   simp only [hg, Option.bind_some, hb.block g hsz]
  exact ⟨g, t, cs, fuel', p, q', hg, ht, hv', hd', trodVars_below hl hb (by unfold varsOk; exact ha.2) hr, e⟩

theorem law_returns_laid {C : Checked} {os : Os} {f : FuncId} {fn : Func} {s : ChangeSpec} {conds : List PathCond} {Q : List D → Prop} {rt : TypeId} {H : Type} {enc : TypeId × Value → H}
  {laid : List (String × DataW Unit)} {gl : List (Nat × D)}
  (own : ownKnob C.prog.godebug = none) (started : os.Started) (noInit : C.prog.inits.idxOf? f = none) (hfn : C.prog.funcs[f]? = some fn)
  (witness : ∃ (w : World) (tape : Tape) (i : Input), w.os = os ∧ (w.forCall tape i).Shaped C.prog ∧ i.vars = [] ∧ Input.okWide C.prog (w.forCall tape i) .any w.heap.size f i ∧
   ((s.pre enc C.prog fn conds false (w.forCall tape i).memory i.args ∧ laidMetH C.prog laid (w.forCall tape i).memory) ∧ sizedMet enc C.prog fn (OpenSpec.ofChange s) false (w.forCall tape i).memory i.args) ∧
    ({} : Assume).holds C.prog (lone (Frame.enter C.prog f i.args .normal) [] (w.forCall tape i)))
  (laidout : laidOutB C.prog = true) (hread : fn.params.toList.all (fun t => C.prog.readableRec t && decide (t < C.prog.types.size)) = true)
  (hres : fn.resultTypes = #[rt]) (hrt : C.prog.underlying rt = some .bool) (hvars : varsOk C.prog s.vars = true)
  (hspec : ∀ ds gs : List (DataW H), ds.length = fn.params.size → gs.length = s.vars.length → s.fn H (ds ++ gs) = { results := [.lit (.bool true)], args := ds, vars := gs })
  (hplain : laid.all (fun x => x.2.handleName?.isNone) = true) (hgl : glSel C.prog laid (gl.map Prod.fst) = some gl)
  (O : OpnL C.prog fn.params.toList Q) (law : ∀ xs, Q xs → Ct C.prog gl f xs [] [.bool true] []) :
  ReturnsInHanded {} C os f .any (fun w args => (s.pre enc C.prog fn conds false w args ∧ laidMetH C.prog laid w) ∧ sizedMet enc C.prog fn (OpenSpec.ofChange s) false w args) (s.post enc C.prog fn false true false false) := by
 refine returnsInHanded_of_change_and (X := fun w _ => laidMetH C.prog laid w) (fun _ _ _ hh h => laidMetH_heap hplain hh h) own started noInit hfn witness ?_
 intro W base args ds gs before hval hW hcnd hsz hL _
 have hW' := hW
 obtain ⟨p, q, hA, hV, rfl, hfz, hnd⟩ := hW
 obtain ⟨xs, hQ, hl, hxs⟩ := O.get (fun j t v ht hv => hval j t v (by simpa using ht) (by simpa using hv)) hA
 have hlen : ds.length = fn.params.size := by
  have key : ∀ {ts : List TypeId} {vs : List Value} {ds : List (DataW H)} {ps : List MemPlace}, DataW.TrodAll enc C.prog W 0 (fun _ => true) true ts vs ds ps → ds.length = ts.length := by
   intro ts
   induction ts with
   | nil => intro vs ds ps h; obtain ⟨rfl, rfl, rfl⟩ := trodAll_nil h; rfl
   | cons t ts ih => intro vs ds ps h; obtain ⟨v, vs', d, ds', p, q, rfl, rfl, rfl, h1, h2⟩ := trodAll_cons h; simp [ih h2]
  simpa using key hA
 have hgs : gs.length = s.vars.length := by
  have key : ∀ {ns : List String} {gs : List (DataW H)} {q : List MemPlace}, DataW.TrodVars enc C.prog W (fun _ => true) ns gs q → gs.length = ns.length := by
   intro ns
   induction ns with
   | nil => intro gs q h; cases gs with
    | nil => rfl
    | cons a r => simp [DataW.TrodVars] at h
   | cons n ns ih => intro gs q h; cases gs with
    | nil => simp [DataW.TrodVars] at h
    | cons a r => obtain ⟨g, t, cs, fuel, p, q', _, _, _, _, hr, _⟩ := h; simp [ih hr]
  exact key hV
 refine (law_walk (law xs hQ) (w := W) (vs := args) (gl_ok hplain hgl hL) (by simpa using hl) (fun i d v hd hv => hxs i d v hd (by simpa using hv))).mono fun e W' ⟨he, bel⟩ => ?_
 subst he
 have hb := trodAll_below laidout bel hread hA
 have hbv := trodVars_below laidout bel hvars hV
 refine ⟨_, rfl, ds, gs, _, [], p, q, hW', ?_, ?_, ?_, bel.frame _, fun h => by cases h⟩
 ·rw [hspec _ _ (by simpa using hlen) hgs, hres]
  exact trodAll_mk1 (shut_bool hrt _)
 ·rw [hspec _ _ (by simpa using hlen) hgs]
  simpa using hb
 ·rw [hspec _ _ (by simpa using hlen) hgs]
  simpa using hbv

end Go.Proofs.YtogomlkoocbhcaaGreatDoor.Ab

namespace Go.Proofs.YtogomlkoocbhcaaGreatDoor.Ab
open Go.Shelf Go.RowKit Go.Lib Go.Sort
variable {P : Program} {ρ : Ren}

theorem heap_cell {w : World} {b : Nat} {cs : Array Value} {ty : Nat} (hh : w.heap[b]? = some (.cells cs ty (0, 0))) (m : Nat) : w.cell? ⟨b, m, none⟩ = cs[m]? ∧ w.frozen? ⟨b, m, none⟩ = false := by
 unfold World.cell? World.frozen?
 simp only [hh]
 simp

theorem del_calls (L : Lays2.n23 P ρ) (b off n cap i j ty : Nat) (cs : Array Value) (l : List Int) (w : World) (hl : l.length = n) (hh : w.heap[b]? = some (.cells cs ty (0, 0))) (hs : off + n ≤ cs.size)
  (hc : ∀ (t : Nat) x, l[t]? = some x → cs[off + t]? = some (.int .i64 x)) (hcap : n ≤ cap) (hm : n ≤ 9223372036854775807) (hij : i < j) (hj : j ≤ n) :
  Calls P (ρ.f 23) #[.slice (some ⟨b, off, none⟩) n cap, .int .i64 i, .int .i64 j] w fun e w' => e = .returned (.slice (some ⟨b, off, none⟩) (i + (n - j)) cap) ∧
   w' = (w.drew.setCells b (off + i * 1) ((l.drop j).map (Value.int .i64))).setCells b (off + (i + (n - j))) (List.replicate (n - (i + (n - j))) (.int .i64 0)) := by
 have mixed := L.mixed; have t0 := L.t0; have a0 := L.a0; have z0 := L.z0; have v0 := L.v0; have t3 := L.t3; have a3 := L.a3; have z3 := L.z3; have v3 := L.v3; have t4 := L.t4; have a4 := L.a4; have z4 := L.z4; have v4 := L.v4; have t22 := L.t22; have a22 := L.a22; have z22 := L.z22; have v22 := L.v22
 obtain ⟨i0, hi0, hz0, hz1, hz2⟩ := info_parts L.i3
 have hhd : w.drew.heap[b]? = some (.cells cs ty (0, 0)) := hh
 obtain ⟨news, hnews⟩ : ∃ news, news = (l.drop j).map (Value.int .i64) := ⟨_, rfl⟩
 have hlen : news.length = n - j := by rw [hnews]; simp [hl]
 obtain ⟨A, hA, hsrc⟩ : ∃ A : Addr, (if cap = j then some (⟨b, off, none⟩ : Addr) else some ⟨b, off + j, none⟩) = some A ∧ Hid (∀ (t : Nat) u, news[t]? = some u → w.drew.cell? (A.add t) = some u) := by
  by_cases h : cap = j
  ·refine ⟨⟨b, off, none⟩, by simp [h], fun t u hu => ?_⟩
   have h0 : news.length = 0 := by omega
   rw [List.length_eq_zero_iff.1 h0] at hu
   simp at hu
  ·refine ⟨⟨b, off + j, none⟩, by simp [h], fun t u hu => ?_⟩
   rw [Addr.add_lit, (heap_cell hhd _).1]
   rw [hnews, List.getElem?_map, List.getElem?_drop, Option.map_eq_some_iff] at hu
   obtain ⟨x, hx, rfl⟩ := hu
   rw [Nat.add_assoc]
   exact hc _ _ hx
 have s1 : Hid (news.length = (n - j) * 1) := by rw [Nat.mul_one]; exact hlen
 have s2 : Hid (∀ u ∈ news, u.oneCell' = true) := by
  intro u hu
  rw [hnews] at hu
  obtain ⟨x, _, rfl⟩ := List.mem_map.1 hu
  rfl
 have s3 : Hid (∀ t, t < news.length → (w.drew.cell? ⟨b, off + i * 1 + t, none⟩).isSome = true ∧ w.drew.frozen? ⟨b, off + i * 1 + t, none⟩ = false) := by
  intro t ht
  rw [(heap_cell hhd _).1]
  exact ⟨by rw [Array.getElem?_eq_getElem (by omega)]; rfl, (heap_cell hhd _).2⟩
 obtain ⟨W1, hW1⟩ : ∃ W1, W1 = w.drew.setCells b (off + i * 1) news := ⟨_, rfl⟩
 obtain ⟨cs1, hh1, hz, _⟩ := setCells_heap b news (off + i * 1) w.drew cs ty (0, 0) hhd (by omega)
 rw [← hW1] at hh1
 have hcl : ∀ ty, (Builtin.clear_ #[ρ.t 22] ty #[.slice (some ⟨b, off + (i + (n - j)), none⟩) (n - (i + (n - j))) (cap - (i + (n - j)))]).run P W1 = .ok (.tuple #[]) (W1.setCells b (off + (i + (n - j))) (List.replicate (n - (i + (n - j))) (.int .i64 0))) :=
  fun ty => Lib.run_clear_slice W1 _ _ ty _ t22 v3 rfl rfl b (off + (i + (n - j))) _ _ (by omega) (fun t ht => by rw [(heap_cell hh1 _).1, Array.getElem?_eq_getElem (by omega)]; rfl) (fun t ht => (heap_cell hh1 _).2)
 have hW : Hid (W1 = w.drew.setCells b (off + i * 1) news) := hW1
 rw [← hnews, ← hW1]
 have hic : i ≤ cap := by omega
 have hjc : j ≤ cap := by omega
 clear hW1 hh1 hc hh hhd hnews hlen hz
 go_enter L.f23, Body2.n23_ntmps ρ
 go_wp2_with fail
 go_region_law_o (refine step_append_room rfl (.tmp 22) (.tmp 25) (ρ.t 22) rfl (ρ.t 3) i0 1 t22 hi0 hz1 b off i cap (by simp [Act.eval, Act.put]) A (n - j) (cap - j) news (by simp [Act.eval, Act.put]) s1.out hsrc.out s2.out (by omega) s3.out ?_; rw [← hW.out])
 go_wp2
 go_ret
 exact ⟨rfl, rfl⟩

theorem cell_add {w : World} {a : Addr} {cs : Array Value} {ty : Nat} (hsp : a.spot = none) (hh : w.heap[a.block]? = some (.cells cs ty (0, 0))) (m : Nat) : w.cell? (a.add m) = cs[a.off + m]? := by
 unfold World.cell?
 rw [add_block]
 simp only [hh]
 unfold Addr.add
 split
 ·rename_i h; subst h; simp [hsp]
 ·simp

def delEnv (E : Env) : Env :=
 {adr := E.adr
  len := E.len
  ow := fun b => if b = (E.adr 0).block then .own 1 [(0, 0)] else E.ow b
  st := fun s => if s = 0 then .dead else E.st s }

def delL (l : List Int) (i j : Int) : List Int := List.take (Int.toNat i) l ++ List.drop (Int.toNat j) l

theorem ct_del (L : Lays2.n23 P ρ) (hE : Ent P (ρ.f 23)) {gl : List (Nat × D)} {l : List Int} {i j : Int} (h0 : (0 : Int) ≤ i) (h1 : i < j) (h2 : j ≤ (l.length : Int)) (hm : (l.length : Int) ≤ 1000000000000) :
  Ct P gl (ρ.f 23) [.ref 0 1 none, I i, I j] [⟨false, false, 1, l.length, List.map I l⟩] [ow 1 I (delL l i j)] [deadR] := by
 obtain ⟨i, rfl⟩ := Int.eq_ofNat_of_zero_le h0
 obtain ⟨j, rfl⟩ := Int.eq_ofNat_of_zero_le (show (0 : Int) ≤ j by omega)
 refine ⟨hE, fun E w vs hgl hvs hargs hroots hfresh => ?_⟩
 have r0 := hroots 0 _ rfl
 have hst : E.st 0 = .own := r0.st
 have hln : E.len 0 = l.length := r0.len
 obtain ⟨v0, v1, v2, rfl⟩ : ∃ v0 v1 v2, vs = #[v0, v1, v2] := by
  rcases vs with ⟨vs⟩
  match vs, hvs with
  | [a, b, c], _ => exact ⟨a, b, c, rfl⟩
 have a0 := hargs 0 _ v0 rfl rfl
 have a1 := hargs 1 _ v1 rfl rfl
 have a2 := hargs 2 _ v2 rfl rfl
 cases a1
 cases a2
 cases a0 with
 | ref m r wd vw v hm' hs h =>
 obtain ⟨A, cap, rfl, hcap, _, hA⟩ := h (.inl hst)
 simp only [Vw, hln] at hcap hA ⊢
 obtain ⟨rfl, hsh⟩ := hA (by omega)
 obtain ⟨hsp, how, cs, ty, hh, hsz⟩ := hsh
 rw [if_pos hst] at how
 have hadd : (E.adr 0).add (0 * 1) = E.adr 0 := by simp [Addr.add]
 rw [hadd]
 have hc : ∀ (t : Nat) x, l[t]? = some x → cs[(E.adr 0).off + t]? = some (.int .i64 x) := fun t x hx => by
  obtain ⟨u, hu, hr⟩ := r0.cell t 0 (I x) (I x) (by rw [List.getElem?_map, hx]; rfl) rfl
  rw [cell_add hsp hh] at hu
  cases hr
  simpa using hu
 have hE0 : E.adr 0 = ⟨(E.adr 0).block, (E.adr 0).off, none⟩ := by
  rcases hA : E.adr 0 with ⟨b, o, sp⟩
  rw [hA] at hsp
  cases hsp
  rfl
 have hd := del_calls (P := P) L (E.adr 0).block (E.adr 0).off l.length cap i j ty cs l w rfl hh (by omega) hc hcap (by omega) (by omega) (by omega)
 rw [← hE0] at hd
 refine Calls.mono hd ?_
 rintro e w' ⟨rfl, rfl⟩
 have hlt := lt_of_get hh
 obtain ⟨cs1, g1, g2, g3⟩ := setCells_heap (E.adr 0).block ((l.drop j).map (Value.int .i64)) ((E.adr 0).off + i * 1) w.drew cs ty (0, 0) hh (by simp; omega)
 obtain ⟨p1, p2, p3, p4, p5⟩ := setCells_same (E.adr 0).block ((l.drop j).map (Value.int .i64)) ((E.adr 0).off + i * 1) w.drew
 generalize w.drew.setCells (E.adr 0).block ((E.adr 0).off + i * 1) ((l.drop j).map (Value.int .i64)) = w1 at g1 p1 p2 p3 p4 p5 ⊢
 obtain ⟨cs2, k1, k2, k3⟩ := setCells_heap (E.adr 0).block (List.replicate (l.length - (i + (l.length - j))) (Value.int .i64 0)) ((E.adr 0).off + (i + (l.length - j))) w1 cs1 ty (0, 0) g1 (by simp; omega)
 obtain ⟨q1, q2, q3, q4, q5⟩ := setCells_same (E.adr 0).block (List.replicate (l.length - (i + (l.length - j))) (Value.int .i64 0)) ((E.adr 0).off + (i + (l.length - j))) w1
 generalize w1.setCells (E.adr 0).block ((E.adr 0).off + (i + (l.length - j))) (List.replicate (l.length - (i + (l.length - j))) (Value.int .i64 0)) = w2 at k1 q1 q2 q3 q4 q5 ⊢
 have hsame : ∀ b, b ≠ (E.adr 0).block → w2.heap[b]? = w.heap[b]? := fun b hb => (q5 b hb).trans (p5 b hb)
 have hll : (delL l i j).length = i + (l.length - j) := by simp [delL]; omega
 have hcell : ∀ (t : Nat) x, (delL l i j)[t]? = some x → cs2[(E.adr 0).off + t]? = some (.int .i64 x) := fun t x hx => by
  have ht : t < i + (l.length - j) := by rw [← hll]; exact (List.getElem?_eq_some_iff.1 hx).1
  rw [k3, if_neg (by omega), g3]
  simp only [delL, Int.toNat_natCast] at hx
  by_cases hti : t < i
  ·rw [if_neg (by omega)]
   refine hc t x ?_
   rw [List.getElem?_append_left (by simp; omega), List.getElem?_take_of_lt hti] at hx
   exact hx
  ·rw [if_pos (by simp; omega), List.getElem?_map]
   rw [List.getElem?_append_right (by simp; omega)] at hx
   rw [show (E.adr 0).off + t - ((E.adr 0).off + i * 1) = t - (List.take i l).length by simp; omega, hx]
   rfl
 refine ⟨delEnv E, [.slice (some (E.adr 0)) (i + (l.length - j)) cap], rfl, ⟨?_, ?_, ?_, ?_, fun b hb hf => ?_, fun b hb hf => ?_, fun _ _ => rfl, fun b cs0 ty0 h => ?_, fun r hr hst' => ?_⟩, rfl, fun k R hR hdd => ?_, ?_, trivial⟩
 ·rw [q1, p1]; exact Nat.le_refl _
 ·rw [q2, p2]; rfl
 ·rw [q3, p3]; rfl
 ·exact ⟨by rw [q4.1, p4.1]; rfl, drw_trans (drw_trans (drw_le (Nat.le_succ _)) p4.2) q4.2⟩
 ·have hne : b ≠ (E.adr 0).block := fun e => by rw [e, how] at hf; cases hf
  exact ⟨hsame b hne, by simp [delEnv, hne, hf]⟩
 ·have hne : b ≠ (E.adr 0).block := fun e => by rw [e, how] at hf; cases hf
  exact ⟨hsame b hne, by simp [delEnv, hne, hf]⟩
 ·by_cases hne : b = (E.adr 0).block
  ·subst hne
   rw [hh] at h
   cases h
   exact ⟨cs2, k1, by rw [k2, g2]⟩
  ·exact ⟨cs0, by rw [hsame b hne, h], rfl⟩
 ·have : r = 0 := by simp at hr; exact hr
  subst this
  simp [delEnv] at hst'
 ·have : k = 0 := by
   rcases k with _ | k
   ·rfl
   ·simp at hR
  subst this
  cases hR
  simp [deadR, Root.dead] at hdd
 ·show Rep (delEnv E) w2 (.own 1 [(0, 0)]) (ow 1 I (delL l i j)) _
  have e : ow 1 I (delL l i j) = .list true 1 (i + (l.length - j)) (List.map I (delL l i j)) := by unfold ow; rw [hll]
  rw [e]
  refine .olist _ 1 [(0, 0)] 1 _ _ _ _ (fun t _ => match (delL l i j)[t]? with
   | some y => .int .i64 y
   | none => undef) (.inl rfl) (by rw [List.length_map, hll]) (by omega) (fun x hx => ?_) (fun _ => ⟨E.adr 0, cs2, ty, rfl, hsp, by simp [delEnv], k1, by rw [k2, g2]; omega, fun t c x y hx hy => ?_⟩) (fun t c x y hx hy => ?_)
  ·obtain ⟨y, _, rfl⟩ := List.mem_map.1 hx
   rfl
  ·rw [List.getElem?_map, Option.map_eq_some_iff] at hx
   obtain ⟨z, hz, rfl⟩ := hx
   have hc0 : c = 0 := by
    rcases c with _ | c
    ·rfl
    ·simp [D.cells] at hy
   subst hc0
   rw [cell_add hsp k1, Nat.mul_one, Nat.add_zero, hcell t z hz, hz]
  ·rw [List.getElem?_map, Option.map_eq_some_iff] at hx
   obtain ⟨z, hz, rfl⟩ := hx
   have hc0 : c = 0 := by
    rcases c with _ | c
    ·rfl
    ·simp [D.cells] at hy
   subst hc0
   simp [D.cells] at hy
   subst hy
   rw [hz]
   exact .int _ _ _
end Go.Proofs.YtogomlkoocbhcaaGreatDoor.Ab

namespace Go.Proofs.YtogomlkoocbhcaaGreatDoor.Ab
open Go.Shelf Go.RowKit Go.Lib Go.Sort
variable {P : Program} {ρ : Ren}

theorem putRow_heap {enc : Int → Value} {w : World} {b off ty : Nat} {d : Array Int} {cs : Array Value} (hh : w.heap[b]? = some (.cells cs ty (0, 0))) :
  ∃ cs' : Array Value, (putRow enc w b off d).heap[b]? = some (.cells cs' ty (0, 0)) ∧ cs'.size = cs.size ∧ ∀ (j : Nat) x, d[j]? = some x → off + j < cs.size → cs'[off + j]? = some (enc x) := by
 refine ⟨putCells enc off d cs, ?_, by simp [putCells], fun j x hx hl => ?_⟩
 ·simp [putRow, mapBlock, Array.getElem?_modify, hh, onCells]
 ·have hj : j < d.size := (Array.getElem?_eq_some_iff.1 hx).1
  unfold putCells
  rw [Array.getElem?_mapIdx, Array.getElem?_eq_getElem hl, Option.map_some, if_pos ⟨by omega, by omega⟩, show off + j - off = j by omega]
  rw [getElem!_pos d j hj]
  rw [Array.getElem?_eq_getElem hj] at hx
  rw [Option.some.inj hx]
theorem putRow_other {enc : Int → Value} {w : World} {b off : Nat} {d : Array Int} {b' : Nat} (h : b' ≠ b) : (putRow enc w b off d).heap[b']? = w.heap[b']? := by
 simp [putRow, mapBlock, Array.getElem?_modify, Ne.symm h]
theorem grow_get {w : World} {os : Array Obj} {b : Nat} (h : b < w.heap.size) : (grow w os).heap[b]? = w.heap[b]? := by
 unfold grow
 simp only
 rw [Array.getElem?_append_left h]

def srt (l : List Int) : List Int := l.mergeSort fun x y => decide (x ≤ y)
theorem srt_len (l : List Int) : (srt l).length = l.length := by unfold srt; exact List.length_mergeSort l

def farEnv (E : Env) (n : Nat) : Env := { E with ow := fun b => if b < n then E.ow b else .far }
theorem Rep.farInt {E : Env} {w : World} {m : Md} {k : IntKind} {n : Int} : Rep E w m (.int k n) (.int k n) := .int _ _ _

theorem ct_sort (L : Lays.n189 P ρ) (hE : Ent P (ρ.f 189)) {gl : List (Nat × D)} {l : List Int} (hm : (l.length : Int) ≤ 1000000000000) :
  Ct P gl (ρ.f 189) [.ref 0 1 none] [⟨false, false, 1, l.length, List.map I l⟩] [] [⟨false, false, 1, (srt l).length, List.map I (srt l)⟩] := by
 refine ⟨hE, fun E w vs hgl hvs hargs hroots hfresh => ?_⟩
 have r0 := hroots 0 _ rfl
 have hst : E.st 0 = .own := r0.st
 have hln : E.len 0 = l.length := r0.len
 obtain ⟨v0, rfl⟩ : ∃ v0, vs = #[v0] := by
  rcases vs with ⟨vs⟩
  match vs, hvs with
  | [a], _ => exact ⟨a, rfl⟩
 have a0 := hargs 0 _ v0 rfl rfl
 cases a0 with
 | ref m r wd vw v hm' hs h =>
 obtain ⟨A, cap, rfl, hcap, _, hA⟩ := h (.inl hst)
 simp only [Vw, hln] at hcap hA ⊢
 rcases Nat.eq_zero_or_pos l.length with h0 | h0
 ·have e : l = [] := List.length_eq_zero_iff.1 h0
  subst e
  refine Calls.mono (Any.slices_Sort_int_none L A cap w) ?_
  rintro e w' ⟨rfl, rfl⟩
  exact ⟨E, [], rfl, Frm.refl _ _ _, rfl, fun k R hR _ => by
   have : k = 0 := by
    rcases k with _ | k
    ·rfl
    ·simp at hR
   subst this
   cases hR
   show RootRel E w' 0 ⟨false, false, 1, (srt []).length, List.map I (srt [])⟩
   rw [show srt [] = [] by simp [srt]]
   exact r0, trivial⟩
 obtain ⟨rfl, hsh⟩ := hA (by omega)
 obtain ⟨hsp, how, cs, ty, hh, hsz⟩ := hsh
 rw [if_pos hst] at how
 have hadd : (E.adr 0).add (0 * 1) = E.adr 0 := by simp [Addr.add]
 rw [hadd]
 have hlt := lt_of_get hh
 have hc : ∀ (t : Nat) x, l[t]? = some x → cs[(E.adr 0).off + t]? = some (.int .i64 x) := fun t x hx => by
  obtain ⟨u, hu, hr⟩ := r0.cell t 0 (I x) (I x) (by rw [List.getElem?_map, hx]; rfl) rfl
  rw [cell_add hsp hh] at hu
  cases hr
  simpa using hu
 have hE0 : E.adr 0 = ⟨(E.adr 0).block, (E.adr 0).off, none⟩ := by
  rcases hA : E.adr 0 with ⟨b, o, sp⟩
  rw [hA] at hsp
  cases hsp
  rfl
 have hH : Holds (Value.int .i64) w (E.adr 0).block (E.adr 0).off l.toArray := fun j hj => by
  have hj' : j < l.length := by simpa using hj
  rw [(heap_cell hh _).1]
  refine ⟨?_, (heap_cell hh _).2⟩
  rw [hc j l[j] (List.getElem?_eq_getElem hj'), getElem!_pos l.toArray j hj]
  simp
 have hd := Any.slices_Sort_int (P := P) L (E.adr 0).block (E.adr 0).off cap l w hH hlt (by omega)
 rw [← hE0] at hd
 refine Calls.mono hd ?_
 rintro e w' ⟨rfl, n, os, rfl⟩
 obtain ⟨cs', g1, g2, g3⟩ := putRow_heap (enc := Value.int .i64) (w := Sort.ahead w n) (off := (E.adr 0).off) (d := (l.mergeSort fun x y => decide (x ≤ y)).toArray) (cs := cs) (ty := ty) (b := (E.adr 0).block) hh
 have hsz1 : (putRow (Value.int .i64) (Sort.ahead w n) (E.adr 0).block (E.adr 0).off (l.mergeSort fun x y => decide (x ≤ y)).toArray).heap.size = w.heap.size := by simp [Sort.ahead]
 have hother : ∀ b, b < w.heap.size → b ≠ (E.adr 0).block → (grow (putRow (Value.int .i64) (Sort.ahead w n) (E.adr 0).block (E.adr 0).off (l.mergeSort fun x y => decide (x ≤ y)).toArray) os).heap[b]? = w.heap[b]? := fun b hb hne => by
  rw [grow_get (by rw [hsz1]; exact hb), putRow_other hne]; rfl
 have hmine : (grow (putRow (Value.int .i64) (Sort.ahead w n) (E.adr 0).block (E.adr 0).off (l.mergeSort fun x y => decide (x ≤ y)).toArray) os).heap[(E.adr 0).block]? = some (.cells cs' ty (0, 0)) := by
  rw [grow_get (by rw [hsz1]; exact hlt), g1]
 have hge : w.heap.size ≤ (grow (putRow (Value.int .i64) (Sort.ahead w n) (E.adr 0).block (E.adr 0).off (l.mergeSort fun x y => decide (x ≤ y)).toArray) os).heap.size := by
  unfold grow
  simp only [Array.size_append]
  rw [hsz1]
  omega
 have hos : (grow (putRow (Value.int .i64) (Sort.ahead w n) (E.adr 0).block (E.adr 0).off (l.mergeSort fun x y => decide (x ≤ y)).toArray) os).os = w.os := rfl
 have htp : (grow (putRow (Value.int .i64) (Sort.ahead w n) (E.adr 0).block (E.adr 0).off (l.mergeSort fun x y => decide (x ≤ y)).toArray) os).tape = w.tape := rfl
 have hop : (grow (putRow (Value.int .i64) (Sort.ahead w n) (E.adr 0).block (E.adr 0).off (l.mergeSort fun x y => decide (x ≤ y)).toArray) os).output = w.output ∧ DrawOk w (grow (putRow (Value.int .i64) (Sort.ahead w n) (E.adr 0).block (E.adr 0).off (l.mergeSort fun x y => decide (x ≤ y)).toArray) os) := ⟨rfl, drw_le (by simp [grow])⟩
 generalize grow (putRow (Value.int .i64) (Sort.ahead w n) (E.adr 0).block (E.adr 0).off (l.mergeSort fun x y => decide (x ≤ y)).toArray) os = w2 at hother hmine hge hos htp hop ⊢
 have hsl := srt_len l
 have hshp : ∀ N, Shp E w 0 N → Shp (farEnv E w.heap.size) w2 0 N := fun N ⟨t1, t2, c1, ty1, t3, t4⟩ => by
  rw [hh] at t3
  cases t3
  refine ⟨t1, ?_, cs', ty, hmine, by show (E.adr 0).off + N ≤ cs'.size; rw [g2]; exact t4⟩
  show (if (E.adr 0).block < w.heap.size then E.ow (E.adr 0).block else Bk.far) = _
  rw [if_pos hlt]
  exact t2
 refine ⟨farEnv E w.heap.size, [], rfl, ⟨hge, hos, htp, hop, fun b hb hf => ?_, fun b hb hf => ?_, fun _ _ => rfl, fun b cs0 ty0 h => ?_, fun r hr hst' => ?_⟩, rfl, fun k R hR hdd => ?_, trivial⟩
 ·have hne : b ≠ (E.adr 0).block := fun e => by rw [e, how] at hf; cases hf
  exact ⟨hother b hb hne, by simp [farEnv, hb, hf]⟩
 ·have hne : b ≠ (E.adr 0).block := fun e => by rw [e, how] at hf; cases hf
  exact ⟨hother b hb hne, by simp [farEnv, hb, hf]⟩
 ·by_cases hne : b = (E.adr 0).block
  ·subst hne
   rw [hh] at h
   cases h
   exact ⟨cs', hmine, g2⟩
  ·exact ⟨cs0, by rw [hother b (lt_of_get h) hne, h], rfl⟩
 ·have : r = 0 := by simp at hr; exact hr
  subst this
  exact ⟨hst, fun N hN => hshp N hN⟩
 ·have : k = 0 := by
   rcases k with _ | k
   ·rfl
   ·simp at hR
  subst this
  cases hR
  refine ⟨hst, by show E.len 0 = _; rw [hln, hsl], by simp, fun x hx => ?_, fun h => (by cases h), fun _ => ?_, fun i j x c hx hc' => ?_⟩
  ·obtain ⟨y, _, rfl⟩ := List.mem_map.1 hx
   rfl
  ·rw [hsl]
   exact hshp _ (r0.shp h0)
  ·rw [List.getElem?_map, Option.map_eq_some_iff] at hx
   obtain ⟨z, hz, rfl⟩ := hx
   have hc0 : j = 0 := by
    rcases j with _ | j
    ·rfl
    ·simp [D.cells] at hc'
   subst hc0
   simp [D.cells] at hc'
   subst hc'
   have hi : i < l.length := by rw [← hsl]; exact (List.getElem?_eq_some_iff.1 hz).1
   refine ⟨.int .i64 z, ?_, .int _ _ _⟩
   show w2.cell? ((E.adr 0).add (i * 1 + 0)) = _
   rw [cell_add hsp hmine, Nat.mul_one, Nat.add_zero]
   exact g3 i z (by simpa [srt] using hz) (by omega)
end Go.Proofs.YtogomlkoocbhcaaGreatDoor.Ab

namespace Go.Proofs.YtogomlkoocbhcaaGreatDoor.Ab
open Go.Shelf Go.RowKit Go.Lib Go.Sort
variable {P : Program} {ρ : Ren}
theorem w64r (x : Int) : Ending.returned (.int .i64 (wrap64 x)) = Ending.returned (.int .i64 (IntKind.wrap .i64 x)) := by rw [IntKind.wrap_i64]; unfold wrap64; rfl
theorem grow_drewN (w : World) (os : Array Obj) (q : Nat) : (grow w os).drewN q = grow (w.drewN q) os := rfl

def valOf : D → Value
 | .int k n => .int k n
 | .bool b => .bool b
 | .str s => .string s
 | _ => .slice none 0 0
theorem scal_val {E : Env} {w : World} {m : Md} {c : D} {v : Value} (h : c.scal = true) (hr : Rep E w m c v) : v = valOf c := by
 cases c <;> simp [D.scal] at h <;> cases hr <;> rfl
theorem val_rep {E : Env} {w : World} {m : Md} {c : D} (h : c.scal = true) : Rep E w m c (valOf c) := by
 cases c <;> simp [D.scal] at h <;> constructor
theorem val_one {c : D} (h : c.scal = true) : (valOf c).oneCell' = true := by
 cases c <;> simp [D.scal] at h <;> rfl

theorem putRow_heapV {w : World} {b off ty : Nat} {d : Array Value} {cs : Array Value} (hh : w.heap[b]? = some (.cells cs ty (0, 0))) :
  ∃ cs' : Array Value, (putRow id w b off d).heap[b]? = some (.cells cs' ty (0, 0)) ∧ cs'.size = cs.size ∧ ∀ (j : Nat) x, d[j]? = some x → off + j < cs.size → cs'[off + j]? = some x := by
 refine ⟨putCells id off d cs, ?_, by simp [putCells], fun j x hx hl => ?_⟩
 ·simp [putRow, mapBlock, Array.getElem?_modify, hh, onCells]
 ·have hj : j < d.size := (Array.getElem?_eq_some_iff.1 hx).1
  unfold putCells
  rw [Array.getElem?_mapIdx, Array.getElem?_eq_getElem hl, Option.map_some, if_pos ⟨by omega, by omega⟩, show off + j - off = j by omega]
  rw [getElem!_pos d j hj]
  rw [Array.getElem?_eq_getElem hj] at hx
  rw [Option.some.inj hx]; rfl
theorem putRow_otherV {w : World} {b off : Nat} {d : Array Value} {b' : Nat} (h : b' ≠ b) : (putRow id w b off d).heap[b']? = w.heap[b']? := by
 simp [putRow, mapBlock, Array.getElem?_modify, Ne.symm h]

section
variable {γ : Type} [Inhabited γ] {enc : γ → List Value} {k : Nat}
theorem sw_facts {w : World} {b off ty m : Nat} {cs : Array Value} {d : Array γ} {os : Array Obj} (hk : ∀ x, (enc x).length = k) (hh : w.heap[b]? = some (.cells cs ty (0, 0))) (hs : off + d.size * k ≤ cs.size) :
  (w.heap.size ≤ (sortWorldK enc k w b off m d os).heap.size ∧ (sortWorldK enc k w b off m d os).os = w.os ∧ (sortWorldK enc k w b off m d os).tape = w.tape ∧ (sortWorldK enc k w b off m d os).output = w.output ∧ w.drawn ≤ (sortWorldK enc k w b off m d os).drawn) ∧
  (∀ b', b' < w.heap.size → b' ≠ b → (sortWorldK enc k w b off m d os).heap[b']? = w.heap[b']?) ∧
  ∃ cs' : Array Value, (sortWorldK enc k w b off m d os).heap[b]? = some (.cells cs' ty (0, 0)) ∧ cs'.size = cs.size ∧ ∀ (i j : Nat) x u, d[i]? = some x → (enc x)[j]? = some u → cs'[off + (i * k + j)]? = some u := by
 have hlt := lt_of_get hh
 have hsz : (putRow id (Sort.ahead w m) b off (flatK enc k d)).heap.size = w.heap.size := by simp [Sort.ahead]
 obtain ⟨cs', g1, g2, g3⟩ := putRow_heapV (w := Sort.ahead w m) (off := off) (d := flatK enc k d) (cs := cs) (ty := ty) (b := b) hh
 refine ⟨⟨?_, rfl, rfl, rfl, by simp [sortWorldK, grow, putRowK]⟩, fun b' hb hne => ?_, cs', ?_, g2, fun i j x u hx hu => ?_⟩
 ·show w.heap.size ≤ (grow (putRow id (Sort.ahead w m) b off (flatK enc k d)) os).heap.size
  unfold grow
  simp only [Array.size_append]
  rw [hsz]
  omega
 ·show (grow (putRow id (Sort.ahead w m) b off (flatK enc k d)) os).heap[b']? = _
  rw [grow_get (by rw [hsz]; exact hb), putRow_otherV hne]; rfl
 ·show (grow (putRow id (Sort.ahead w m) b off (flatK enc k d)) os).heap[b]? = _
  rw [grow_get (by rw [hsz]; exact hlt), g1]
 ·have hi : i < d.size := (Array.getElem?_eq_some_iff.1 hx).1
  have hj : j < k := by rw [← hk x]; exact (List.getElem?_eq_some_iff.1 hu).1
  have ht : i * k + j < d.size * k := Nat.lt_of_lt_of_le (show i * k + j < (i + 1) * k by rw [Nat.add_mul]; omega) (Nat.mul_le_mul_right k hi)
  refine g3 (i * k + j) u ?_ (by omega)
  rw [Array.getElem?_eq_getElem (by simpa using ht), ← getElem!_pos (flatK enc k d) (i * k + j) (by simpa using ht), get_flatK _ _ _ _ ht, Nat.mul_comm i k, Nat.mul_add_div (by omega), Nat.div_eq_of_lt hj, Nat.add_zero, Nat.mul_add_mod, Nat.mod_eq_of_lt hj]
  rw [getElem!_pos d i hi]
  rw [Array.getElem?_eq_getElem hi] at hx
  rw [Option.some.inj hx, getElem!_pos (enc x) j (by rw [hk]; exact hj)]
  exact congrArg some (List.getElem?_eq_some_iff.1 hu).2
end

section
variable {β : Type} {k g : Nat} {en : β → List D} {f : β → β → Option Int} {l : List β}
abbrev Els (l : List β) := { x : β // x ∈ l }
def encE (en : β → List D) (l : List β) (x : Els l) : List Value := (en x.1).map valOf
def cfE (f : β → β → Option Int) (l : List β) (x y : Els l) : Int := (f x.1 y.1).getD 0
theorem ltOf_cfE (x y : Els l) : ltOf (cfE f l) x y = ltF f x.1 y.1 := rfl

theorem ct_sortg (L : SlLaysF0.n6 P ρ) (hE : Ent P (ρ.f 6)) (hg : Ent P g) (aE : ∀ w, (isAgg (ρ.t 24)).run P w = .ok true w) (zE : ∀ w, (Go.sizeOf (ρ.t 24)).run P w = .ok k w) (hn : ∀ x, (en x).length = k) (hsc : ∀ x, ∀ c ∈ en x, c.scal = true)
  {gl : List (Nat × D)} (hc : ∀ x y r (E : Env) W, GlOK gl E W → f x y = some r → Calls P g #[.agg ((en x).map valOf).toArray, .agg ((en y).map valOf).toArray] W fun e w' => e = .returned (.int .i64 r) ∧ ∃ q os', w' = grow (W.drewN q) os') (H : SortOk f l) :
  Ct P gl (ρ.f 6) [.ref 0 k none, .fn g []] [⟨false, false, k, l.length, List.map (fun x => D.agg (en x)) l⟩] [] [⟨false, false, k, (srtF f l).length, List.map (fun x => D.agg (en x)) (srtF f l)⟩] := by
 refine ⟨hE, fun E w vs hgl hvs hargs hroots hfresh => ?_⟩
 have r0 := hroots 0 _ rfl
 have hst : E.st 0 = .own := r0.st
 have hln : E.len 0 = l.length := r0.len
 obtain ⟨v0, v1, rfl⟩ : ∃ v0 v1, vs = #[v0, v1] := by
  rcases vs with ⟨vs⟩
  match vs, hvs with
  | [a, b], _ => exact ⟨a, b, rfl⟩
 have a0 := hargs 0 _ v0 rfl rfl
 have a1 := hargs 1 _ v1 rfl rfl
 cases a0 with
 | ref m r wd vw v hm' hs h =>
 cases a1 with
 | fn _ _ caps hcl _ =>
 have hcaps : caps = #[] := by
  rcases caps with ⟨caps⟩
  cases caps with
  | nil => rfl
  | cons _ _ => simp at hcl
 subst hcaps
 obtain ⟨A, cap, rfl, hcap, _, hA⟩ := h (.inl hst)
 simp only [Vw, hln] at hcap hA ⊢
 rcases Nat.eq_zero_or_pos l.length with h0 | h0
 ·have e : l = [] := List.length_eq_zero_iff.1 h0
  subst e
  refine Calls.mono (AnyF.slices_SortFunc_none L A cap _ w) ?_
  rintro e w' ⟨rfl, rfl⟩
  exact ⟨E, [], rfl, Frm.refl _ _ _, rfl, fun k' R hR _ => by
   have : k' = 0 := by
    rcases k' with _ | k'
    ·rfl
    ·simp at hR
   subst this
   cases hR
   show RootRel E w' 0 ⟨false, false, k, (srtF f ([] : List β)).length, List.map (fun x => D.agg (en x)) (srtF f [])⟩
   rw [show srtF f ([] : List β) = [] by simp [srtF]]
   exact r0, trivial⟩
 obtain ⟨rfl, hsh⟩ := hA (by omega)
 obtain ⟨hsp, how, cs, ty, hh, hsz⟩ := hsh
 rw [if_pos hst] at how
 have hadd : (E.adr 0).add (0 * k) = E.adr 0 := by simp [Addr.add]
 rw [hadd]
 have hfit : (E.adr 0).off + l.length * k ≤ cs.size := by
  have h1 := Nat.mul_le_mul_right k hcap
  have h2 : (E.adr 0).off + cap * k ≤ cs.size := by simpa using hsz
  omega
 have hlt := lt_of_get hh
 have hlen0 : l ≠ [] := fun e => by rw [e] at h0; simp at h0
 letI : Inhabited (Els l) := ⟨⟨l.head hlen0, List.head_mem hlen0⟩⟩
 have hk : ∀ x : Els l, (encE en l x).length = k := fun x => by simp [encE, hn]
 have hE0 : E.adr 0 = ⟨(E.adr 0).block, (E.adr 0).off, none⟩ := by
  rcases hA : E.adr 0 with ⟨b, o, sp⟩
  rw [hA] at hsp
  cases hsp
  rfl
 have hat : l.attach.toArray.size = l.length := by simp
 have hH : HoldsK (encE en l) k w (E.adr 0).block (E.adr 0).off l.attach.toArray := fun t ht => by
  have ht' : t < l.length * k := by simpa using ht
  have k0 : 0 < k := by
   rcases Nat.eq_zero_or_pos k with h | h
   ·subst h; simp at ht'
   ·exact h
  rw [(heap_cell hh _).1]
  refine ⟨?_, (heap_cell hh _).2⟩
  rw [get_flatK _ _ _ t (by simpa using ht')]
  have hi : t / k < l.length := Nat.div_lt_of_lt_mul (by rw [Nat.mul_comm]; exact ht')
  have hj : t % k < k := Nat.mod_lt _ k0
  rw [getElem!_pos l.attach.toArray (t / k) (by rw [hat]; exact hi)]
  have hjn : t % k < (en l[t / k]).length := by rw [hn]; exact hj
  obtain ⟨u, hu, hr⟩ := r0.cell (t / k) (t % k) (.agg (en l[t / k])) (en l[t / k])[t % k] (by rw [List.getElem?_map, List.getElem?_eq_getElem hi]; rfl) (List.getElem?_eq_getElem (l := en l[t / k]) hjn)
  rw [cell_add hsp hh] at hu
  have := scal_val (hsc _ _ (List.getElem_mem _)) hr
  subst this
  rw [show t / k * k + t % k = t by rw [Nat.mul_comm]; exact Nat.div_add_mod t k] at hu
  rw [hu, getElem!_pos _ _ (by rw [hk]; exact hj)]
  simp [encE]
 have mono : ∀ {m : Nat} {d : Array (Els l)} {os : Array Obj}, d.size = l.attach.toArray.size → GlOK gl E (sortWorldK (encE en l) k w (E.adr 0).block (E.adr 0).off m d os) := fun {m d os} hd => by
  obtain ⟨⟨f1, f2, f3, f4⟩, f5, cs', f6, f7, _⟩ := sw_facts (m := m) (os := os) hk hh (d := d) (off := (E.adr 0).off) (by rw [hd, hat]; exact hfit)
  generalize sortWorldK (encE en l) k w (E.adr 0).block (E.adr 0).off m d os = W at f1 f2 f3 f4 f5 f6
  intro x hx
  obtain ⟨gx1, gx2, gx3, cx, tx, zx, gx4, gx5⟩ := hgl x hx
  refine ⟨gx1, gx2.mv ⟨f1, fun b hb hf => ⟨f5 b hb (fun e => by rw [e, how] at hf; cases hf), hf⟩, fun _ h => h, fun r' hr' hal => ⟨hal, rfl, rfl, fun N ⟨t1, t2, c1, ty1, t3, t4⟩ => ⟨t1, t2, ?_⟩⟩⟩ trivial, gx3, cx, tx, zx, (f5 _ (lt_of_get gx4) (fun e => by rw [e, how] at gx3; cases gx3)).trans gx4, gx5⟩
  by_cases hb : (E.adr r').block = (E.adr 0).block
  ·rw [hb] at t3 ⊢
   rw [hh] at t3
   cases t3
   exact ⟨cs', ty, f6, by rw [f7]; exact t4⟩
  ·exact ⟨c1, ty1, by rw [f5 _ (lt_of_get t3) hb, t3], t4⟩
 have hd := AnyQ.slices_SortFunc_total (P := P) L k aE zE (encE en l) hk (fun x v hv => by
   obtain ⟨c, hc', rfl⟩ := List.mem_map.1 hv
   exact val_one (hsc _ c hc')) (cfE f l)
  ⟨fun x => H.irr _ x.2, fun x y z => H.tr _ x.2 _ y.2 _ z.2, fun x y z => H.ntr _ x.2 _ y.2 _ z.2⟩ g #[] (E.adr 0).block (E.adr 0).off cap l.attach.toArray w
  (fun args W => run_callFunc_enter hg args) (fun m os dk hdk x y => by
   obtain ⟨q, hq⟩ := H.tot x.1 x.2 y.1 y.2
   have h1 := hc x.1 y.1 q E _ (mono (m := m) (os := os) hdk) hq
   have e : cfE f l x y = q := by unfold cfE; rw [hq]; rfl
   rw [e]
   exact h1) hH hlt (by rw [hat]; have := H.len; omega) (fun x y h1 h2 => Subtype.ext (H.tie _ x.2 _ y.2 h1 h2))
 rw [hat, ← hE0] at hd
 refine Calls.mono hd ?_
 rintro e w' ⟨rfl, n, os, rfl⟩
 have hms : ((l.attach.toArray.toList.mergeSort fun x y : Els l => !(ltOf (cfE f l)) y x).toArray).size = l.length := by simp
 obtain ⟨⟨f1, f2, f3, f4, f4'⟩, f5, cs', f6, f7, f8⟩ := sw_facts (enc := encE en l) (m := n) (os := os) hk hh (d := (l.attach.toArray.toList.mergeSort fun x y : Els l => !(ltOf (cfE f l)) y x).toArray) (off := (E.adr 0).off) (by rw [hms]; exact hfit)
 generalize sortWorldK (encE en l) k w (E.adr 0).block (E.adr 0).off n _ os = W at f1 f2 f3 f4 f4' f5 f6
 have hsrt : srtF f l = ((l.attach.toArray.toList.mergeSort fun x y : Els l => !(ltOf (cfE f l)) y x)).map Subtype.val := by
  unfold srtF
  simp only [List.toList_toArray]
  rw [List.map_mergeSort (f := Subtype.val) (s := fun x y => !ltF f y x)]
  ·simp
  ·intro a _ b _; rfl
 generalize (l.attach.toArray.toList.mergeSort fun x y : Els l => !(ltOf (cfE f l)) y x) = d' at hms f8 hsrt
 have hsl := srtF_len f l
 have hshp : ∀ N, Shp E w 0 N → Shp (farEnv E w.heap.size) W 0 N := fun N ⟨t1, t2, c1, ty1, t3, t4⟩ => by
  rw [hh] at t3
  cases t3
  refine ⟨t1, ?_, cs', ty, f6, by show (E.adr 0).off + N ≤ cs'.size; rw [f7]; exact t4⟩
  show (if (E.adr 0).block < w.heap.size then E.ow (E.adr 0).block else Bk.far) = _
  rw [if_pos hlt]
  exact t2
 refine ⟨farEnv E w.heap.size, [], rfl, ⟨f1, f2, f3, ⟨f4, drw_le f4'⟩, fun b hb hf => ?_, fun b hb hf => ?_, fun _ _ => rfl, fun b cs0 ty0 h => ?_, fun r hr hst' => ?_⟩, rfl, fun k' R hR hdd => ?_, trivial⟩
 ·have hne : b ≠ (E.adr 0).block := fun e => by rw [e, how] at hf; cases hf
  exact ⟨f5 b hb hne, by simp [farEnv, hb, hf]⟩
 ·have hne : b ≠ (E.adr 0).block := fun e => by rw [e, how] at hf; cases hf
  exact ⟨f5 b hb hne, by simp [farEnv, hb, hf]⟩
 ·by_cases hne : b = (E.adr 0).block
  ·subst hne
   rw [hh] at h
   cases h
   exact ⟨cs', f6, f7⟩
  ·exact ⟨cs0, by rw [f5 b (lt_of_get h) hne, h], rfl⟩
 ·have : r = 0 := by simp at hr; exact hr
  subst this
  exact ⟨hst, fun N hN => hshp N hN⟩
 ·have : k' = 0 := by
   rcases k' with _ | k'
   ·rfl
   ·simp at hR
  subst this
  cases hR
  refine ⟨hst, by show E.len 0 = _; rw [hln, hsl], by simp, fun x hx => ?_, fun h => (by cases h), fun _ => ?_, fun i j x c hx hc' => ?_⟩
  ·obtain ⟨y, _, rfl⟩ := List.mem_map.1 hx
   exact hn y
  ·rw [hsl]
   exact hshp _ (r0.shp h0)
  ·rw [List.getElem?_map, Option.map_eq_some_iff] at hx
   obtain ⟨z, hz, rfl⟩ := hx
   rw [hsrt, List.getElem?_map, Option.map_eq_some_iff] at hz
   obtain ⟨z', hz', rfl⟩ := hz
   have hcz : (en z'.1)[j]? = some c := hc'
   refine ⟨valOf c, ?_, val_rep (hsc _ c (List.mem_of_getElem? hcz))⟩
   show W.cell? ((E.adr 0).add (i * k + j)) = _
   rw [cell_add hsp f6]
   exact f8 i j z' (valOf c) (by simpa using hz') (by simp [encE, hcz])

theorem ct_sortG {t : Nat} (L : SlLaysF0.n6 P ρ) (hE : Ent P (ρ.f 6)) (hg : Ent P g) (ht : ρ.t 24 = t) (hK : (kindOf P t).map TK.agg = some true) (hZ : (P.info? t).map TypeInfo.size = some k) (hn : ∀ x, (en x).length = k) (hsc : ∀ x, (en x).all D.scal = true)
  {gl : List (Nat × D)} (hc : ∀ x y r (E : Env) W, GlOK gl E W → f x y = some r → Calls P g #[.agg ((en x).map valOf).toArray, .agg ((en y).map valOf).toArray] W fun e w' => e = .returned (.int .i64 r) ∧ ∃ q os', w' = grow (W.drewN q) os') {r : List β} (H : sortD f l = some r) :
  Ct P gl (ρ.f 6) [.ref 0 k none, .fn g []] [⟨false, false, k, l.length, List.map (fun x => D.agg (en x)) l⟩] [] [⟨false, false, k, r.length, List.map (fun x => D.agg (en x)) r⟩] := by
 unfold sortD at H
 split at H
 ·cases H
  subst ht
  refine ct_sortg L hE hg (fun w => ?_) (fun w => ?_) hn (fun x c hc => List.all_eq_true.1 (hsc x) c hc) hc (by assumption)
  ·cases hk : kindOf P (ρ.t 24) with
   | none => rw [hk] at hK; cases hK
   | some kd =>
    rw [hk] at hK
    have := kind_agg hk w
    rw [this]
    simp at hK
    rw [hK]
  ·cases hi : P.info? (ρ.t 24) with
   | none => rw [hi] at hZ; cases hZ
   | some inf =>
    rw [hi] at hZ
    simp at hZ
    simp [sizeOf, typeInfo, hi, hZ]
 ·cases H
end
end Go.Proofs.YtogomlkoocbhcaaGreatDoor.Ab

namespace Go.Proofs.YtogomlkoocbhcaaGreatDoor.Ab
open Go.RowKit
def farE (E : Env) (n : Nat) : Env := { E with ow := fun b => if b < n then E.ow b else .far }
theorem frm_below {E : Env} {w w' : World} (h : Below w.heap.size w w') (hd : DrawOk w w') : Frm 0 E w (farE E w.heap.size) w' where
 sz := h.size
 os := h.os
 tape := h.tape
 output := ⟨h.output, hd⟩
 fz := fun b hb ho => ⟨h.block b hb, by simp [farE, hb, ho]⟩
 far := fun b hb ho => ⟨h.block b hb, by simp [farE, hb, ho]⟩
 adr := fun _ _ => rfl
 shape := fun b cs ty hh => ⟨cs, by rw [h.block b (lt_of_get hh), hh], rfl⟩
 shp := fun r hr => absurd hr (Nat.not_lt_zero _)
theorem below_grow {w : World} (k : Nat) (os : Array Obj) : Below w.heap.size w (Sort.grow (w.drewN k) os) := by
 refine ⟨rfl, rfl, rfl, by simp [Sort.grow, World.drewN], fun b hb => ?_⟩
 show (w.heap ++ os)[b]? = w.heap[b]?
 rw [Array.getElem?_append_left hb]
theorem leaf_ints {k : IntKind} : ∀ {l : List Value} {zs : List Int}, l.map leafOf = zs.map (D.int k) → l = zs.map (Value.int k)
 | [], [], _ => rfl
 | [], _ :: _, h => by simp at h
 | _ :: _, [], h => by simp at h
 | v :: l, z :: zs, h => by
  simp only [List.map_cons, List.cons.injEq] at h
  obtain ⟨h1, h2⟩ := h
  rw [leaf_ints h2, List.map_cons]
  congr 1
  unfold leafOf at h1
  split at h1 <;> cases h1
  rfl
theorem tab_is {P : Program} {gl : List (Nat × D)} {E : Env} {w : World} (hgl : GlOK gl E w) {g W : Nat} {k : IntKind} {zs : List Int} {nm : String} (hg : (g, .fptr W [.agg (zs.map (D.int k))] 0 0) ∈ gl) (hn : P.globalNamed nm = some g) : Lib.TabIs P w nm k zs := by
 obtain ⟨_, _, _, cs, ty, z, hh, he⟩ := hgl _ hg
 unfold Lib.TabIs World.var?
 rw [hn, Option.bind_some]
 simp only at hh
 rw [hh]
 have := leaf_ints (zs := zs) he
 simp only [Option.some.injEq]
 rw [← this]
theorem post_one {E : Env} {w w' : World} {d : D} {v : Value} (h : Below w.heap.size w w') (hd : DrawOk w w') (hr : ∀ E' w' m, Rep E' w' m d v) (hn : ∀ cs, d ≠ .agg cs) : Post E w [] [d] [] (.returned v) w' := by
 refine ⟨farE E w.heap.size, [v], rfl, frm_below h hd, rfl, fun k R hR => by simp at hR, ?_, trivial⟩
 unfold ResRep
 split
 ·exact absurd rfl (hn _)
 ·exact hr _ _ _
end Go.Proofs.YtogomlkoocbhcaaGreatDoor.Ab
