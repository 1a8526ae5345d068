/- The steps of functions on plain data, part 0: no condition. -/
import Derived.Orders
import Derived.Below
import Derived.KernelRfl
import Derived.WalkKit
import Derived.Laws.Sem
import Derived.Deep.AppendSrc
import Derived.Laws.IdiomCopy
set_option linter.unusedVariables false
set_option linter.unusedSimpArgs false
namespace Go.Proofs.Ytnfeelacifllmaa.Ab

abbrev Pth := List (Nat × Nat)

inductive Sp where
  | mapc (l : List (Int × Int))
  | iter (l : List (Int × Int)) (c : Option (Int × Int))

inductive D where
  | int (k : IntKind) (n : Int)
  | bool (b : Bool)
  | str (s : ByteArray)
  | nil
  | list (o : Bool) (w n : Nat) (xs : List D)
  | agg (cs : List D)
  | tup (vs : List D)
  | fn (f : FuncId) (caps : List D)
  | ref (r w : Nat) (vw : Option (Nat × Nat))
  | ptr (r w i j : Nat)
  | fptr (w : Nat) (xs : List D) (i j : Nat)
  | undef
  | anyb
  | hid
  | ifc (b : Bool)
  | spc (s : Sp)
  | omap (l : List (Int × Int))
  | mref (r : Nat)
  | optr (w : Nat) (xs : List D)
  deriving Inhabited

def D.cells : D → List D
  | .agg cs => cs
  | .spc _ => []
  | d => [d]

inductive Bk where
  | fz
  | own (r : Nat) (p : Pth)
  | far

inductive RS where
  | fresh | own | fz | dead
  deriving DecidableEq

structure Env where
  adr : Nat → Addr
  len : Nat → Nat
  ow : Nat → Bk
  st : Nat → RS

def Alive (E : Env) (r : Nat) : Prop := E.st r = .own ∨ E.st r = .fz

inductive Md where
  | slot
  | fz
  | own (r : Nat) (p : Pth)
  | box (r : Nat) (p : Pth)

def Shp (E : Env) (w : World) (r N : Nat) : Prop :=
  (E.adr r).spot = none ∧ E.ow (E.adr r).block = (if E.st r = .own then .own r [] else .fz) ∧
  ∃ cs ty, w.heap[(E.adr r).block]? = some (.cells cs ty (0, 0)) ∧ (E.adr r).off + N ≤ cs.size

def Vw (E : Env) (r : Nat) : Option (Nat × Nat) → Nat × Nat
  | none => (0, E.len r)
  | some x => x

def ifcV (b : Bool) (v : Value) : Prop := (b = false ∧ v = .nilIface) ∨ (b = true ∧ ∃ t p, v = .iface t p)
theorem ifcV_one {b : Bool} {v : Value} (h : ifcV b v) : v.cells = #[v] ∧ v.oneCell' = true := by
  rcases h with ⟨_, rfl⟩ | ⟨_, t, p, rfl⟩ <;> exact ⟨rfl, rfl⟩
def entV (p : Int × Int) : Value × Value := (.int .i64 p.1, .int .i64 p.2)
def MapFit (es : Array MapEntry) (clk : Nat) (l : List (Int × Int)) : Prop :=
  es.toList.map (fun e => (e.key, e.val)) = l.map entV ∧ (∀ x ∈ es.toList, x.born < clk) ∧ (es.toList.map (·.born)).Nodup ∧ (l.map (·.1)).Nodup
inductive Rep (E : Env) (w : World) : Md → D → Value → Prop
  | int (m : Md) (k : IntKind) (n : Int) : Rep E w m (.int k n) (.int k n)
  | bool (m : Md) (b : Bool) : Rep E w m (.bool b) (.bool b)
  | ifc (m : Md) (b : Bool) (v : Value) (hv : ifcV b v) : Rep E w m (.ifc b) v
  | str (m : Md) (s : ByteArray) : Rep E w m (.str s) (.string s)
  | nil (m : Md) : Rep E w m .nil (.slice none 0 0)
  | undef (m : Md) (v : Value) (hm : m = .slot ∨ ∃ r' p', m = .box r' p') : Rep E w m .undef v
  | hid (m : Md) (v : Value) (h1 : v.oneCell' = true) (h2 : v.cells = #[v]) (hm : m = .slot ∨ ∃ r' p', m = .box r' p') : Rep E w m .hid v
  | anyb (b : Bool) : Rep E w .slot .anyb (.bool b)
  | fn (f : FuncId) (caps : List D) (vs : Array Value) (hl : caps.length = vs.size) (h : ∀ (i : Nat) c u, caps[i]? = some c → vs[i]? = some u → Rep E w .slot c u) :
      Rep E w .slot (.fn f caps) (.func (.func f) #[] vs)
  | agg (cs : List D) (vs : Array Value) (hl : cs.length = vs.size) (h : ∀ (i : Nat) c u, cs[i]? = some c → vs[i]? = some u → Rep E w .slot c u) :
      Rep E w .slot (.agg cs) (.agg vs)
  | tup (cs : List D) (vs : Array Value) (hl : cs.length = vs.size) (h : ∀ (i : Nat) c u, cs[i]? = some c → vs[i]? = some u → Rep E w .slot c u) :
      Rep E w .slot (.tup cs) (.tuple vs)
  | flist (m : Md) (o : Bool) (wd n : Nat) (xs : List D) (A : Option Addr) (cap : Nat) (us : Nat → Nat → Value)
      (hm : m = .slot ∨ m = .fz ∨ o = false) (hn : xs.length = n) (hc : n ≤ cap) (hw : ∀ x ∈ xs, x.cells.length = wd)
      (ha : 0 < n → ∃ a, A = some a ∧ E.ow a.block = .fz ∧ a.block < w.heap.size ∧ ∀ (i j : Nat) x c, xs[i]? = some x → x.cells[j]? = some c → w.cell? (a.add (i * wd + j)) = some (us i j))
      (h : ∀ (i j : Nat) x c, xs[i]? = some x → x.cells[j]? = some c → Rep E w .fz c (us i j)) :
      Rep E w m (.list o wd n xs) (.slice A n cap)
  | olist (m : Md) (r : Nat) (p : Pth) (wd n : Nat) (xs : List D) (A : Option Addr) (cap : Nat) (us : Nat → Nat → Value)
      (hm : m = .own r p ∨ m = .box r p) (hn : xs.length = n) (hc : n ≤ cap) (hw : ∀ x ∈ xs, x.cells.length = wd)
      (ha : 0 < cap → ∃ a cs ty, A = some a ∧ a.spot = none ∧ E.ow a.block = .own r p ∧ w.heap[a.block]? = some (.cells cs ty (0, 0)) ∧ a.off + cap * wd ≤ cs.size ∧
        ∀ (i j : Nat) x c, xs[i]? = some x → x.cells[j]? = some c → w.cell? (a.add (i * wd + j)) = some (us i j))
      (h : ∀ (i j : Nat) x c, xs[i]? = some x → x.cells[j]? = some c → Rep E w (.own r (p ++ [(i, j)])) c (us i j)) :
      Rep E w m (.list true wd n xs) (.slice A n cap)
  | ref (m : Md) (r wd : Nat) (vw : Option (Nat × Nat)) (v : Value) (hm : m = .slot ∨ ∃ r' p', m = .box r' p') (hs : E.st r ≠ .fresh)
      (h : Alive E r → ∃ A cap, v = .slice A (Vw E r vw).2 cap ∧ (Vw E r vw).2 ≤ cap ∧ (Vw E r vw).1 + (Vw E r vw).2 ≤ E.len r ∧ (0 < cap → A = some ((E.adr r).add ((Vw E r vw).1 * wd)) ∧ Shp E w r (((Vw E r vw).1 + cap) * wd))) :
      Rep E w m (.ref r wd vw) v
  | ptr (m : Md) (r wd i j : Nat) (v : Value) (hm : m = .slot ∨ ∃ r' p', m = .box r' p') (hs : E.st r ≠ .fresh)
      (h : Alive E r → v = .pointer (some ((E.adr r).add (i * wd + j)))) :
      Rep E w m (.ptr r wd i j) v
  | fptr (m : Md) (wd : Nat) (xs : List D) (i j : Nat) (a : Addr) (us : Nat → Nat → Value) (hm : m = .slot ∨ ∃ r' p', m = .box r' p') (hw : ∀ x ∈ xs, x.cells.length = wd)
      (ha : E.ow a.block = .fz ∧ a.block < w.heap.size ∧ ∀ (i j : Nat) x c, xs[i]? = some x → x.cells[j]? = some c → w.cell? (a.add (i * wd + j)) = some (us i j))
      (h : ∀ (i j : Nat) x c, xs[i]? = some x → x.cells[j]? = some c → Rep E w .fz c (us i j)) :
      Rep E w m (.fptr wd xs i j) (.pointer (some (a.add (i * wd + j))))
  | mref (m : Md) (r : Nat) (v : Value) (hm : m = .slot ∨ ∃ r' p', m = .box r' p') (hs : E.st r ≠ .fresh) (h : Alive E r → v = .map (some (E.adr r).block)) : Rep E w m (.mref r) v
  | omap (m : Md) (r : Nat) (p : Pth) (l : List (Int × Int)) (b : Nat) (es : Array MapEntry) (clk : Nat) (hm : m = .own r p ∨ m = .box r p) (ho : E.ow b = .own r p) (hh : w.heap[b]? = some (.map es clk)) (hf : MapFit es clk l) :
      Rep E w m (.omap l) (.map (some b))
  | fomap (m : Md) (l : List (Int × Int)) (b : Nat) (es : Array MapEntry) (clk : Nat) (hm : m = .slot ∨ m = .fz) (ho : E.ow b = .fz) (hh : w.heap[b]? = some (.map es clk)) (hf : MapFit es clk l) : Rep E w m (.omap l) (.map (some b))
  | foptr (m : Md) (wd : Nat) (xs : List D) (a : Addr) (us : Nat → Nat → Value) (hm : m = .slot ∨ m = .fz) (hw : ∀ x ∈ xs, x.cells.length = wd)
      (ha : E.ow a.block = .fz ∧ a.block < w.heap.size ∧ ∀ (i j : Nat) x c, xs[i]? = some x → x.cells[j]? = some c → w.cell? (a.add (i * wd + j)) = some (us i j))
      (h : ∀ (i j : Nat) x c, xs[i]? = some x → x.cells[j]? = some c → Rep E w .fz c (us i j)) : Rep E w m (.optr wd xs) (.pointer (some a))
  | optr (m : Md) (r : Nat) (p : Pth) (wd : Nat) (xs : List D) (a : Addr) (us : Nat → Nat → Value)
      (hm : m = .own r p ∨ m = .box r p) (hn : xs.length = 1) (hw : ∀ x ∈ xs, x.cells.length = wd)
      (ha : ∃ cs ty, a.spot = none ∧ E.ow a.block = .own r p ∧ w.heap[a.block]? = some (.cells cs ty (0, 0)) ∧ a.off + wd ≤ cs.size ∧
        ∀ (i j : Nat) x c, xs[i]? = some x → x.cells[j]? = some c → w.cell? (a.add (i * wd + j)) = some (us i j))
      (h : ∀ (i j : Nat) x c, xs[i]? = some x → x.cells[j]? = some c → Rep E w (.own r (p ++ [(i, j)])) c (us i j)) :
      Rep E w m (.optr wd xs) (.pointer (some a))

def SpAt (E : Env) (w : World) (r : Nat) : D → Prop
  | .spc (.mapc l) => (E.adr r).spot = none ∧ (E.adr r).off = 0 ∧ E.ow (E.adr r).block = (if E.st r = .own then .own r [] else .fz) ∧ ∃ es clk, w.heap[(E.adr r).block]? = some (.map es clk) ∧ MapFit es clk l
  | .spc (.iter l c) => (E.adr r).spot = none ∧ (E.adr r).off = 0 ∧ E.ow (E.adr r).block = (if E.st r = .own then .own r [] else .fz) ∧ ∃ b clk seen es, w.heap[(E.adr r).block]? = some (.mapIter (some b) clk seen clk) ∧ E.ow b = .fz ∧ w.heap[b]? = some (.map es clk) ∧
      (∀ x ∈ es.toList, x.born < clk) ∧ (es.toList.map (·.born)).Nodup ∧ ((es.filter fun e => !seen.contains e.born).toList.map fun e => (e.key, e.val)) = l.map entV ∧ ∀ p, c = some p → ∃ (s : Array Nat) (e : MapEntry), seen = s.push e.born ∧ e ∈ es.toList ∧ (e.key, e.val) = entV p
  | _ => True

structure Root where
  fz : Bool
  box : Bool
  w : Nat
  n : Nat
  xs : List D

def Root.md (R : Root) (r i j : Nat) : Md := if R.fz then .fz else if R.box then .box r [(i, j)] else .own r [(i, j)]

structure RootRel (E : Env) (w : World) (r : Nat) (R : Root) : Prop where
  st : E.st r = if R.fz then .fz else .own
  len : E.len r = R.n
  n : R.xs.length = R.n
  wd : ∀ x ∈ R.xs, x.cells.length = R.w
  nobox : R.fz = true → R.box = false
  shp : 0 < R.n → 0 < R.w → Shp E w r (R.n * R.w)
  sp : R.w = 0 → ∀ d, R.xs = [d] → SpAt E w r d
  cell : ∀ (i j : Nat) x c, R.xs[i]? = some x → x.cells[j]? = some c → ∃ u, w.cell? ((E.adr r).add (i * R.w + j)) = some u ∧ Rep E w (R.md r i j) c u


structure Mv (E : Env) (w : World) (E' : Env) (w' : World) : Prop where
  sz : w.heap.size ≤ w'.heap.size
  fz : ∀ b, b < w.heap.size → E.ow b = .fz → w'.heap[b]? = w.heap[b]? ∧ E'.ow b = .fz
  st : ∀ r, E.st r ≠ .fresh → E'.st r ≠ .fresh
  ref : ∀ r, E.st r ≠ .fresh → Alive E' r → Alive E r ∧ E'.adr r = E.adr r ∧ E'.len r = E.len r ∧ ∀ N, Shp E w r N → Shp E' w' r N

def Lab (E : Env) (w : World) (E' : Env) (w' : World) (r : Nat) (p : Pth) (r' : Nat) (p' : Pth) : Prop :=
  ∀ b q, b < w.heap.size → E.ow b = .own r (p ++ q) → w'.heap[b]? = w.heap[b]? ∧ E'.ow b = .own r' (p' ++ q)

theorem Lab.kid {E : Env} {w : World} {E' : Env} {w' : World} {r r' : Nat} {p p' : Pth} (h : Lab E w E' w' r p r' p') (x : Nat × Nat) : Lab E w E' w' r (p ++ [x]) r' (p' ++ [x]) :=
  fun b q hb ho => by simpa using h b (x :: q) hb (by simpa using ho)

theorem cell_same {w w' : World} {a : Addr} (h : w'.heap[a.block]? = w.heap[a.block]?) : w'.cell? a = w.cell? a := by
  unfold World.cell?
  rw [h]

theorem add_block (a : Addr) (n : Nat) : (a.add n).block = a.block := by
  unfold Addr.add
  split <;> rfl

theorem lt_of_get {α : Type} {xs : Array α} {b : Nat} {o : α} (h : xs[b]? = some o) : b < xs.size := (Array.getElem?_eq_some_iff.1 h).1

def MdOk (E : Env) (w : World) (E' : Env) (w' : World) : Md → Md → Prop
  | .slot, .slot => True
  | .fz, .fz => True
  | .own r p, .own r' p' => Lab E w E' w' r p r' p'
  | .box r p, .box r' p' => Lab E w E' w' r p r' p'
  | .own r p, .box r' p' => Lab E w E' w' r p r' p'
  | _, _ => False

section
variable {E E' : Env} {w w' : World}

theorem Rep.mv (M : Mv E w E' w') : ∀ {m : Md} {d : D} {v : Value}, Rep E w m d v → ∀ {m' : Md}, MdOk E w E' w' m m' → Rep E' w' m' d v := by
  intro m d v h
  induction h with
  | int m k n => intro m' _; exact .int _ _ _
  | bool m b => intro m' _; exact .bool _ _
  | ifc m b v hv => intro m' _; exact .ifc _ _ _ hv
  | str m s => intro m' _; exact .str _ _
  | nil m => intro m' _; exact .nil _
  | anyb b => intro m' hm; cases m' <;> first | exact hm.elim | exact .anyb _
  | undef m v hm =>
    intro m' hmm
    refine .undef _ _ ?_
    rcases hm with rfl | ⟨r', p', rfl⟩
    · cases m' <;> first | exact .inl rfl | exact hmm.elim
    · cases m' <;> first | exact .inr ⟨_, _, rfl⟩ | exact hmm.elim
  | hid m v h1 h2 hm =>
    intro m' hmm
    refine .hid _ _ h1 h2 ?_
    rcases hm with rfl | ⟨r', p', rfl⟩
    · cases m' <;> first | exact .inl rfl | exact hmm.elim
    · cases m' <;> first | exact .inr ⟨_, _, rfl⟩ | exact hmm.elim
  | fn f caps vs hl h ih => intro m' hm; cases m' <;> first | exact hm.elim | skip
                            exact .fn _ _ _ hl fun i c u hc hu => ih i c u hc hu (m' := .slot) trivial
  | agg cs vs hl h ih => intro m' hm; cases m' <;> first | exact hm.elim | skip
                         exact .agg _ _ hl fun i c u hc hu => ih i c u hc hu (m' := .slot) trivial
  | tup cs vs hl h ih => intro m' hm; cases m' <;> first | exact hm.elim | skip
                         exact .tup _ _ hl fun i c u hc hu => ih i c u hc hu (m' := .slot) trivial
  | flist m o wd n xs A cap us hm hn hc hw ha h ih =>
    intro m' hmm
    refine .flist _ _ _ _ _ _ _ us ?_ hn hc hw (fun h0 => ?_) (fun i j x c hx hj => ih i j x c hx hj (m' := .fz) trivial)
    · rcases hm with rfl | rfl | rfl
      · cases m' <;> first | exact .inl rfl | exact hmm.elim
      · cases m' <;> first | exact .inr (.inl rfl) | exact hmm.elim
      · exact .inr (.inr rfl)
    · obtain ⟨a, rfl, ho, hb, hcell⟩ := ha h0
      obtain ⟨h1, h2⟩ := M.fz _ hb ho
      exact ⟨a, rfl, h2, Nat.lt_of_lt_of_le hb M.sz, fun i j x c hx hj => (cell_same (w := w) (w' := w') (a := a.add (i * wd + j)) (by rw [add_block]; exact h1)).trans (hcell i j x c hx hj)⟩
  | olist m r p wd n xs A cap us hm hn hc hw ha h ih =>
    intro m' hmm
    obtain ⟨r', p', hm', hL⟩ : ∃ r' p', (m' = .own r' p' ∨ m' = .box r' p') ∧ Lab E w E' w' r p r' p' := by
      rcases hm with rfl | rfl
      · cases m' <;> first | exact hmm.elim | exact ⟨_, _, .inl rfl, hmm⟩ | exact ⟨_, _, .inr rfl, hmm⟩
      · cases m' <;> first | exact hmm.elim | exact ⟨_, _, .inl rfl, hmm⟩ | exact ⟨_, _, .inr rfl, hmm⟩
    refine .olist _ r' p' _ _ _ _ _ us hm' hn hc hw (fun h0 => ?_) (fun i j x c hx hj => ih i j x c hx hj (m' := .own r' (p' ++ [(i, j)])) (hL.kid _))
    obtain ⟨a, cs, ty, rfl, hsp, ho, hh, hz, hcell⟩ := ha h0
    obtain ⟨h1, h2⟩ := hL a.block [] (lt_of_get hh) (by simpa using ho)
    exact ⟨a, cs, ty, rfl, hsp, by simpa using h2, h1.trans hh, hz, fun i j x c hx hj => (cell_same (w := w) (w' := w') (a := a.add (i * wd + j)) (by rw [add_block]; exact h1)).trans (hcell i j x c hx hj)⟩
  | ref m r wd vw v hm hs h =>
    intro m' hmm
    refine .ref _ _ _ _ _ ?_ (M.st r hs) (fun hal => ?_)
    · rcases hm with rfl | ⟨r', p', rfl⟩
      · cases m' <;> first | exact .inl rfl | exact hmm.elim
      · cases m' <;> first | exact .inr ⟨_, _, rfl⟩ | exact hmm.elim
    · obtain ⟨h1, h2, h3, h4⟩ := M.ref r hs hal
      obtain ⟨A, cap, rfl, hcap, hlen, hA⟩ := h h1
      have hv : Vw E' r vw = Vw E r vw := by cases vw <;> simp [Vw, h3]
      rw [hv, h3]
      exact ⟨A, cap, rfl, hcap, hlen, fun h0 => ⟨by rw [h2]; exact (hA h0).1, h4 _ (hA h0).2⟩⟩
  | ptr m r wd i j v hm hs h =>
    intro m' hmm
    refine .ptr _ _ _ _ _ _ ?_ (M.st r hs) (fun hal => ?_)
    · rcases hm with rfl | ⟨r', p', rfl⟩
      · cases m' <;> first | exact .inl rfl | exact hmm.elim
      · cases m' <;> first | exact .inr ⟨_, _, rfl⟩ | exact hmm.elim
    · obtain ⟨h1, h2, _, _⟩ := M.ref r hs hal
      rw [h2]
      exact h h1
  | fptr m wd xs i j a us hm hw ha h ih =>
    intro m' hmm
    obtain ⟨ho, hb, hcell⟩ := ha
    obtain ⟨h1, h2⟩ := M.fz _ hb ho
    refine .fptr _ _ _ _ _ _ us ?_ hw ⟨h2, Nat.lt_of_lt_of_le hb M.sz, fun i j x c hx hj => (cell_same (w := w) (w' := w') (a := a.add (i * wd + j)) (by rw [add_block]; exact h1)).trans (hcell i j x c hx hj)⟩ (fun i j x c hx hj => ih i j x c hx hj (m' := .fz) trivial)
    rcases hm with rfl | ⟨r', p', rfl⟩
    · cases m' <;> first | exact .inl rfl | exact hmm.elim
    · cases m' <;> first | exact .inr ⟨_, _, rfl⟩ | exact hmm.elim
  | mref m r v hm hs h =>
    intro m' hmm
    refine .mref _ _ _ ?_ (M.st r hs) (fun hal => ?_)
    · rcases hm with rfl | ⟨r', p', rfl⟩
      · cases m' <;> first | exact .inl rfl | exact hmm.elim
      · cases m' <;> first | exact .inr ⟨_, _, rfl⟩ | exact hmm.elim
    · obtain ⟨h1, h2, _, _⟩ := M.ref r hs hal
      rw [h2]
      exact h h1
  | omap m r p l b es clk hm ho hh hf =>
    intro m' hmm
    obtain ⟨r', p', hm', hL⟩ : ∃ r' p', (m' = .own r' p' ∨ m' = .box r' p') ∧ Lab E w E' w' r p r' p' := by
      rcases hm with rfl | rfl
      · cases m' <;> first | exact hmm.elim | exact ⟨_, _, .inl rfl, hmm⟩ | exact ⟨_, _, .inr rfl, hmm⟩
      · cases m' <;> first | exact hmm.elim | exact ⟨_, _, .inl rfl, hmm⟩ | exact ⟨_, _, .inr rfl, hmm⟩
    obtain ⟨h1, h2⟩ := hL b [] (lt_of_get hh) (by simpa using ho)
    exact .omap _ r' p' _ _ es clk hm' (by simpa using h2) (h1.trans hh) hf
  | fomap m l b es clk hm ho hh hf =>
    intro m' hmm
    obtain ⟨h1, h2⟩ := M.fz _ (lt_of_get hh) ho
    refine .fomap _ _ _ es clk ?_ h2 (h1.trans hh) hf
    rcases hm with rfl | rfl
    · cases m' <;> first | exact .inl rfl | exact hmm.elim
    · cases m' <;> first | exact .inr rfl | exact hmm.elim
  | foptr m wd xs a us hm hw ha h ih =>
    intro m' hmm
    obtain ⟨ho, hb, hcell⟩ := ha
    obtain ⟨h1, h2⟩ := M.fz _ hb ho
    refine .foptr _ _ _ _ us ?_ hw ⟨h2, Nat.lt_of_lt_of_le hb M.sz, fun i j x c hx hj => (cell_same (w := w) (w' := w') (a := a.add (i * wd + j)) (by rw [add_block]; exact h1)).trans (hcell i j x c hx hj)⟩ (fun i j x c hx hj => ih i j x c hx hj (m' := .fz) trivial)
    rcases hm with rfl | rfl
    · cases m' <;> first | exact .inl rfl | exact hmm.elim
    · cases m' <;> first | exact .inr rfl | exact hmm.elim
  | optr m r p wd xs a us hm hn hw ha h ih =>
    intro m' hmm
    obtain ⟨r', p', hm', hL⟩ : ∃ r' p', (m' = .own r' p' ∨ m' = .box r' p') ∧ Lab E w E' w' r p r' p' := by
      rcases hm with rfl | rfl
      · cases m' <;> first | exact hmm.elim | exact ⟨_, _, .inl rfl, hmm⟩ | exact ⟨_, _, .inr rfl, hmm⟩
      · cases m' <;> first | exact hmm.elim | exact ⟨_, _, .inl rfl, hmm⟩ | exact ⟨_, _, .inr rfl, hmm⟩
    obtain ⟨cs, ty, hsp, ho, hh, hz, hcell⟩ := ha
    obtain ⟨h1, h2⟩ := hL a.block [] (lt_of_get hh) (by simpa using ho)
    exact .optr _ r' p' _ _ _ us hm' hn hw ⟨cs, ty, hsp, by simpa using h2, h1.trans hh, hz, fun i j x c hx hj => (cell_same (w := w) (w' := w') (a := a.add (i * wd + j)) (by rw [add_block]; exact h1)).trans (hcell i j x c hx hj)⟩ (fun i j x c hx hj => ih i j x c hx hj (m' := .own r' (p' ++ [(i, j)])) (hL.kid _))

end

def DrawOk (w w' : World) : Prop := w.drawn ≤ w'.drawn
theorem drw_le {w w' : World} (h : w.drawn ≤ w'.drawn) : DrawOk w w' := h
theorem drw_trans {w w1 w2 : World} (h : DrawOk w w1) (k : DrawOk w1 w2) : DrawOk w w2 := Nat.le_trans h k
structure Frm (M : Nat) (E : Env) (w : World) (E' : Env) (w' : World) : Prop where
  sz : w.heap.size ≤ w'.heap.size
  os : w'.os = w.os
  tape : w'.tape = w.tape
  output : w'.output = w.output ∧ DrawOk w w'
  fz : ∀ b, b < w.heap.size → E.ow b = .fz → w'.heap[b]? = w.heap[b]? ∧ E'.ow b = .fz
  far : ∀ b, b < w.heap.size → E.ow b = .far → w'.heap[b]? = w.heap[b]? ∧ E'.ow b = .far
  adr : ∀ r, r < M → E'.adr r = E.adr r
  shape : ∀ (b : Nat) (cs : Array Value) (ty : Nat), w.heap[b]? = some (.cells cs ty (0, 0)) → ∃ cs' : Array Value, w'.heap[b]? = some (.cells cs' ty (0, 0)) ∧ cs'.size = cs.size
  shp : ∀ r, r < M → E'.st r = .own → E.st r = .own ∧ ∀ N, Shp E w r N → Shp E' w' r N

theorem Frm.refl (M : Nat) (E : Env) (w : World) : Frm M E w E w where
  sz := Nat.le_refl _
  os := rfl
  tape := rfl
  output := ⟨rfl, drw_le (Nat.le_refl _)⟩
  fz := fun _ _ h => ⟨rfl, h⟩
  far := fun _ _ h => ⟨rfl, h⟩
  adr := fun _ _ => rfl
  shape := fun b cs ty h => ⟨cs, h, rfl⟩
  shp := fun _ _ h => ⟨h, fun _ h => h⟩

theorem Frm.trans {M : Nat} {E E1 E2 : Env} {w w1 w2 : World} (h : Frm M E w E1 w1) (k : Frm M E1 w1 E2 w2) : Frm M E w E2 w2 where
  sz := Nat.le_trans h.sz k.sz
  os := k.os.trans h.os
  tape := k.tape.trans h.tape
  output := ⟨k.output.1.trans h.output.1, drw_trans h.output.2 k.output.2⟩
  fz := fun b hb ho => by
    obtain ⟨h1, h2⟩ := h.fz b hb ho
    obtain ⟨h3, h4⟩ := k.fz b (Nat.lt_of_lt_of_le hb h.sz) h2
    exact ⟨h3.trans h1, h4⟩
  far := fun b hb ho => by
    obtain ⟨h1, h2⟩ := h.far b hb ho
    obtain ⟨h3, h4⟩ := k.far b (Nat.lt_of_lt_of_le hb h.sz) h2
    exact ⟨h3.trans h1, h4⟩
  adr := fun r hr => (k.adr r hr).trans (h.adr r hr)
  shape := fun b cs ty hh => by
    obtain ⟨cs1, h1, h2⟩ := h.shape b cs ty hh
    obtain ⟨cs2, h3, h4⟩ := k.shape b cs1 ty h1
    exact ⟨cs2, h3, h4.trans h2⟩
  shp := fun r hr hst => by
    obtain ⟨h1, h2⟩ := k.shp r hr hst
    obtain ⟨h3, h4⟩ := h.shp r hr h1
    exact ⟨h3, fun N hN => h2 N (h4 N hN)⟩

def leafOf : Value → D
  | .bool b => .bool b
  | .int k n => .int k n
  | .string s => .str s
  | .slice none 0 0 => .nil
  | .nilIface => .ifc false
  | .iface _ _ => .ifc true
  | _ => .undef
def D.body : D → List D
  | .fptr _ [.agg cs] _ _ => cs
  | _ => []
theorem fptr_ow {E : Env} {w : World} {m : Md} {wd i j g : Nat} {xs : List D} (h : Rep E w m (.fptr wd xs i j) (.pointer (some ⟨g, 0, none⟩))) : E.ow g = .fz := by
  generalize hv : Value.pointer (some ⟨g, 0, none⟩) = v at h
  cases h with
  | fptr m wd xs i j a us hm hw ha h =>
    have e : (a.add (i * wd + j)).block = g := by
      injection hv with hv
      injection hv with hv
      rw [← hv]
    rw [add_block] at e
    rw [← e]
    exact ha.1
def GlOK (gl : List (Nat × D)) (E : Env) (w : World) : Prop := ∀ x, x ∈ gl → (∃ wd xs i j, x.2 = .fptr wd xs i j) ∧ Rep E w .slot x.2 (.pointer (some ⟨x.1, 0, none⟩)) ∧
  E.ow x.1 = .fz ∧ ∃ cs ty z, w.heap[x.1]? = some (.cells cs ty z) ∧ cs.toList.map leafOf = x.2.body

def pack : List Value → Value
  | [v] => v
  | vs => .tuple vs.toArray

def ResRep (E : Env) (w : World) (M q : Nat) : D → Value → Prop
  | .agg cs, u => ∃ vs : Array Value, u = .agg vs ∧ cs.length = vs.size ∧ ∀ (j : Nat) c x, cs[j]? = some c → vs[j]? = some x → Rep E w (.own M [(q + j, 0)]) c x
  | d, u => Rep E w (.own M [(q, 0)]) d u
def ResAll (E : Env) (w : World) (M : Nat) : Nat → List D → List Value → Prop
  | _, [], [] => True
  | q, d :: ds, u :: us => ResRep E w M q d u ∧ ResAll E w M (q + d.cells.length) ds us
  | _, _, _ => False

def Root.dead (R : Root) : Bool := R.fz && R.box
def deadR : Root := ⟨true, true, 0, 0, []⟩
def Post (E : Env) (w : World) (G : List Root) (res : List D) (G' : List Root) (e : Ending) (w' : World) : Prop :=
  ∃ E' us, e = .returned (pack us) ∧ Frm G.length E w E' w' ∧ G'.length = G.length ∧ (∀ (k : Nat) R, G'[k]? = some R → R.dead = false → RootRel E' w' k R) ∧ ResAll E' w' G.length 0 res us

def Ent (P : Program) (f : FuncId) : Prop := ∃ fn, P.funcs[f]? = some fn ∧ fn.body.isSome = true ∧ (fn.name == "runtime.NumGoroutine") = false

def Ct (P : Program) (gl : List (Nat × D)) (f : FuncId) (args : List D) (G : List Root) (res : List D) (G' : List Root) : Prop :=
  Ent P f ∧ ∀ (E : Env) (w : World) (vs : Array Value), GlOK gl E w → vs.size = args.length →
    (∀ (i : Nat) d v, args[i]? = some d → vs[i]? = some v → Rep E w .slot d v) →
    (∀ (k : Nat) R, G[k]? = some R → RootRel E w k R) → (∀ k, G.length ≤ k → E.st k = .fresh) →
    Calls P f vs w (Post E w G res G')

end Go.Proofs.Ytnfeelacifllmaa.Ab

namespace Go.Proofs.Ytnfeelacifllmaa.Ab

inductive LK where
  | int (k : IntKind) | bool | str
structure FI where
  off : Nat
  size : Nat
  agg : Bool
inductive TK where
  | int (k : IntKind) | bool | str | slice (e : Nat) | strct (fs : List FI) (eq : Option (List LK)) | arr (n e : Nat) | other | ifc | mapi
structure TI where
  k : TK
  size : Nat
  bytes : Nat
  zero : D
abbrev Tab := List (Nat × TI)

def look (t : Nat) : Tab → Option TI
  | [] => none
  | (u, i) :: r => if Nat.beq t u then some i else look t r

def kAt (T : Tab) (t : Nat) : Option TK :=
  match look t T with
  | some i => some i.k
  | none => none

def TK.agg : TK → Bool
  | .strct _ _ | .arr _ _ => true
  | _ => false

def ofVal : Value → D
  | .agg cs => .agg (cs.toList.map leafOf)
  | v => leafOf v

def aggAt (P : Program) (t : Nat) : Bool :=
  match P.underlying t with
  | some (.struct _) | some (.array _ _) => true
  | _ => false
def lkAt (P : Program) (t : Nat) : Option LK :=
  match P.underlying t with
  | some (.int k) => some (.int k)
  | some .bool => some .bool
  | some .string => some .str
  | _ => none
def eqsOf (P : Program) : List Field → Option (List LK)
  | [] => some []
  | f :: r => match lkAt P f.type, eqsOf P r with
    | some k, some ks => some (k :: ks)
    | _, _ => none
def eqAt (P : Program) (t : Nat) (fs : List Field) : Option (List LK) :=
  if P.stoodInHeld t || P.eqGuardType P.depth t || fs.any (fun f => f.name == "_") || fs.map (·.offset) != List.range fs.length then none else eqsOf P fs
def kindOf (P : Program) (t : Nat) : Option TK :=
  match P.underlying t with
  | some (.int k) => some (.int k)
  | some .bool => some .bool
  | some .string => some .str
  | some (.slice e) => some (.slice e)
  | some (.struct fs) => if fs.toList.all (fun f => (P.info? f.type).isSome && (P.underlying f.type).isSome) then some (.strct (fs.toList.map fun f => ⟨f.offset, P.cellsOf f.type, aggAt P f.type⟩) (eqAt P t fs.toList)) else none
  | some (.array n e) => some (.arr n e)
  | some (.interface _) => some .ifc
  | some (.map k e) => match P.underlying k, P.underlying e, (P.info? e).bind (·.zero) with
    | some (.int .i64), some (.int .i64), some (.int .i64 (.ofNat 0)) => some .mapi
    | _, _, _ => some .other
  | some _ => some .other
  | none => none
def tiOf (P : Program) (t : Nat) : Option TI := do
  let i ← P.info? t
  let k ← kindOf P t
  let z ← i.zero
  some { k, size := i.size, bytes := i.bytes, zero := ofVal z }
def TabOK (P : Program) : Tab → Prop
  | [] => True
  | (t, i) :: r => tiOf P t = some i ∧ TabOK P r

structure St where
  sl : List D
  G : List (Option Root)

def getR (G : List (Option Root)) (r : Nat) : Option Root :=
  match G, r with
  | [], _ => none
  | x :: _, 0 => x
  | _ :: G, r + 1 => getR G r
def putR (G : List (Option Root)) (r : Nat) (x : Option Root) : List (Option Root) :=
  match G, r with
  | [], 0 => [x]
  | [], r + 1 => none :: putR [] r x
  | _ :: G, 0 => x :: G
  | y :: G, r + 1 => y :: putR G r x

inductive BM where
  | take (q i j w n : Nat) (ys xs : List D)
  | put (q i j r : Nat) (xs : List D)
  | own (q n : Nat)
  | nil (q i j w : Nat) (xs : List D)
  | er (q : Nat) (xs : List D)
  | nils (q : Nat) (xs : List D)

structure CallH where
  cl : Bool := false
  auto : Bool := false
  ins : List Nat
  args : List D := []
  res : List D
  G' : List Root

structure Hint where
  i : Nat
  dec : Option Bool := none
  n : Nat := 0
  xs : List D := []
  s : ByteArray := ⟨#[]⟩
  keep : Bool := false
  call : Option CallH := none
  xtra : List Nat := []
  frz : List Nat := []
  el : Option D := none
  pre : List BM := []
  post : List BM := []

structure Out where
  ps : List Prop
  v : D
  us : List (Nat × Option Root)

def AllP : List Prop → Prop
  | [] => True
  | p :: r => p ∧ AllP r

def getCells (xs : List D) (i j n : Nat) : Option (List D) :=
  match xs[i]? with
  | some x => if j + n ≤ x.cells.length then some ((x.cells.drop j).take n) else none
  | none => none
def setIn (cs : List D) (j : Nat) : List D → List D
  | [] => cs
  | c :: r => setIn (cs.set j c) (j + 1) r
def setCells (xs : List D) (i j : Nat) (cs : List D) : List D :=
  match xs[i]? with
  | some (.agg old) => xs.set i (.agg (setIn old j cs))
  | some _ => (match cs with | [c] => xs.set i c | _ => xs)
  | none => xs
def D.fl : D → D
  | .list _ w n xs => .list false w n xs
  | d => d
def D.boxy : D → Bool
  | .int .. | .bool _ | .ifc _ | .str _ | .nil | .list .. | .ref .. | .ptr .. | .fptr .. | .hid => true
  | _ => false
def D.plain : D → Bool
  | .int .. | .bool _ | .ifc _ | .str _ | .nil | .list false _ _ _ => true
  | _ => false
def D.loadable : D → Bool
  | .list true _ _ _ | .omap _ | .optr .. | .spc _ => false
  | .agg _ | .tup _ | .fn .. => false
  | _ => true
def D.leafy : D → Bool
  | .agg _ | .tup _ | .fn .. | .spc _ => false
  | _ => true
def okc (g : Nat → Option Root) : D → Bool
  | .ref r _ _ | .ptr r _ _ _ => (g r).isSome
  | .int .. | .bool _ | .ifc _ | .str _ | .nil | .list .. | .fptr .. | .hid => true
  | _ => false
def whole (g : Nat → Option Root) : D → Bool
  | .agg _ => true
  | d => okc g d
def asOne (agg : Bool) (cs : List D) : Option D :=
  if agg then some (.agg cs) else match cs with | [c] => some c | _ => none
def AllFl (xs : List D) : Prop := ∀ x ∈ xs, ∀ c ∈ x.cells, c.plain = true

def gw (g : Nat → Option Root) (r w : Nat) : Option Root :=
  match g r with
  | some R => if Nat.beq R.w w && Nat.blt 0 w then some R else none
  | none => none

def arith (op : BinOp) (k : IntKind) (a b : Int) : Option (List Prop × D) :=
  match op with
  | .add => some ([], .int k (k.wrap (a + b)))
  | .sub => some ([], .int k (k.wrap (a - b)))
  | .mul => some ([], .int k (k.wrap (a * b)))
  | .quo => some ([¬ b = 0], .int k (k.wrap (a.tdiv b)))
  | .rem => some ([¬ b = 0], .int k (a.tmod b))
  | .and => some ([], .int k (k.wrap (BitVec.ofInt k.bits a &&& BitVec.ofInt k.bits b).toNat))
  | .or => some ([], .int k (k.wrap (BitVec.ofInt k.bits a ||| BitVec.ofInt k.bits b).toNat))
  | .xor => some ([], .int k (k.wrap (BitVec.ofInt k.bits a ^^^ BitVec.ofInt k.bits b).toNat))
  | .andNot => some ([], .int k (k.wrap (BitVec.ofInt k.bits a &&& ~~~(BitVec.ofInt k.bits b)).toNat))
  | .eql => some ([], .bool (a == b))
  | .neq => some ([], .bool (a != b))
  | .lss => some ([], .bool (decide (a < b)))
  | .leq => some ([], .bool (decide (a ≤ b)))
  | .gtr => some ([], .bool (decide (a > b)))
  | .geq => some ([], .bool (decide (a ≥ b)))
  | _ => none
def strOp (op : BinOp) (a b : ByteArray) : Option (List Prop × D) :=
  match op with
  | .add => some ([a.size + b.size ≤ 9223372036854775807], .str (a ++ b))
  | .eql => some ([], .bool (a == b))
  | .neq => some ([], .bool (!(a == b)))
  | .lss => some ([], .bool (Op.bytesLess a.toList b.toList))
  | .leq => some ([], .bool (Op.bytesLess a.toList b.toList || a == b))
  | .gtr => some ([], .bool (!(Op.bytesLess a.toList b.toList || a == b)))
  | .geq => some ([], .bool (!(Op.bytesLess a.toList b.toList)))
  | _ => none
def eqLeaf : LK → D → D → Option Bool
  | .int _, .int k a, .int k' b => if k = k' then some (a == b) else none
  | .bool, .bool a, .bool b => some (a == b)
  | .str, .str a, .str b => some (a == b)
  | _, _, _ => none
def eqAll : List LK → List D → List D → Option Bool
  | [], [], [] => some true
  | [k], [x], [y] => eqLeaf k x y
  | k :: ks, x :: xs, y :: ys => match eqLeaf k x y, eqAll ks xs ys with
    | some a, some b => some (a && b)
    | _, _ => none
  | _, _, _ => none

def binD (T : Tab) (op : BinOp) (t : Nat) (x y : D) : Option (List Prop × D) :=
  match x, y with
  | .int k a, .int k' b =>
    match op with
    | .shl => some ([0 ≤ b], .int k (k.wrap (a * 2 ^ min b.toNat k.bits)))
    | .shr => some ([0 ≤ b], .int k (a.fdiv (2 ^ min b.toNat k.bits)))
    | _ => if k = k' then arith op k a b else none
  | .str a, .str b => strOp op a b
  | .bool a, .bool b =>
    match op, kAt T t with
    | .eql, some .bool => some ([], .bool (a == b))
    | .neq, some .bool => some ([], .bool (!(a == b)))
    | _, _ => none
  | .agg cs, .agg cs' =>
    match look t T with
    | some { k := .strct _ (some ks), .. } =>
      match op, eqAll ks cs cs' with
      | .eql, some e => some ([], .bool e)
      | .neq, some e => some ([], .bool (!e))
      | _, _ => none
    | _ => none
  | _, _ => none
def unD (op : UnOp) (x : D) : Option D :=
  match op, x with
  | .neg, .int k n => some (.int k (k.wrap (0 - n)))
  | .not, .bool b => some (.bool (!b))
  | .xor, .int k n => some (.int k (k.wrap (BitVec.ofInt k.bits (if k.signed then -1 else k.max) ^^^ BitVec.ofInt k.bits n).toNat))
  | _, _ => none

def idx (r : Nat) : Nat → List Nat → Option Nat
  | _, [] => none
  | k, x :: xs => if Nat.beq x r then some k else idx r (k + 1) xs

mutual
def D.er : D → D
  | .list _ w n xs => .list false w n (erL xs)
  | .agg cs => .agg (erL cs)
  | d => d
def erL : List D → List D
  | [] => []
  | x :: r => x.er :: erL r
end

def D.fzc : D → Bool
  | .int .. | .bool _ | .ifc _ | .str _ | .nil | .list .. => true
  | _ => false
def toC (ins : List Nat) (d : D) : Option D :=
  match d with
  | .ref r w none => match idx r 0 ins with
    | some k => some (.ref k w none)
    | none => none
  | d => if d.fzc then some d else none
def toCL (ins : List Nat) : List D → Option (List D)
  | [] => some []
  | d :: r => match toC ins d, toCL ins r with
    | some d', some r' => some (d' :: r')
    | _, _ => none
def ofC (ins : List Nat) (d : D) : Option D :=
  match d with
  | .ref k w none => match ins[k]? with
    | some r => some (.ref r w none)
    | none => none
  | d => if d.fzc then some d else none
def ofCL (ins : List Nat) : List D → Option (List D)
  | [] => some []
  | d :: r => match ofC ins d, ofCL ins r with
    | some d', some r' => some (d' :: r')
    | _, _ => none
def inR (ins : List Nat) (R : Root) : Option Root :=
  if R.box then (match R.xs with
    | [.agg cs] => match toCL ins cs with
      | some cs' => some { R with xs := [.agg cs'] }
      | none => none
    | _ => none) else some R
def outR (ins : List Nat) (R : Root) : Option Root :=
  if R.box then (match R.xs with
    | [.agg cs] => match ofCL ins cs with
      | some cs' => some { R with xs := [.agg cs'] }
      | none => none
    | _ => none) else some R

mutual
def lend (cl : Bool) (g : Nat → Option Root) (ins : List Nat) : Nat → D → D → Option (List Prop)
  | 0, _, _ => none
  | fuel + 1, d, d' =>
    match d, d' with
    | .ref r w vw, .ref k w' vw' => match ins[k]? with
      | some r' => if Nat.beq r r' && Nat.beq w w' then some [vw = vw'] else none
      | none => none
    | .ptr r w i j, .ptr k w' i' j' => match ins[k]? with
      | some r' => if Nat.beq r r' && Nat.beq w w' then some [i = i', j = j'] else none
      | none => none
    | .ref r w none, .list false w' n' xs' => if ins.any (Nat.beq r) || !Nat.beq w w' then none else match gw g r w with
      | some R => if R.box || (cl && !R.fz) then none else some [R.n = n', erL R.xs = erL xs']
      | none => none
    | .ref r w (some (lo, n)), .list false w' n' xs' => if ins.any (Nat.beq r) || !Nat.beq w w' then none else match gw g r w with
      | some R => if R.box || (cl && !R.fz) then none else some [n = n', erL ((R.xs.drop lo).take n) = erL xs']
      | none => none
    | .ptr r w i j, .fptr w' xs' i' j' => if ins.any (Nat.beq r) || !Nat.beq w w' then none else match gw g r w with
      | some R =>
        if cl && !R.fz then none else if R.box then
          (match R.xs, xs' with
          | [.agg cs], [.agg cs'] => if cs.all D.loadable && cs'.all D.fzc then match lendL cl g ins fuel cs cs' with
            | some ps => some ([i = i', j = j'] ++ ps)
            | none => none else none
          | _, _ => none)
        else some [0 < R.n, erL R.xs = erL xs', i = i', j = j']
      | none => none
    | .fptr w xs i j, .fptr w' xs' i' j' => if Nat.beq w w' then some [erL xs = erL xs', i = i', j = j'] else none
    | .fn f caps, .fn f' caps' => if Nat.beq f f' then lendL cl g ins fuel caps caps' else none
    | .agg cs, .agg cs' => lendL cl g ins fuel cs cs'
    | .list _ w n xs, .list false w' n' xs' => if Nat.beq w w' then some [n = n', erL xs = erL xs'] else none
    | .nil, .list false _ n' xs' => some [n' = 0, xs' = []]
    | .int k n, .int k' n' => if k = k' then some [n = n'] else none
    | .bool b, .bool b' => some [b = b']
    | .str s, .str s' => some [s = s']
    | .nil, .nil => some []
    | d, .hid => if okc g d then some [] else none
    | _, .undef => some []
    | _, _ => none
def lendL (cl : Bool) (g : Nat → Option Root) (ins : List Nat) : Nat → List D → List D → Option (List Prop)
  | _, [], [] => some []
  | 0, _, _ => none
  | fuel + 1, d :: r, d' :: r' => match lend cl g ins fuel d d', lendL cl g ins fuel r r' with
    | some p, some q => some (p ++ q)
    | _, _ => none
  | _, _, _ => none
end

mutual
def lendC (cl : Bool) (g : Nat → Option Root) (ins : List Nat) : Nat → D → Option D
  | 0, _ => none
  | fuel + 1, d =>
    match d with
    | .ref r w vw => match idx r 0 ins with
      | some k => some (.ref k w vw)
      | none => match gw g r w with
        | some R => if R.box || (cl && !R.fz) then none else match vw with
          | none => some (.list false w R.n R.xs)
          | some (lo, n) => some (.list false w n ((R.xs.drop lo).take n))
        | none => none
    | .ptr r w i j => match idx r 0 ins with
      | some k => some (.ptr k w i j)
      | none => match gw g r w with
        | some R => if cl && !R.fz then none else if R.box then
            (match R.xs with
            | [.agg cs] => if cs.all D.loadable then match lendCL cl g ins fuel cs with
              | some cs' => if cs'.all D.fzc then some (.fptr w [.agg cs'] i j) else none
              | none => none else none
            | _ => none)
          else none
        | none => none
    | .fptr w xs i j => some (.fptr w xs i j)
    | .fn f caps => match lendCL cl g ins fuel caps with
      | some cs => some (.fn f cs)
      | none => none
    | .agg cs => match lendCL cl g ins fuel cs with
      | some cs => some (.agg cs)
      | none => none
    | .list _ w n xs => some (.list false w n xs)
    | .int k n => some (.int k n)
    | .bool b => some (.bool b)
    | .str s => some (.str s)
    | .nil => some .nil
    | _ => none
def lendCL (cl : Bool) (g : Nat → Option Root) (ins : List Nat) : Nat → List D → Option (List D)
  | _, [] => some []
  | 0, _ => none
  | fuel + 1, d :: r => match lendC cl g ins fuel d, lendCL cl g ins fuel r with
    | some p, some q => some (p :: q)
    | _, _ => none
end
def argsC (c : CallH) (g : Nat → Option Root) (args : List D) : Option (List Prop × List D) :=
  if c.auto then (match lendCL c.cl g c.ins 60 args with
    | some as => some ([], as)
    | none => none)
  else (match lendL c.cl g c.ins 60 args c.args with
    | some ps => some (ps, c.args)
    | none => none)

def take1 (id : Nat) : D → D
  | .list true w _ _ => .ref id w none
  | .omap _ => .mref id
  | .optr w _ => .ptr id w 0 0
  | d => d
def takeL (id : Nat) : List D → List D
  | [] => []
  | d :: r => take1 id d :: takeL (id + 1) r
def takeV (id : Nat) : D → D
  | .agg cs => .agg (takeL id cs)
  | d => take1 id d
def takeVs (id : Nat) : List D → List D
  | [] => []
  | d :: r => takeV id d :: takeVs (id + d.cells.length) r
def newR : D → Option Root
  | .list true w n xs => some ⟨false, false, w, n, xs⟩
  | .omap l => some ⟨false, false, 0, 1, [.spc (.mapc l)]⟩
  | .optr w xs => some ⟨false, true, w, 1, xs⟩
  | _ => none
def news (id : Nat) : List D → List (Nat × Option Root)
  | [] => []
  | d :: r => match newR d with
    | some R => (id, some R) :: news (id + 1) r
    | none => news (id + 1) r
def oneOrTup : List D → D
  | [d] => d
  | ds => .tup ds
def resOk1 : D → Bool
  | .int .. | .bool _ | .ifc _ | .str _ | .nil | .omap _ => true
  | .list o w _ _ => match o with
    | true => Nat.blt 0 w
    | false => true
  | .optr w xs => match xs with
    | [.agg cs] => cs.all D.fzc && Nat.beq cs.length w && Nat.blt 0 w
    | _ => false
  | _ => false
def resOk : D → Bool
  | .agg cs => cs.all resOk1
  | d => resOk1 d
def D.scal : D → Bool
  | .int .. | .bool _ | .str _ | .nil => true
  | _ => false
mutual
def D.nf : D → Prop
  | .list true _ _ xs => nfL xs
  | .list false _ _ _ => False
  | .agg cs => nfL cs
  | .optr _ xs => nfL xs
  | _ => True
def nfL : List D → Prop
  | [] => True
  | x :: r => x.nf ∧ nfL r
end
def nfG : List Root → Prop
  | [] => True
  | R :: r => nfL R.xs ∧ nfG r

structure Ctx where
  P : Program
  T : Tab
  gl : List (Nat × D)

def distinct : List Nat → Bool
  | [] => true
  | x :: r => !(r.any (Nat.beq x)) && distinct r
def rootsOf (all : List Nat) (g : Nat → Option Root) : List Nat → Option (List Root)
  | [] => some []
  | r :: rs => match g r, rootsOf all g rs with
    | some R, some Rs => if R.fz || !Nat.blt 0 R.w then none else match inR all R with
      | some R0 => some (R0 :: Rs)
      | none => none
    | _, _ => none
def sameB : Bool → Bool → Bool
  | true, true => true
  | false, false => true
  | _, _ => false
def updAt (all : List Nat) : List Nat → List Root → List Root → Option (List Prop × List (Nat × Option Root))
  | [], [], [] => some ([], [])
  | r :: rs, R :: Rs, R' :: Rs' => match updAt all rs Rs Rs' with
    | some (ps, u) => if R'.dead then some (ps, (r, none) :: u) else if Nat.beq R.w R'.w && sameB R.box R'.box && !R'.fz && Nat.blt 0 R'.w then (match outR all R' with
      | some R2 => some ((R'.n = R.n) :: ps, (r, some R2) :: u)
      | none => none) else none
    | none => none
  | _, _, _ => none

def callD (X : Ctx) (f : FuncId) (args : List D) (g : Nat → Option Root) (nid : Nat) (h : Hint) : Option Out :=
  match h.call with
  | none => none
  | some c =>
    match rootsOf c.ins g c.ins, argsC c g args with
    | some G, some (ps, cas) => match updAt c.ins c.ins G c.G' with
      | some (qs, us) => if distinct c.ins && c.res.all resOk then
          some ⟨ps ++ (qs ++ ((if c.cl || (c.res.all D.scal && c.ins.isEmpty) then [] else [nfL (c.res.flatMap D.cells), nfG c.G']) ++ [Ct X.P X.gl f cas G c.res c.G'])), oneOrTup (takeVs nid c.res), us ++ news nid (c.res.flatMap D.cells)⟩ else none
      | none => none
    | _, _ => none

def vals (ρ : Operand → Option D) : List Operand → Option (List D)
  | [] => some []
  | x :: r => match ρ x, vals ρ r with
    | some d, some ds => some (d :: ds)
    | _, _ => none

def fillD (g : Nat → Option Root) (fs : List FI) (ρ : Operand → Option D) : List D → List (Nat × Operand) → Option (List D)
  | cs, [] => some cs
  | cs, (i, x) :: r => match fs[i]?, ρ x with
    | some f, some d => if Nat.beq d.cells.length f.size && Nat.ble (f.off + f.size) cs.length && whole g d then fillD g fs ρ (setIn cs f.off d.cells) r else none
    | _, _ => none
def litD (g : Nat → Option Root) (ρ : Operand → Option D) (w : Nat) : Nat → List (Nat × Operand) → Option (List D)
  | _, [] => some []
  | k, (i, x) :: r => if Nat.beq i k then match ρ x, litD g ρ w (k + 1) r with
    | some d, some ds => if Nat.beq d.cells.length w && whole g d then some (d :: ds) else none
    | _, _ => none else none
def flE : D → D
  | .agg cs => .agg (cs.map D.fl)
  | d => d.fl
def natOf : D → Option Int
  | .int _ n => some n
  | _ => none
def inB (i : Int) (n : Nat) : List Prop := [0 ≤ i, i < (n : Int)]
def cutB (lo hi : Option Int) (n : Nat) : Option (Nat × Nat × List Prop) :=
  match lo, hi with
  | none, none => some (0, n, [])
  | some l, none => some (l.toNat, n, [0 ≤ l, l ≤ (n : Int)])
  | none, some h => some (0, h.toNat, [0 ≤ h, h ≤ (n : Int)])
  | some l, some h => some (l.toNat, h.toNat, [0 ≤ l, l ≤ h, h ≤ (n : Int)])
def optV (ρ : Operand → Option D) : Option Operand → Option (Option Int)
  | none => some none
  | some x => match ρ x with
    | some (.int _ n) => some (some n)
    | _ => none
def bytesD (s : ByteArray) : List D := s.data.toList.map fun b => D.int .u8 b.toNat

def srcOf (te : TI) (k' : TK) (dx : D) (g : Nat → Option Root) (keep : Bool) : Option (List D × Nat × List Prop × Option Nat) :=
  match k', dx with
  | .slice _, .nil => some ([], 0, [], none)
  | .slice _, .list _ w n xs => if Nat.beq w te.size then some (xs, n, [AllFl xs], none) else none
  | .slice _, .ref rx w none => match gw g rx te.size with
    | some R => if R.box || !Nat.beq w te.size then none else if keep then some (R.xs, R.n, [AllFl R.xs], none) else if R.fz then none else some (R.xs, R.n, [], some rx)
    | none => none
  | .slice _, .ref rx w (some (lo, n)) => match gw g rx te.size with
    | some R => if R.box || !Nat.beq w te.size || !keep then none else some ((R.xs.drop lo).take n, n, [AllFl R.xs], none)
    | none => none
  | .str, .str s => match te.k with
    | .int .u8 => if Nat.beq te.size 1 then some (bytesD s, s.size, [], none) else none
    | _ => none
  | _, _ => none
def dstOf (te : TI) (ds : D) (g : Nat → Option Root) : Option (List D × Nat × Option Nat) :=
  match ds with
  | .nil => some ([], 0, none)
  | .ref r w none => match gw g r te.size with
    | some R => if R.fz || R.box || !Nat.beq w te.size then none else some (R.xs, R.n, some r)
    | none => none
  | .ref r w (some (lo, n)) => match gw g r te.size with
    | some R => if R.fz || R.box || !Nat.beq w te.size then none else some ((R.xs.drop lo).take n, n, some r)
    | none => none
  | _ => none
def dead : Option Nat → List (Nat × Option Root)
  | none => []
  | some r => [(r, none)]
def sameO : Option Nat → Option Nat → Bool
  | some a, some b => Nat.beq a b
  | _, _ => false
def mhas (l : List (Int × Int)) (k : Int) : Bool := l.any fun p => p.1 == k
def mget : List (Int × Int) → Int → Int
  | [], _ => 0
  | p :: l, k => if p.1 = k then p.2 else mget l k
def mput (l : List (Int × Int)) (k v : Int) : List (Int × Int) := if mhas l k then l.map (fun p => if p.1 = k then (p.1, v) else p) else l ++ [(k, v)]
def mdel (l : List (Int × Int)) (k : Int) : List (Int × Int) := l.filter fun p => !(p.1 == k)
def mapR (g : Nat → Option Root) (r : Nat) : Option (Root × List (Int × Int)) :=
  match g r with
  | some R => match R.xs with
    | [.spc (.mapc l)] => if Nat.beq R.w 0 then some (R, l) else none
    | _ => none
  | none => none
def appD (te : TI) (k' : TK) (ds dx : D) (g : Nat → Option Root) (nid : Nat) (h : Hint) : Option Out :=
  if !(te.zero.cells.all D.plain && Nat.beq te.zero.cells.length te.size && Nat.blt 0 te.size && Nat.blt 0 te.bytes) then none else
  match srcOf te k' dx g h.keep, dstOf te ds g with
  | some (zs, m, ps, rx), some (ys, n, r) =>
    if sameO r rx then none else
    some ⟨ps ++ [h.n = n + m, (n + m) * te.bytes ≤ 70368744177664, ys ++ zs = h.xs], .ref nid te.size none, dead rx ++ (dead r ++ [(nid, some ⟨false, false, te.size, h.n, h.xs⟩)])⟩
  | _, _ => none

def stepOp (X : Ctx) (o : Oper) (ρ : Operand → Option D) (g : Nat → Option Root) (nid : Nat) (h : Hint) : Option Out :=
  match o.op with
  | .move x | .assign x => match ρ x with
    | some d => some ⟨[], d, []⟩
    | none => none
  | .pick c a b => match ρ c with
    | some (.bool t) => match (match t with | true => ρ a | false => ρ b) with
      | some d => some ⟨[], d, []⟩
      | none => none
    | _ => none
  | .nilCheck x => match ρ x with
    | some (.ptr r w i j) => match g r with
      | some _ => some ⟨[], .ptr r w i j, []⟩
      | none => none
    | some (.fptr w xs i j) => some ⟨[], .fptr w xs i j, []⟩
    | _ => none
  | .alloc t => match look t X.T with
    | some ti => let cs := ti.zero.cells
      if Nat.beq cs.length ti.size && cs.all D.plain then some ⟨[], .ptr nid ti.size 0 0, [(nid, some ⟨false, true, ti.size, 1, [.agg cs]⟩)]⟩ else none
    | none => none
  | .box t x => match ρ x with
    | some d => let cs := d.cells.map D.fl
      if whole g d && cs.all (okc g) then some ⟨[], .ptr nid cs.length 0 0, [(nid, some ⟨false, true, cs.length, 1, [.agg cs]⟩)]⟩ else none
    | none => none
  | .build t parts => match look t X.T with
    | some { k := .strct fs _, zero := .agg zs, .. } => match fillD g fs ρ zs parts.toList with
      | some cs => some ⟨[], .agg cs, []⟩
      | none => none
    | some { k := .arr n e, zero := .agg zs, .. } => match look e X.T with
      | some te => match fillD g ((List.range n).map fun i => ⟨i * te.size, te.size, false⟩) ρ zs parts.toList with
        | some cs => some ⟨[], .agg cs, []⟩
        | none => none
      | none => none
    | _ => none
  | .buildSlice t len parts => match look t X.T with
    | some { k := .slice e, .. } => match look e X.T with
      | some te => match litD g ρ te.size 0 parts.toList with
        | some ds => let xs := ds.map flE
          if Nat.beq xs.length len && Nat.ble (len * te.size) 16777216 && xs.all (fun x => x.cells.all D.plain) && Nat.blt 0 te.size then some ⟨[], .ref nid te.size none, [(nid, some ⟨false, false, te.size, len, xs⟩)]⟩
          else if Nat.beq xs.length len && Nat.ble (len * te.size) 16777216 && xs.all (fun x => x.cells.all (okc g)) && Nat.blt 0 te.size then some ⟨[], .ref nid te.size none, [(nid, some ⟨false, true, te.size, len, xs⟩)]⟩ else none
        | none => none
      | none => none
    | _ => none
  | .load t a => match look t X.T with
    | some ti => match ρ a with
      | some (.ptr r w i j) => match gw g r w with
        | some R => if (R.fz || h.xs.all D.loadable) && Nat.beq h.xs.length ti.size && Nat.blt 0 ti.size then match asOne ti.k.agg h.xs with
          | some d => some ⟨[getCells R.xs i j ti.size = some h.xs], d, []⟩
          | none => none else none
        | none => none
      | some (.fptr w xs i j) => if Nat.beq h.xs.length ti.size && Nat.blt 0 ti.size then match asOne ti.k.agg h.xs with
        | some d => some ⟨[getCells xs i j ti.size = some h.xs], d, []⟩
        | none => none else none
      | _ => none
    | none => none
  | .store t a x => match look t X.T with
    | some ti => match ρ a, ρ x with
      | some (.ptr r w i j), some d => let cs := d.cells.map D.fl
        match gw g r w with
        | some R => if !R.fz && whole g d && Nat.beq cs.length ti.size && Nat.ble (j + cs.length) w && Nat.blt 0 ti.size then
            if R.box then (if h.keep then (if cs.all (okc g) then some ⟨[i < R.n, setCells R.xs i j cs = h.xs], .undef, [(r, some { R with xs := h.xs })]⟩ else none) else if cs.all (okc g) && Nat.blt i R.n then some ⟨[], .undef, [(r, some { R with xs := setCells R.xs i j cs })]⟩ else none)
            else if cs.all D.plain then some ⟨[i < R.n, setCells R.xs i j cs = h.xs, R.n = h.n], .undef, [(r, some { R with n := h.n, xs := h.xs })]⟩
            else if cs.all (okc g) then some ⟨[i < R.n, setCells R.xs i j cs = h.xs], .undef, [(r, some { R with box := true, xs := h.xs })]⟩ else none
          else none
        | none => none
      | _, _ => none
    | none => none
  | .binOp op t x y _ => match ρ x, ρ y with
    | some (.list _ _ n _), some .nil => match op, kAt X.T t with
      | .eql, some (.slice _) => if h.keep then some ⟨[0 < n], .bool false, []⟩ else some ⟨[], .anyb, []⟩
      | _, _ => none
    | some (.ifc b), some (.ifc false) => match op, y, kAt X.T t with
      | .eql, .const .nilIface, some .ifc => some ⟨[], .bool (!b), []⟩
      | .neq, .const .nilIface, some .ifc => some ⟨[], .bool b, []⟩
      | _, _, _ => none
    | some a, some b => match binD X.T op t a b with
      | some (ps, d) => some ⟨ps, d, []⟩
      | none => none
    | _, _ => none
  | .unOp op _ x => match ρ x with
    | some a => match unD op a with
      | some d => some ⟨[], d, []⟩
      | none => none
    | none => none
  | .convert s t x => match kAt X.T s, kAt X.T t, ρ x with
    | some _, some (.int k), some (.int _ n) => some ⟨[], .int k (k.wrap n), []⟩
    | some _, some .str, some (.str v) => some ⟨[], .str v, []⟩
    | some (.slice e), some .str, some d => match kAt X.T e, d with
      | some (.int .u8), .list _ w n xs => if Nat.beq w 1 then some ⟨[xs = bytesD h.s], .str h.s, []⟩ else none
      | some (.int .u8), .ref r w none => match gw g r 1 with
        | some R => if Nat.beq w 1 && !R.box then some ⟨[R.xs = bytesD h.s], .str h.s, []⟩ else none
        | none => none
      | some (.int .u8), .ref r w (some (lo, n)) => match gw g r 1 with
        | some R => if Nat.beq w 1 && !R.box then some ⟨[(R.xs.drop lo).take n = bytesD h.s], .str h.s, []⟩ else none
        | none => none
      | _, _ => none
    | _, _, _ => none
  | .makeMap t none => match kAt X.T t with
    | some .mapi => some ⟨[], .mref nid, [(nid, some ⟨false, false, 0, 1, [.spc (.mapc [])]⟩)]⟩
    | _ => none
  | .mapUpdate t m k x => match kAt X.T t, ρ m, ρ k, ρ x with
    | some .mapi, some (.mref r), some (.int .i64 a), some (.int .i64 b) => match mapR g r with
      | some (R, l) => if R.fz then none else some ⟨[], .undef, [(r, some { R with xs := [.spc (.mapc (mput l a b))] })]⟩
      | none => none
    | _, _, _, _ => none
  | .lookup t m k ok => match kAt X.T t, ρ m, ρ k with
    | some .mapi, some (.mref r), some (.int .i64 a) => match mapR g r with
      | some (R, l) => some ⟨[], if ok then .tup [.int .i64 (mget l a), .bool (mhas l a)] else .int .i64 (mget l a), []⟩
      | none => none
    | _, _, _ => none
  | .range t m => match kAt X.T t, ρ m with
    | some .mapi, some (.mref r) => match mapR g r with
      | some (R, l) => if R.fz then some ⟨[], .ptr nid 0 0 0, [(nid, some ⟨false, false, 0, 1, [.spc (.iter l none)]⟩)]⟩ else none
      | none => none
    | _, _ => none
  | .entry it => match ρ it with
    | some (.ptr r 0 0 0) => match g r with
      | some R => match R.xs with
        | [.spc (.iter _ (some p))] => if Nat.beq R.w 0 && !R.fz then some ⟨[], .tup [.int .i64 p.1, .int .i64 p.2], []⟩ else none
        | _ => none
      | none => none
    | _ => none
  | .makeFunc (.func f) first caps => match first.toList, vals ρ caps.toList with
    | [], some cs => some ⟨[], .fn f cs, []⟩
    | _, _ => none
  | .makeSlice t l c => match look t X.T with
    | some { k := .slice e, .. } => match look e X.T, ρ l, ρ c with
      | some te, some (.int _ n), some (.int _ m) =>
        if Nat.beq te.zero.cells.length te.size && te.zero.cells.all D.plain && Nat.blt 0 te.size && Nat.blt 0 te.bytes then
          some ⟨[m = n, 0 ≤ n, n.toNat * te.bytes ≤ 140737488355328, h.n = n.toNat, List.replicate n.toNat te.zero = h.xs], .ref nid te.size none, [(nid, some ⟨false, false, te.size, h.n, h.xs⟩)]⟩
        else none
      | _, _, _ => none
    | _ => none
  | .slice t x lo hi none => match optV ρ lo, optV ρ hi, kAt X.T t, ρ x with
    | some l, some u, some .str, some (.str s) => match cutB l u s.size with
      | some (a, b, ps) => some ⟨ps, .str (s.extract a b), []⟩
      | none => none
    | some l, some u, some (.slice e), some d => match look e X.T with
      | some te => match d with
        | .list _ w n xs => if !Nat.beq w te.size then none else match cutB l u n with
          | some (a, b, ps) => some ⟨ps ++ [h.n = b - a, (xs.drop a).take (b - a) = h.xs], .list false w h.n h.xs, []⟩
          | none => none
        | .ref r w none => if !Nat.beq w te.size then none else match gw g r w with
          | some R => match cutB l u R.n with
            | some (a, b, ps) => some ⟨ps, .ref r w (some (a, b - a)), []⟩
            | none => none
          | none => none
        | .ref r w (some (k, n)) => if !Nat.beq w te.size then none else match gw g r w with
          | some R => match cutB l u n with
            | some (a, b, ps) => some ⟨ps, .ref r w (some (k + a, b - a)), []⟩
            | none => none
          | none => none
        | _ => none
      | none => none
    | _, _, _, _ => none
  | .fieldAddr s x f => match look s X.T with
    | some { k := .strct fs _, .. } => match fs[f]?, ρ x with
      | some fi, some (.ptr r w i j) => match g r with
        | some _ => if Nat.blt 0 fi.size then some ⟨[], .ptr r w i (j + fi.off), []⟩ else none
        | none => none
      | some fi, some (.fptr w xs i j) => if Nat.blt 0 fi.size then some ⟨[], .fptr w xs i (j + fi.off), []⟩ else none
      | _, _ => none
    | _ => none
  | .field t x f => match look t X.T with
    | some { k := .strct fs _, .. } => match fs[f]?, ρ x with
      | some fi, some (.agg cs) => if Nat.ble (fi.off + fi.size) cs.length then match asOne fi.agg ((cs.drop fi.off).take fi.size) with
        | some d => some ⟨[], d, []⟩
        | none => none else none
      | _, _ => none
    | _ => none
  | .indexAddr t x i => match look t X.T, ρ x, ρ i with
    | some { k := .slice e, .. }, some d, some (.int _ k) => match look e X.T with
      | some te => match d with
        | .list _ w n xs => if Nat.beq w te.size then some ⟨inB k n, .fptr w xs k.toNat 0, []⟩ else none
        | .ref r w none => match gw g r w with
          | some R => if Nat.beq w te.size then some ⟨inB k R.n, .ptr r w k.toNat 0, []⟩ else none
          | none => none
        | .ref r w (some (lo, n)) => match gw g r w with
          | some R => if Nat.beq w te.size then some ⟨inB k n, .ptr r w (lo + k.toNat) 0, []⟩ else none
          | none => none
        | _ => none
      | none => none
    | some { k := .arr n e, .. }, some (.fptr w xs i0 j0), some (.int _ k) => match look e X.T with
      | some te => if h.keep then (if Nat.blt h.n n then some ⟨[k = (h.n : Int)], .fptr w xs i0 (j0 + h.n * te.size), []⟩ else none) else if Nat.blt 1 n then some ⟨inB k n, .fptr w xs i0 (j0 + k.toNat * te.size), []⟩ else none
      | none => none
    | some { k := .arr n e, .. }, some (.ptr r w i0 j0), some (.int _ k) => match look e X.T, g r with
      | some te, some _ => if Nat.blt h.n n then some ⟨[k = (h.n : Int)], .ptr r w i0 (j0 + h.n * te.size), []⟩ else none
      | _, _ => none
    | _, _, _ => none
  | .index t x i => match kAt X.T t, ρ x, ρ i with
    | some .str, some (.str s), some (.int _ k) => some ⟨inB k s.size ++ [(s.data.toList[k.toNat]?.map fun b => (b.toNat : Int)) = some (h.n : Int)], .int .u8 h.n, []⟩
    | some (.arr n e), some (.agg cs), some (.int _ k) => match look e X.T with
      | some te => if Nat.blt h.n n && Nat.ble (h.n * te.size + te.size) cs.length then match asOne te.k.agg ((cs.drop (h.n * te.size)).take te.size) with
        | some d => some ⟨[k = (h.n : Int)], d, []⟩
        | none => none else none
      | none => none
    | _, _, _ => none
  | .extract t k => match ρ t with
    | some (.tup vs) => match vs[k]? with
      | some d => some ⟨[], d, []⟩
      | none => none
    | _ => none
  | .call c => match c.callee with
    | .value f => match ρ f, vals ρ c.args.toList with
      | some (.fn k caps), some as => callD X k (as ++ caps) g nid h
      | _, _ => none
    | .builtin .len => match (c.argTypes.toList[0]?).bind (look · X.T), c.args.toList with
      | some ti, [x] => match ti.k, ρ x with
        | .str, some (.str s) => some ⟨[], .int .i64 s.size, []⟩
        | .slice _, some (.list _ _ n _) => some ⟨[], .int .i64 n, []⟩
        | .slice _, some .nil => some ⟨[], .int .i64 0, []⟩
        | .slice _, some (.ref r w none) => match gw g r w with
          | some R => some ⟨[], .int .i64 R.n, []⟩
          | none => none
        | .slice _, some (.ref r w (some (_, n))) => match gw g r w with
          | some R => some ⟨[], .int .i64 n, []⟩
          | none => none
        | .mapi, some (.mref r) => match mapR g r with
          | some (R, l) => some ⟨[], .int .i64 l.length, []⟩
          | none => none
        | _, _ => none
      | _, _ => none
    | .builtin .append => match c.argTypes.toList, c.args.toList with
      | [t, t'], [s, x] => match look t X.T, kAt X.T t' with
        | some { k := .slice e, .. }, some k' => match look e X.T, ρ s, ρ x with
          | some te, some ds, some dx => appD te k' ds dx g nid h
          | _, _, _ => none
        | _, _ => none
      | _, _ => none
    | .builtin .delete => match c.argTypes.toList, c.args.toList with
      | [t, _], [m, x] => match kAt X.T t, ρ m, ρ x with
        | some .mapi, some (.mref r), some (.int .i64 a) => match mapR g r with
          | some (R, l) => if R.fz then none else some ⟨[], .tup [], [(r, some { R with xs := [.spc (.mapc (mdel l a))] })]⟩
          | none => none
        | _, _, _ => none
      | _, _ => none
    | .builtin .min => minmax true c ρ
    | .builtin .max => minmax false c ρ
    | _ => none
  | _ => none
  where
  minmax (mn : Bool) (c : Call) (ρ : Operand → Option D) : Option Out :=
    match vals ρ c.args.toList with
    | some (.int k a :: r) => match mm mn k a r with
      | some d => some ⟨[], d, []⟩
      | none => none
    | _ => none
  mm (mn : Bool) (k : IntKind) (a : Int) : List D → Option D
    | [] => some (.int k a)
    | .int k' b :: r => if k = k' then mm mn k (if mn then (if b < a then b else a) else (if a < b then b else a)) r else none
    | _ => none

def fz1 (r : Nat) (R : Root) : D → D
  | .ref k w vw => if Nat.beq k r && Nat.beq w R.w then (match vw with
    | none => .list false w R.n R.xs
    | some (lo, n) => .list false w n ((R.xs.drop lo).take n)) else .ref k w vw
  | d => d
def fzD (r : Nat) (R : Root) : D → D
  | .agg cs => .agg (cs.map (fz1 r R))
  | d => fz1 r R d
def putG (g : Nat → Option Root) (r : Nat) (R : Root) (k : Nat) : Option Root := if Nat.beq k r then some R else g k
def fzO (r : Nat) (R : Root) : Option D → Option D
  | some d => some (fzD r R d)
  | none => none
def stepF (X : Ctx) (o : Oper) (g : Nat → Option Root) (ρ : Operand → Option D) (nid : Nat) (h : Hint) : List Nat → Option Out
  | [] => stepOp X o ρ g nid h
  | r :: rs => match g r with
    | some R => if R.fz || R.box then none else
      match stepF X o (putG g r { R with fz := true }) (fun x => fzO r R (ρ x)) nid h rs with
      | some out => if out.us.any (fun u => Nat.beq u.1 r) then none else some { out with us := out.us ++ [(r, some { R with fz := true })] }
      | none => none
    | none => none

def stepC (X : Ctx) (o : Oper) (g : Nat → Option Root) (ρ : Operand → Option D) (nid : Nat) (h : Hint) : Option Out :=
  match o.op with
  | .load t a =>
    match h.xs with
    | [] => match look t X.T with
      | some ti => match ρ a with
        | some (.ptr r w i j) => match gw g r w with
          | some R => match h.el with
            | some e => match getCells [e] 0 j ti.size with
              | some cs => match stepOp X o ρ g nid { h with xs := cs } with
                | some out => some ⟨[R.xs[i]? = some e], out.v, out.us⟩
                | none => none
              | none => none
            | none => match getCells R.xs i j ti.size with
              | some cs => match stepOp X o ρ g nid { h with xs := cs } with
                | some out => some ⟨[], out.v, out.us⟩
                | none => none
              | none => none
          | none => none
        | some (.fptr w xs i j) => match h.el with
          | some e => match getCells [e] 0 j ti.size with
            | some cs => match stepOp X o ρ g nid { h with xs := cs } with
              | some out => some ⟨[xs[i]? = some e], out.v, out.us⟩
              | none => none
            | none => none
          | none => match getCells xs i j ti.size with
            | some cs => match stepOp X o ρ g nid { h with xs := cs } with
              | some out => some ⟨[], out.v, out.us⟩
              | none => none
            | none => none
        | _ => none
      | none => none
    | _ => stepF X o g ρ nid h h.frz
  | _ => stepF X o g ρ nid h h.frz

def D.ownable : D → Bool
  | .int .. | .bool _ | .ifc _ | .str _ | .nil | .list .. => true
  | _ => false
def AllOw (xs : List D) : Prop := ∀ x ∈ xs, ∀ c ∈ x.cells, c.ownable = true
def NilC : List D → List D → Prop
  | [], [] => True
  | c :: r, d :: s => (d = c ∨ c = .nil ∧ ∃ w, d = .list true w 0 []) ∧ NilC r s
  | _, _ => False
def NilOk : List D → List D → Prop
  | [], [] => True
  | x :: a, y :: b => NilC x.cells y.cells ∧ NilOk a b
  | _, _ => False
def bmove (g : Nat → Option Root) (nid : Nat) : BM → Option (List Prop × List (Nat × Option Root))
  | .take q i j w n ys xs => match g q with
    | some R => if R.fz || !Nat.blt 0 w then none else some ([getCells R.xs i j 1 = some [.list true w n ys], setCells R.xs i j [.ref nid w none] = xs], [(q, some { R with box := true, xs := xs }), (nid, some ⟨false, false, w, n, ys⟩)])
    | none => none
  | .put q i j r xs => match g q, g r with
    | some R, some K => if R.fz || !R.box || K.fz || K.box || Nat.beq q r then none else some ([getCells R.xs i j 1 = some [.ref r K.w none], setCells R.xs i j [.list true K.w K.n K.xs] = xs], [(r, none), (q, some { R with xs := xs })])
    | _, _ => none
  | .own q n => match g q with
    | some R => if R.fz || !R.box then none else some ([AllOw R.xs, R.n = n], [(q, some { R with box := false, n := n })])
    | none => none
  | .nil q i j w xs => match g q with
    | some R => if R.fz then none else some ([getCells R.xs i j 1 = some [.nil], setCells R.xs i j [.list true w 0 []] = xs], [(q, some { R with xs := xs })])
    | none => none
  | .er q xs => match g q with
    | some R => if R.fz then some ([erL R.xs = erL xs], [(q, some { R with xs := xs })]) else none
    | none => none
  | .nils q xs => match g q with
    | some R => if R.fz || !Nat.blt 0 R.w then none else some ([NilOk R.xs xs], [(q, some { R with xs := xs })])
    | none => none
def updG (us : List (Nat × Option Root)) (g : Nat → Option Root) (r : Nat) : Option Root := match us with
  | [] => g r
  | u :: us => updG us (fun k => if Nat.beq k u.1 then u.2 else g k) r
def mergeU (us vs : List (Nat × Option Root)) : List (Nat × Option Root) := us.filter (fun u => !(vs.any fun v => Nat.beq v.1 u.1)) ++ vs
def bmoves (g : Nat → Option Root) (nid : Nat) : List BM → Option (List Prop × List (Nat × Option Root))
  | [] => some ([], [])
  | m :: ms => match bmove g nid m with
    | some (ps, us) => match bmoves (updG us g) nid ms with
      | some (qs, vs) => some (ps ++ qs, mergeU us vs)
      | none => none
    | none => none
def BM.isTake : BM → Bool
  | .take .. => true
  | _ => false
def stepT (X : Ctx) (o : Oper) (ρ : Operand → Option D) (h : Hint) : List BM → (Nat → Option Root) → Nat → Option Out
  | [], g, nid => stepC X o g ρ nid h
  | m :: ms, g, nid => if m.isTake then (match bmove g nid m with
    | some (ps, us) => match stepT X o ρ h ms (updG us g) (nid + 1) with
      | some out => some ⟨ps ++ out.ps, out.v, mergeU us out.us⟩
      | none => none
    | none => none) else none
def stepM (X : Ctx) (o : Oper) (g : Nat → Option Root) (ρ : Operand → Option D) (nid : Nat) (h : Hint) : Option Out :=
  match h.pre, h.post with
  | [], [] => stepC X o g ρ nid h
  | [], m :: ms => match stepC X o g ρ nid h with
    | some out => if (m :: ms).any BM.isTake then none else match bmoves (updG out.us g) nid (m :: ms) with
      | some (qs, vs) => some ⟨out.ps ++ qs, out.v, mergeU out.us vs⟩
      | none => none
    | none => none
  | m :: ms, [] => stepT X o ρ h (m :: ms) g nid
  | _, _ => none

def glOf (gl : List (Nat × D)) (g : Nat) : Option D :=
  match gl with
  | [] => none
  | (h, d) :: r => if Nat.beq h g then some d else glOf r g
def ev (X : Ctx) (sl : List D) : Operand → Option D
  | .tmp t => sl[t]?
  | .const v => some (ofVal v)
  | .global g => glOf X.gl g
  | .func f => some (.fn f [])

def dirs1 : D → List Nat
  | .ref r _ _ | .ptr r _ _ _ | .mref r => [r]
  | _ => []
def dirs : D → List Nat
  | .agg cs | .fn _ cs => cs.flatMap dirs1
  | d => dirs1 d
def dirsOf (ρ : Operand → Option D) (xs : Array Operand) : List Nat := xs.toList.flatMap fun x => match ρ x with | some d => dirs d | none => []
def only (foot : List Nat) (g : Nat → Option Root) (r : Nat) : Option Root := if foot.any (Nat.beq r) then g r else none

structure Rc where
  v : D
  us : List (Nat × Option Root)
  foot : List Nat

def putS (sl : List D) (dst : Option Nat) (v : D) : List D :=
  match dst with
  | some t => sl.set t v
  | none => sl
def putAll (G : List (Option Root)) : List (Nat × Option Root) → List (Option Root)
  | [] => G
  | u :: r => putAll (putR G u.1 u.2) r

def hintAt (i : Nat) : List Hint → Hint × List Hint
  | [] => ({ i }, [])
  | h :: r => if Nat.beq h.i i then (h, r) else ({ i }, h :: r)
def decD (h : Hint) (d : D) : Option (List Prop × D) :=
  match h.dec, d with
  | none, d => some ([], d)
  | some b, .bool e => some ([e = b], .bool b)
  | _, _ => none
def wants (ops : Array Oper) (sl : List D) (o : Oper) : Option Bool :=
  match o.guard with
  | none => some true
  | some (j, want) => match ops.toList[j]? with
    | some o' => match o'.dst with
      | some t => match sl[t]? with
        | some (.bool b) => match b with
          | true => some want
          | false => some (!want)
        | some (.tup _) => some false
        | _ => none
      | none => none
    | none => none

def footOf (X : Ctx) (sl : List D) (o : Oper) (h : Hint) : List Nat :=
  match o.op with
  | .move _ | .assign _ => h.xtra
  | _ => dirsOf (ev X sl) o.op.operands ++ h.xtra

def step1 (X : Ctx) (ops : Array Oper) (o : Oper) (h : Hint) (sl : List D) (g : Nat → Option Root) (nid : Nat) : Option (List Prop × Rc) :=
  match wants ops sl o with
  | none => none
  | some false => some ([], ⟨.tup [], [], []⟩)
  | some true =>
    let foot := footOf X sl o h
    match stepM X o (only foot g) (ev X sl) nid h with
    | some out => match decD h out.v with
      | some (ps, d) => some (out.ps ++ ps, ⟨d, out.us, foot⟩)
      | none => none
    | none => none

def execOps (X : Ctx) (ops : Array Oper) : List Oper → Nat → St → List Hint → Option (List Rc × List Prop × St)
  | [], _, σ, _ => some ([], [], σ)
  | o :: r, i, σ, hs =>
    match hintAt i hs with
    | (h, hs) => match step1 X ops o h σ.sl (getR σ.G) σ.G.length with
      | none => none
      | some (ps, rc) => match execOps X ops r (i + 1) ⟨putS σ.sl o.dst rc.v, putAll σ.G rc.us⟩ hs with
        | none => none
        | some (rcs, qs, σ') => some (rc :: rcs, ps ++ qs, σ')

def apart1 (ops : Array Oper) (o o' : Oper) (c c' : Rc) : Bool :=
  o.apart ops o' && (c.us.all fun u => !(c'.foot.any (Nat.beq u.1)) && !(c'.us.any fun u' => Nat.beq u.1 u'.1)) && (c'.us.all fun u => !(c.foot.any (Nat.beq u.1)))
def safeWith (ops : Array Oper) (bef : Nat) (o : Oper) (c : Rc) : Nat → List Oper → List Rc → Bool
  | i, o' :: os, c' :: cs => (bef.testBit i || apart1 ops o' o c' c) && safeWith ops bef o c (i + 1) os cs
  | _, _, _ => true
def safe (ops : Array Oper) (bs : List Nat) : (dos : List Oper) → (dcs : List Rc) → List Oper → List Rc → Bool
  | dos, dcs, o :: os, c :: cs => match bs[dos.length]? with
    | some b => safeWith ops b o c 0 dos dcs && safe ops bs (dos ++ [o]) (dcs ++ [c]) os cs
    | none => false
  | _, _, _, _ => true
def befOf (bs : List Nat) (o : Oper) : Nat := o.after.toList.foldl (fun s e => if Region.binds .any e then s ||| 2 ^ e.on ||| bs.getD e.on 0 else s) 0
def befs : List Oper → List Nat → List Nat
  | [], bs => bs
  | o :: os, bs => befs os (bs ++ [befOf bs o])
def afters : Nat → List Oper → Bool
  | _, [] => true
  | i, o :: os => o.after.toList.all (fun e => !(Region.binds .any e) || Nat.blt e.on i) && afters (i + 1) os

def region (X : Ctx) (ops : Array Oper) (draw : Bool) (σ : St) (hs : List Hint) : Option (List Prop × St) :=
  match execOps X ops ops.toList 0 σ hs with
  | none => none
  | some (rcs, ps, σ') => match draw with
    | false => some (ps, σ')
    | true => if safe ops (befs ops.toList []) [] [] ops.toList rcs && afters 0 ops.toList then some (ps, σ') else none

def ctl (X : Ctx) (sl : List D) : Nat → List Item → Option (List Item)
  | 0, _ => none
  | n + 1, k => match k with
    | .code .skip :: k | .code (.label _) :: k | .inBlock _ :: k | .inScope _ :: k => ctl X sl n k
    | .code (.seq a b) :: k => ctl X sl n (.code a :: .code b :: k)
    | .code (.cond c a b) :: k => match ev X sl c with
      | some (.bool t) => match t with
        | true => ctl X sl n (.code a :: k)
        | false => ctl X sl n (.code b :: k)
      | _ => none
    | .code (.block id b) :: k => ctl X sl n (.code b :: .inBlock id :: k)
    | .code (.loop b) :: k | .inLoop b :: k => ctl X sl n (.code b :: .inLoop b :: k)
    | .code (.scope b) :: k => ctl X sl n (.code b :: .inScope b :: k)
    | .code (.exit id) :: k => match exitTo id k with
      | some k' => ctl X sl n k'
      | none => none
    | .code (.region i ops d) :: k => some (.code (.region i ops d) :: k)
    | .code .ret :: k => some (.code .ret :: k)
    | [] => some []
    | _ => none

def nav : Nat → (regions : Nat) → List Bool → List Item → List Item
  | 0, _, _, k => k
  | n + 1, m, bs, k => match k with
    | .code .skip :: k | .code (.label _) :: k | .inBlock _ :: k | .inScope _ :: k => nav n m bs k
    | .code (.seq a b) :: k => nav n m bs (.code a :: .code b :: k)
    | .code (.cond c a b) :: k => match bs with
      | true :: bs => nav n m bs (.code a :: k)
      | false :: bs => nav n m bs (.code b :: k)
      | [] => .code (.cond c a b) :: k
    | .code (.block id b) :: k => nav n m bs (.code b :: .inBlock id :: k)
    | .code (.loop b) :: k | .inLoop b :: k => nav n m bs (.code b :: .inLoop b :: k)
    | .code (.scope b) :: k => nav n m bs (.code b :: .inScope b :: k)
    | .code (.exit id) :: k => match exitTo id k with
      | some k' => nav n m bs k'
      | none => []
    | .code (.region i ops d) :: k => match m with
      | 0 => .code (.region i ops d) :: k
      | m + 1 => nav n m bs k
    | k => k

def sub1 (keep : List Nat) : D → D
  | .ref r w vw => match idx r 0 keep with
    | some k => .ref k w vw
    | none => .undef
  | .ptr r w i j => match idx r 0 keep with
    | some k => .ptr k w i j
    | none => .undef
  | .mref r => match idx r 0 keep with
    | some k => .mref k
    | none => .undef
  | .agg _ | .tup _ | .fn _ _ | .anyb => .undef
  | d => d
def sub (keep : List Nat) : D → D
  | .agg cs => .agg (cs.map (sub1 keep))
  | .fn f cs => .fn f (cs.map (sub1 keep))
  | d => sub1 keep d
def subE (keep : List Nat) : D → D
  | .agg cs => .agg (cs.map (sub1 keep))
  | d => sub1 keep d
def subR (keep : List Nat) (R : Root) : Root := if R.box then { R with xs := R.xs.map (subE keep) } else R
def slots (keep live : List Nat) : Nat → List D → List D
  | _, [] => []
  | t, d :: r => (if live.any (Nat.beq t) then sub keep d else .undef) :: slots keep live (t + 1) r
def canon (M : Nat) (keep live : List Nat) (σ : St) : Option St :=
  if keep.take M == List.range M && distinct keep then some ⟨slots keep live 0 σ.sl, keep.map fun r => (getR σ.G r).map (subR keep)⟩ else none

inductive Cmd where
  | reg (hs : List Hint)
  | canon (keep live : List Nat)
  | stop
  | own (t w : Nat)
  | view (t n : Nat) (xs : List D)
  | vfz (t n : Nat) (xs : List D)
  | whole (t : Nat)
  | frz (r : Nat)
  | viewb (b j n : Nat) (xs : List D)
  | er (r : Nat) (xs : List D)
  | bm (m : BM)

def run (X : Ctx) (M : Nat) : List Cmd → List Item → St → Option (List Prop × List Item × St)
  | [], k, σ => match ctl X σ.sl 300 k with
    | some k' => some ([], k', σ)
    | none => none
  | .stop :: _, k, σ => some ([], k, σ)
  | .view t n' xs' :: cs, k, σ => match ctl X σ.sl 300 k, σ.sl[t]? with
    | some k', some (.ref r w (some (lo, n))) => match getR σ.G r with
      | some R => if R.fz || R.box || !(Nat.beq R.w w && Nat.blt 0 w) then none else match run X M cs k' ⟨σ.sl.set t (.ref σ.G.length w none), putR (putR σ.G r none) σ.G.length (some ⟨false, false, w, n', xs'⟩)⟩ with
        | some (qs, x) => some ([n = n', (R.xs.drop lo).take n = xs'] ++ qs, x)
        | none => none
      | none => none
    | _, _ => none
  | .vfz t n' xs' :: cs, k, σ => match ctl X σ.sl 300 k, σ.sl[t]? with
    | some k', some (.ref r w (some (lo, n))) => match getR σ.G r with
      | some R => if !R.fz || !(Nat.beq R.w w && Nat.blt 0 w) then none else match run X M cs k' ⟨σ.sl.set t (.list false w n' xs'), σ.G⟩ with
        | some (qs, x) => some ([n = n', (R.xs.drop lo).take n = xs'] ++ qs, x)
        | none => none
      | none => none
    | _, _ => none
  | .whole t :: cs, k, σ => match ctl X σ.sl 300 k, σ.sl[t]? with
    | some k', some (.ref r w none) => match getR σ.G r with
      | some R => if R.fz || R.box || !(Nat.beq R.w w && Nat.blt 0 w) then none else match run X M cs k' ⟨σ.sl.set t (.ref σ.G.length w none), putR (putR σ.G r none) σ.G.length (some ⟨false, false, w, R.n, R.xs⟩)⟩ with
        | some (qs, x) => some (qs, x)
        | none => none
      | none => none
    | _, _ => none
  | .viewb b j n' xs' :: cs, k, σ => match ctl X σ.sl 300 k, getR σ.G b with
    | some k', some Rb => match Rb.xs with
      | [.agg ds] => match ds[j]? with
        | some (.ref r w (some (lo, n))) => match getR σ.G r with
          | some R => if R.fz || R.box || !(Nat.beq R.w w && Nat.blt 0 w) || Rb.fz || !Rb.box then none else match run X M cs k' ⟨σ.sl, putR (putR (putR σ.G r none) σ.G.length (some ⟨false, false, w, n', xs'⟩)) b (some { Rb with xs := [.agg (ds.set j (.ref σ.G.length w none))] })⟩ with
            | some (qs, x) => some ([n = n', (R.xs.drop lo).take n = xs'] ++ qs, x)
            | none => none
          | none => none
        | _ => none
      | _ => none
    | _, _ => none
  | .er r xs :: cs, k, σ => match ctl X σ.sl 300 k, getR σ.G r with
    | some k', some R => if R.fz then (match run X M cs k' ⟨σ.sl, putR σ.G r (some { R with xs := xs })⟩ with
      | some (qs, x) => some ([erL R.xs = erL xs] ++ qs, x)
      | none => none) else none
    | _, _ => none
  | .bm m :: cs, k, σ => match ctl X σ.sl 300 k, bmove (getR σ.G) σ.G.length m with
    | some k', some (ps, us) => match run X M cs k' ⟨σ.sl, putAll σ.G us⟩ with
      | some (qs, x) => some (ps ++ qs, x)
      | none => none
    | _, _ => none
  | .frz r :: cs, k, σ => match ctl X σ.sl 300 k, getR σ.G r with
    | some k', some R => if R.fz || R.box then none else run X M cs k' ⟨σ.sl, putR σ.G r (some { R with fz := true })⟩
    | _, _ => none
  | .own t w :: cs, k, σ => match ctl X σ.sl 300 k, σ.sl[t]? with
    | some k', some .nil => run X M cs k' ⟨σ.sl.set t (.ref σ.G.length w none), putR σ.G σ.G.length (some ⟨false, false, w, 0, []⟩)⟩
    | _, _ => none
  | .canon keep live :: cs, k, σ => match ctl X σ.sl 300 k, canon M keep live σ with
    | some k', some σ' => run X M cs k' σ'
    | _, _ => none
  | .reg hs :: cs, k, σ => match ctl X σ.sl 300 k with
    | some (.code (.region _ ops draw) :: k') => match region X ops draw σ hs with
      | some (ps, σ') => match run X M cs k' σ' with
        | some (qs, r) => some (ps ++ qs, r)
        | none => none
      | none => none
    | _ => none

def boxOk (R : Root) : Bool := R.box && !R.fz && Nat.beq R.n 1 && Nat.blt 0 R.w && match R.xs with
  | [.agg cs] => cs.all D.fzc
  | _ => false
def give1 (g : Nat → Option Root) (M : Nat) : D → D → Option (List Prop × List Nat)
  | .int k n, .int k' n' => if k = k' then some ([n = n'], []) else none
  | .bool b, .bool b' => some ([b = b'], [])
  | .str s, .str s' => some ([s = s'], [])
  | .nil, .nil => some ([], [])
  | .nil, .list _ _ n xs => some ([n = 0, xs = []], [])
  | .list _ w n xs, .list false w' n' xs' => if Nat.beq w w' then some ([n = n', xs = xs'], []) else none
  | .ref r w none, .list true w' n' xs' => match gw g r w with
    | some R => if Nat.beq w w' && Nat.ble M r && !R.fz && !R.box then some ([R.n = n', R.xs = xs'], [r]) else none
    | none => none
  | .ref r w none, .list false w' n' xs' => match gw g r w with
    | some R => if Nat.beq w w' && R.fz then some ([R.n = n', R.xs = xs'], []) else none
    | none => none
  | .mref r, .omap l' => match mapR g r with
    | some (R, l) => if Nat.ble M r && !R.fz then some ([l = l'], [r]) else none
    | none => none
  | .ptr r w 0 0, .optr w' xs' => match gw g r w with
    | some R => if Nat.beq w w' && Nat.ble M r && boxOk R then some ([R.xs = xs'], [r]) else none
    | none => none
  | _, _ => none
def giveL (g : Nat → Option Root) (M : Nat) : List D → List D → Option (List Prop × List Nat)
  | [], [] => some ([], [])
  | d :: r, d' :: r' => match give1 g M d d', giveL g M r r' with
    | some a, some b => some (a.1 ++ b.1, a.2 ++ b.2)
    | _, _ => none
  | _, _ => none
def giveV (g : Nat → Option Root) (M : Nat) : D → D → Option (List Prop × List Nat)
  | .agg cs, .agg cs' => giveL g M cs cs'
  | d, d' => give1 g M d d'
def giveVs (g : Nat → Option Root) (M : Nat) : List D → List D → Option (List Prop × List Nat)
  | [], [] => some ([], [])
  | d :: r, d' :: r' => match giveV g M d d', giveVs g M r r' with
    | some a, some b => some (a.1 ++ b.1, a.2 ++ b.2)
    | _, _ => none
  | _, _ => none
def resD (X : Ctx) (σ : St) : List ResultVar → Option (List D)
  | [] => some []
  | .tmp t :: r => match σ.sl[t]?, resD X σ r with
    | some d, some ds => some (d :: ds)
    | _, _ => none
  | .cell t ty :: r => match σ.sl[t]?, look ty X.T, resD X σ r with
    | some (.ptr k w 0 0), some ti, some ds => match gw (getR σ.G) k w with
      | some { box := true, xs := [.agg cs], .. } => if Nat.beq w ti.size && cs.all D.loadable && Nat.beq cs.length ti.size && Nat.blt 0 ti.size then match asOne ti.k.agg cs with
        | some d => some (d :: ds)
        | none => none else none
      | _ => none
    | _, _, _ => none
def give1C (g : Nat → Option Root) (M : Nat) : D → D → Option (D × List Nat)
  | .int k n, .int _ _ => some (.int k n, [])
  | .bool b, .bool _ => some (.bool b, [])
  | .str s, .str _ => some (.str s, [])
  | .nil, .nil => some (.nil, [])
  | .nil, .list o w _ _ => some (.list o w 0 [], [])
  | .list _ w n xs, .list false w' _ _ => if Nat.beq w w' then some (.list false w n xs, []) else none
  | .ref r w none, .list true w' _ _ => match gw g r w with
    | some R => if Nat.beq w w' && Nat.ble M r && !R.fz && !R.box then some (.list true w R.n R.xs, [r]) else none
    | none => none
  | .ref r w none, .list false w' _ _ => match gw g r w with
    | some R => if Nat.beq w w' && R.fz then some (.list false w R.n R.xs, []) else none
    | none => none
  | .mref r, .omap _ => match mapR g r with
    | some (R, l) => if Nat.ble M r && !R.fz then some (.omap l, [r]) else none
    | none => none
  | .ptr r w 0 0, .optr w' _ => match gw g r w with
    | some R => if Nat.beq w w' && Nat.ble M r && boxOk R then some (.optr w R.xs, [r]) else none
    | none => none
  | _, _ => none
def giveLC (g : Nat → Option Root) (M : Nat) : List D → List D → Option (List D × List Nat)
  | [], [] => some ([], [])
  | d :: r, d' :: r' => match give1C g M d d', giveLC g M r r' with
    | some a, some b => some (a.1 :: b.1, a.2 ++ b.2)
    | _, _ => none
  | _, _ => none
def giveVC (g : Nat → Option Root) (M : Nat) : D → D → Option (D × List Nat)
  | .agg cs, .agg cs' => match giveLC g M cs cs' with
    | some (c, ids) => some (.agg c, ids)
    | none => none
  | d, d' => give1C g M d d'
def giveVsC (g : Nat → Option Root) (M : Nat) : List D → List D → Option (List D × List Nat)
  | [], [] => some ([], [])
  | d :: r, d' :: r' => match giveVC g M d d', giveVsC g M r r' with
    | some a, some b => some (a.1 :: b.1, a.2 ++ b.2)
    | _, _ => none
  | _, _ => none
def rootsC : Nat → List (Option Root) → Option (List Root)
  | 0, _ => some []
  | n + 1, some R :: G => match rootsC n G with
    | some Rs => if R.fz then none else some (R :: Rs)
    | none => none
  | n + 1, none :: G => match rootsC n G with
    | some Rs => some (deadR :: Rs)
    | none => none
  | _, _ => none
def rootsEq : List (Option Root) → List Root → Option (List Prop)
  | _, [] => some []
  | some R :: G, R' :: G' => match rootsEq G G' with
    | some ps => if R.fz then none else some ((R = R') :: ps)
    | none => none
  | none :: G, R' :: G' => match rootsEq G G' with
    | some ps => if R'.dead then some ps else none
    | none => none
  | _, _ => none
def fin (X : Ctx) (M : Nat) (rv : List ResultVar) (k : List Item) (σ : St) (res : List D) (G' : List Root) : Option (List Prop) :=
  match k with
  | .code .ret :: _ | [] => match resD X σ rv with
    | some ds => match giveVs (getR σ.G) M ds res, rootsEq σ.G G' with
      | some (ps, ids), some qs => if distinct ids && Nat.beq G'.length M then some (ps ++ qs) else none
      | _, _ => none
    | none => none
  | _ => none

def finC (X : Ctx) (M : Nat) (rv : List ResultVar) (k : List Item) (σ : St) (res : List D) : Option (List D × List Root) :=
  match k with
  | .code .ret :: _ | [] => match resD X σ rv with
    | some ds => match giveVsC (getR σ.G) M ds res, rootsC M σ.G with
      | some (c, ids), some Rs => if distinct ids then some (c, Rs) else none
      | _, _ => none
    | none => none
  | _ => none
def runFinC (X : Ctx) (M : Nat) (cmds : List Cmd) (k : List Item) (σ : St) (rv : List ResultVar) (res : List D) : Option (List Prop × List D × List Root) :=
  match run X M cmds k σ with
  | some (ps, k', σ') => match finC X M rv k' σ' res with
    | some (c, Rs) => some (ps, c, Rs)
    | none => none
  | none => none

end Go.Proofs.Ytnfeelacifllmaa.Ab

namespace Go.Proofs.Ytnfeelacifllmaa.Ab

section
variable {E E' : Env} {w w' : World}

theorem Rep.int_inv {m : Md} {k : IntKind} {n : Int} {v : Value} (h : Rep E w m (.int k n) v) : v = .int k n := by cases h; rfl
theorem Rep.bool_inv {m : Md} {b : Bool} {v : Value} (h : Rep E w m (.bool b) v) : v = .bool b := by cases h; rfl
theorem Rep.str_inv {m : Md} {s : ByteArray} {v : Value} (h : Rep E w m (.str s) v) : v = .string s := by cases h; rfl
theorem Rep.nil_inv {m : Md} {v : Value} (h : Rep E w m .nil v) : v = .slice none 0 0 := by cases h; rfl

theorem Rep.lay {d : D} {v : Value} (h : Rep E w .slot d v) : ∀ {m : Md}, (d.fl.plain = true ∨ (d.fl.boxy = true ∧ ∃ r p, m = .box r p)) → Rep E w m d.fl v := by
  intro m hm
  cases h with
  | int m k n => exact .int _ _ _
  | bool m b => exact .bool _ _
  | ifc m b v hv => exact .ifc _ _ _ hv
  | str m s => exact .str _ _
  | nil m => exact .nil _
  | undef m v => rcases hm with h | ⟨h, _⟩ <;> simp [D.fl, D.plain, D.boxy] at h
  | hid m v h1 h2 hm' =>
    rcases hm with h | ⟨_, r', p', rfl⟩
    · simp [D.fl, D.plain] at h
    · exact .hid _ _ h1 h2 (.inr ⟨_, _, rfl⟩)
  | anyb b => rcases hm with h | ⟨h, _⟩ <;> simp [D.fl, D.plain, D.boxy] at h
  | fn f caps vs hl h => rcases hm with h | ⟨h, _⟩ <;> simp [D.fl, D.plain, D.boxy] at h
  | agg cs vs hl h => rcases hm with h | ⟨h, _⟩ <;> simp [D.fl, D.plain, D.boxy] at h
  | tup cs vs hl h => rcases hm with h | ⟨h, _⟩ <;> simp [D.fl, D.plain, D.boxy] at h
  | flist m o wd n xs A cap us hm' hn hc hw ha h => exact .flist _ _ _ _ _ _ _ us (.inr (.inr rfl)) hn hc hw ha h
  | olist m r p wd n xs A cap us hm' hn hc hw ha h => rcases hm' with hm' | hm' <;> cases hm'
  | ref m r wd vw v hm' hs h =>
    rcases hm with h1 | ⟨h1, r', p', rfl⟩
    · simp [D.fl, D.plain] at h1
    · exact .ref _ _ _ _ _ (.inr ⟨_, _, rfl⟩) hs h
  | ptr m r wd i j v hm' hs h =>
    rcases hm with h1 | ⟨h1, r', p', rfl⟩
    · simp [D.fl, D.plain] at h1
    · exact .ptr _ _ _ _ _ _ (.inr ⟨_, _, rfl⟩) hs h
  | fptr m wd xs i j a us hm' hw ha h =>
    rcases hm with h1 | ⟨h1, r', p', rfl⟩
    · simp [D.fl, D.plain] at h1
    · exact .fptr _ _ _ _ _ _ us (.inr ⟨_, _, rfl⟩) hw ha h
  | mref m r v hm' hs h => rcases hm with h1 | ⟨h1, _⟩ <;> simp [D.fl, D.plain, D.boxy] at h1
  | omap m r p l b es clk hm' => rcases hm' with hm' | hm' <;> cases hm'
  | optr m r p wd xs a us hm' => rcases hm' with hm' | hm' <;> cases hm'
  | fomap m l b es clk hm' => rcases hm with h1 | ⟨h1, _⟩ <;> simp [D.fl, D.plain, D.boxy] at h1
  | foptr m wd xs a us hm' => rcases hm with h1 | ⟨h1, _⟩ <;> simp [D.fl, D.plain, D.boxy] at h1

theorem Rep.lift {m : Md} {d : D} {v : Value} (h : Rep E w m d v) (hd : m = .fz ∨ d.loadable = true) : Rep E w .slot d v := by
  cases h with
  | int m k n => exact .int _ _ _
  | bool m b => exact .bool _ _
  | ifc m b v hv => exact .ifc _ _ _ hv
  | str m s => exact .str _ _
  | nil m => exact .nil _
  | undef m v => exact .undef _ _ (.inl rfl)
  | hid m v h1 h2 => exact .hid _ _ h1 h2 (.inl rfl)
  | anyb b => exact .anyb _
  | fn f caps vs hl h => exact .fn _ _ _ hl h
  | agg cs vs hl h => exact .agg _ _ hl h
  | tup cs vs hl h => exact .tup _ _ hl h
  | flist m o wd n xs A cap us hm' hn hc hw ha h => exact .flist _ _ _ _ _ _ _ us (.inl rfl) hn hc hw ha h
  | olist m r p wd n xs A cap us hm' hn hc hw ha h =>
    rcases hd with rfl | hd
    · rcases hm' with hm' | hm' <;> cases hm'
    · simp [D.loadable] at hd
  | ref m r wd vw v hm' hs h => exact .ref _ _ _ _ _ (.inl rfl) hs h
  | ptr m r wd i j v hm' hs h => exact .ptr _ _ _ _ _ _ (.inl rfl) hs h
  | fptr m wd xs i j a us hm' hw ha h => exact .fptr _ _ _ _ _ _ us (.inl rfl) hw ha h
  | mref m r v hm' hs h => exact .mref _ _ _ (.inl rfl) hs h
  | omap m r p l b es clk hm' =>
    rcases hd with rfl | hd
    · rcases hm' with hm' | hm' <;> cases hm'
    · simp [D.loadable] at hd
  | fomap m l b es clk hm' ho hh hf => exact .fomap _ _ _ es clk (.inl rfl) ho hh hf
  | foptr m wd xs a us hm' hw ha h => exact .foptr _ _ _ _ us (.inl rfl) hw ha h
  | optr m r p wd xs a us hm' =>
    rcases hd with rfl | hd
    · rcases hm' with hm' | hm' <;> cases hm'
    · simp [D.loadable] at hd

theorem Rep.leafOf (v : Value) : Rep E w .slot (leafOf v) v := by
  unfold Ab.leafOf
  split
  · exact .bool _ _
  · exact .int _ _ _
  · exact .str _ _
  · exact .nil _
  · exact .ifc _ _ _ (.inl ⟨rfl, rfl⟩)
  · exact .ifc _ _ _ (.inr ⟨rfl, _, _, rfl⟩)
  · exact .undef _ _ (.inl rfl)

theorem Rep.ofVal (v : Value) : Rep E w .slot (ofVal v) v := by
  cases v with
  | agg cs =>
    refine .agg _ _ (by simp) fun i c u hc hu => ?_
    simp only [List.getElem?_map, Option.map_eq_some_iff] at hc
    obtain ⟨x, hx, rfl⟩ := hc
    rw [Array.getElem?_toList] at hx
    rw [hx] at hu
    cases hu
    exact .leafOf _
  | _ => simp only [Ab.ofVal]; exact .leafOf _

theorem pick_list {α : Type} (Q : Nat → α → Value → Prop) : ∀ (cs : List α), (∀ t c, cs[t]? = some c → ∃ u, Q t c u) →
    ∃ us : List Value, us.length = cs.length ∧ ∀ t c u, cs[t]? = some c → us[t]? = some u → Q t c u
  | [], _ => ⟨[], rfl, fun t c u h => by simp at h⟩
  | c :: cs, h => by
    obtain ⟨u, hu⟩ := h 0 c rfl
    obtain ⟨us, hl, hus⟩ := pick_list (fun t => Q (t + 1)) cs (fun t c hc => h (t + 1) c (by simpa using hc))
    refine ⟨u :: us, by simp [hl], fun t c' u' h1 h2 => ?_⟩
    cases t with
    | zero =>
      simp only [List.getElem?_cons_zero, Option.some.injEq] at h1 h2
      subst h1 h2
      exact hu
    | succ t => exact hus t c' u' (by simpa using h1) (by simpa using h2)

theorem getCells_some {xs : List D} {i j n : Nat} {cs : List D} (h : getCells xs i j n = some cs) :
    ∃ x, xs[i]? = some x ∧ j + n ≤ x.cells.length ∧ cs.length = n ∧ ∀ t c, cs[t]? = some c → x.cells[j + t]? = some c := by
  unfold getCells at h
  split at h
  · rename_i x hx
    split at h
    · rename_i hle
      obtain rfl := Option.some.inj h
      refine ⟨x, hx, hle, by simp; omega, fun t c hc => ?_⟩
      rw [List.getElem?_take] at hc
      split at hc
      · rw [List.getElem?_drop] at hc
        exact hc
      · cases hc
    · cases h
  · cases h

theorem add_add (a : Addr) (m n : Nat) : (a.add m).add n = a.add (m + n) := by
  unfold Addr.add
  by_cases hm : m = 0
  · subst hm
    simp
  · by_cases hn : n = 0
    · subst hn
      simp [hm]
    · simp only [hm, if_false, hn]
      rw [if_neg (by omega)]
      simp [Nat.add_assoc]

theorem RootRel.cells {r : Nat} {R : Root} (h : RootRel E w r R) {i j n : Nat} {cs : List D} (hg : getCells R.xs i j n = some cs) :
    ∃ us : List Value, us.length = n ∧ (∀ (t : Nat) u, us[t]? = some u → w.cell? (((E.adr r).add (i * R.w + j)).add t) = some u) ∧
      ∀ (t : Nat) c u, cs[t]? = some c → us[t]? = some u → Rep E w (R.md r i (j + t)) c u := by
  obtain ⟨x, hx, hle, hl, hc⟩ := getCells_some hg
  obtain ⟨us, hul, hus⟩ := pick_list (fun t c u => w.cell? (((E.adr r).add (i * R.w + j)).add t) = some u ∧ Rep E w (R.md r i (j + t)) c u) cs (fun t c htc => by
    obtain ⟨u, hu, hr⟩ := h.cell i (j + t) x c hx (hc t c htc)
    exact ⟨u, by rw [add_add, Nat.add_assoc]; exact hu, hr⟩)
  refine ⟨us, by rw [hul, hl], fun t u hu => ?_, fun t c u htc hu => (hus t c u htc hu).2⟩
  have hlt : t < cs.length := by rw [← hul]; exact (List.getElem?_eq_some_iff.1 hu).1
  exact (hus t _ u (List.getElem?_eq_getElem hlt) hu).1

theorem fptr_cells {wd : Nat} {xs : List D} {i j n : Nat} {v : Value} (h : Rep E w .slot (.fptr wd xs i j) v) {cs : List D} (hg : getCells xs i j n = some cs) :
    ∃ (a : Addr) (us : List Value), v = .pointer (some a) ∧ us.length = n ∧ (∀ (t : Nat) u, us[t]? = some u → w.cell? (a.add t) = some u) ∧ ∀ (t : Nat) c u, cs[t]? = some c → us[t]? = some u → Rep E w .fz c u := by
  cases h with
  | fptr m wd xs i j a us hm hw ha h =>
    obtain ⟨x, hx, hle, hl, hc⟩ := getCells_some hg
    refine ⟨_, (List.range n).map fun t => us i (j + t), rfl, by simp, fun t u hu => ?_, fun t c u htc hu => ?_⟩
    · simp only [List.getElem?_map, Option.map_eq_some_iff] at hu
      obtain ⟨t', ht', rfl⟩ := hu
      have hlt : t < n := by have := (List.getElem?_eq_some_iff.1 ht').1; simpa using this
      have : t' = t := by simp [List.getElem?_range hlt] at ht'; omega
      subst this
      have hlt' : t' < cs.length := by omega
      rw [add_add, Nat.add_assoc]
      exact ha.2.2 i (j + t') x _ hx (hc t' _ (List.getElem?_eq_getElem hlt'))
    · simp only [List.getElem?_map, Option.map_eq_some_iff] at hu
      obtain ⟨t', ht', rfl⟩ := hu
      have hlt : t < n := by have := (List.getElem?_eq_some_iff.1 ht').1; simpa using this
      have : t' = t := by simp [List.getElem?_range hlt] at ht'; omega
      subst this
      exact h i (j + t') x c hx (hc t' c htc)

end

theorem look_ok {P : Program} {T : Tab} (hT : TabOK P T) {t : Nat} {ti : TI} (h : look t T = some ti) : tiOf P t = some ti := by
  induction T with
  | nil => simp [look] at h
  | cons x T ih =>
    obtain ⟨u, i⟩ := x
    obtain ⟨h1, h2⟩ := hT
    simp only [look] at h
    split at h
    · rename_i he
      have := Nat.eq_of_beq_eq_true he
      subst this
      rw [← h]
      exact h1
    · exact ih h2 h

structure TyOK (P : Program) (t : Nat) (ti : TI) (i : TypeInfo) (z : Value) : Prop where
  info : P.info? t = some i
  zero : i.zero = some z
  zeroD : ti.zero = ofVal z
  size : ti.size = i.size
  bytes : ti.bytes = i.bytes
  kind : kindOf P t = some ti.k

theorem tyOK {P : Program} {T : Tab} (hT : TabOK P T) {t : Nat} {ti : TI} (h : look t T = some ti) : ∃ i z, TyOK P t ti i z := by
  have h1 := look_ok hT h
  unfold tiOf at h1
  cases hi : P.info? t with
  | none => simp [hi] at h1
  | some i =>
    cases hk : kindOf P t with
    | none => simp [hi, hk] at h1
    | some k =>
      cases hz : i.zero with
      | none => simp [hi, hk, hz] at h1
      | some z =>
        simp [hi, hk, hz] at h1
        subst h1
        exact ⟨i, z, hi, hz, rfl, rfl, rfl, hk⟩

theorem kind_slice {P : Program} {t e : Nat} (h : kindOf P t = some (.slice e)) : P.underlying t = some (.slice e) := by
  unfold kindOf at h
  split at h <;> first | (cases h; assumption) | (split at h <;> cases h) | cases h
theorem kind_map {P : Program} {t : Nat} (h : kindOf P t = some .mapi) : ∃ k e i, P.underlying t = some (.map k e) ∧ P.underlying k = some (.int .i64) ∧ P.underlying e = some (.int .i64) ∧ P.info? e = some i ∧ i.zero = some (.int .i64 0) := by
  unfold kindOf at h
  split at h <;> first | (cases h; done) | (split at h <;> first | (cases h; done) | (obtain ⟨i, hi, hz⟩ := Option.bind_eq_some_iff.1 (by assumption : (P.info? _).bind (·.zero) = _); exact ⟨_, _, i, by assumption, by assumption, by assumption, hi, hz⟩)) | (split at h <;> cases h)
theorem kind_int {P : Program} {t : Nat} {k : IntKind} (h : kindOf P t = some (.int k)) : P.underlying t = some (.int k) := by
  unfold kindOf at h
  split at h <;> first | (cases h; assumption) | (split at h <;> cases h) | cases h
theorem kind_bool {P : Program} {t : Nat} (h : kindOf P t = some .bool) : P.underlying t = some .bool := by
  unfold kindOf at h
  split at h <;> first | (cases h; assumption) | (split at h <;> cases h) | cases h
theorem kind_ifc {P : Program} {t : Nat} (h : kindOf P t = some .ifc) : ∃ ms, P.underlying t = some (.interface ms) := by
  unfold kindOf at h
  split at h <;> first | (cases h; done) | (cases h; exact ⟨_, by assumption⟩) | (split at h <;> cases h)
theorem kind_str {P : Program} {t : Nat} (h : kindOf P t = some .str) : P.underlying t = some .string := by
  unfold kindOf at h
  split at h <;> first | (cases h; assumption) | (split at h <;> cases h) | cases h
theorem kind_arr {P : Program} {t n e : Nat} (h : kindOf P t = some (.arr n e)) : P.underlying t = some (.array n e) := by
  unfold kindOf at h
  split at h <;> first | (cases h; assumption) | (split at h <;> cases h) | cases h
theorem kind_struct {P : Program} {t : Nat} {fs : List FI} {eq : Option (List LK)} (h : kindOf P t = some (.strct fs eq)) :
    ∃ fields, P.underlying t = some (.struct fields) ∧ fs = fields.toList.map (fun f => ⟨f.offset, P.cellsOf f.type, aggAt P f.type⟩) ∧ eq = eqAt P t fields.toList ∧
      fields.toList.all (fun f => (P.info? f.type).isSome && (P.underlying f.type).isSome) = true := by
  unfold kindOf at h
  split at h <;> first | (cases h; done) | (split at h <;> (cases h; done)) | skip
  rename_i fields hf
  split at h
  · rename_i ha
    cases h
    exact ⟨fields, hf, rfl, rfl, ha⟩
  · cases h

theorem kind_agg {P : Program} {t : Nat} {k : TK} (h : kindOf P t = some k) (w : World) : (isAgg t).run P w = .ok k.agg w := by
  have hu : ∃ d, P.underlying t = some d ∧ k.agg = (match d with | .struct _ | .array _ _ => true | _ => false) := by
    unfold kindOf at h
    split at h <;> rename_i hd <;> first
      | (cases h; exact ⟨_, hd, rfl⟩)
      | (split at h <;> (cases h; exact ⟨_, hd, rfl⟩))
      | (split at h <;> cases h; exact ⟨_, hd, rfl⟩)
      | skip
    rename_i d h1 h2 h3 h4 h5 h6 h7 h8
    cases h
    refine ⟨d, hd, ?_⟩
    cases d <;> first | rfl | (exfalso; simp_all; done)
    all_goals cases h
  obtain ⟨d, hd, hk⟩ := hu
  unfold isAgg
  simp only [run_underlying hd, Sem.run_bind, Result.andThen]
  rw [hk]
  cases d <;> rfl

end Go.Proofs.Ytnfeelacifllmaa.Ab
