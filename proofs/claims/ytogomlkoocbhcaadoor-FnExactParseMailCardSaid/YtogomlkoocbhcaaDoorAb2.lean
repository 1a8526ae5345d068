/- The steps of functions on plain data, part 2: no condition. -/
import Derived.Test.YtogomlkoocbhcaaDoorAb1
set_option linter.unusedVariables false
set_option linter.unusedSimpArgs false
namespace Go.Proofs.YtogomlkoocbhcaaDoor.Ab

section
variable {X : Ctx} {o : Oper} {E E' : Env} {w w' : World} {a : Act} {ρ : Operand → Option D} {g : Nat → Option Root} {nid : Nat}

theorem flat_list {n wd : Nat} (Q : Nat → Nat → Value → Prop) (h : ∀ i j, i < n → j < wd → ∃ u, Q i j u) :
  ∃ us : List Value, us.length = n * wd ∧ (∀ i j, i < n → j < wd → ∃ u, us[i * wd + j]? = some u ∧ Q i j u) ∧ ∀ (k : Nat) u, us[k]? = some u → ∃ i j, i < n ∧ j < wd ∧ k = i * wd + j ∧ Q i j u := by
 have hch : ∃ f : Nat → Nat → Value, ∀ i j, i < n → j < wd → Q i j (f i j) := by
  refine ⟨fun i j => if h' : i < n ∧ j < wd then Classical.choose (h i j h'.1 h'.2) else undef, fun i j hi hj => ?_⟩
  simp only [hi, hj, and_self, dite_true]
  exact Classical.choose_spec (h i j hi hj)
 obtain ⟨f, hf⟩ := hch
 refine ⟨(List.range (n * wd)).map fun k => f (k / wd) (k % wd), by simp, fun i j hi hj => ?_, fun k u hk => ?_⟩
 ·have hlt : i * wd + j < n * wd := by
   have : (i + 1) * wd ≤ n * wd := Nat.mul_le_mul_right _ hi
   rw [Nat.add_mul] at this
   omega
  have h1 : (i * wd + j) / wd = i := by
   rw [Nat.mul_comm, Nat.mul_add_div (by omega), Nat.div_eq_of_lt hj]
   rfl
  have h2 : (i * wd + j) % wd = j := rep_mod (n := 0) hj
  refine ⟨f i j, ?_, hf i j hi hj⟩
  rw [List.getElem?_map, List.getElem?_range hlt]
  simp [h1, h2]
 ·rw [List.getElem?_map, Option.map_eq_some_iff] at hk
  obtain ⟨k', hk', rfl⟩ := hk
  have hlt : k < n * wd := by have := (List.getElem?_eq_some_iff.1 hk').1; simpa using this
  rw [List.getElem?_range hlt] at hk'
  cases hk'
  have hw : 0 < wd := by
   rcases Nat.eq_zero_or_pos wd with h0 | h0
   ·subst h0; simp at hlt
   ·exact h0
  have hi : k / wd < n := (Nat.div_lt_iff_lt_mul hw).2 hlt
  have hj : k % wd < wd := Nat.mod_lt _ hw
  exact ⟨k / wd, k % wd, hi, hj, by rw [Nat.mul_comm]; exact (Nat.div_add_mod k wd).symm, hf _ _ hi hj⟩

def sh (f : Nat → Nat) : Pth → Pth
 | [] => []
 | (i, j) :: q => (f i, j) :: q

def relab (r rx : Option Nat) (lo n nid : Nat) (s : Nat) (p : Pth) : Bk :=
 if r = some s then .own nid (sh (fun i => i - lo) p) else if rx = some s then .own nid (sh (fun i => n + i) p) else .own s p

def Env.app (E : Env) (r rx : Option Nat) (lo n nid : Nat) (A : Addr) (len : Nat) (nb : Option Nat) : Env :=
 {adr := fun s => if s = nid then A else E.adr s
  len := fun s => if s = nid then len else E.len s
  ow := fun b => if nb = some b then .own nid [] else match E.ow b with
   | .own s p => relab r rx lo n nid s p
   | x => x
  st := fun s => if s = nid then .own else if r = some s ∨ rx = some s then .dead else E.st s }

structure AppOk (E : Env) (w w' : World) (r rx : Option Nat) (nid : Nat) (nb : Option Nat) : Prop where
 sz : w.heap.size ≤ w'.heap.size
 os : w'.os = w.os
 tape : w'.tape = w.tape
 output : w'.output = w.output ∧ DrawOk w w'
 fresh : E.st nid = .fresh
 rst : ∀ s, r = some s ∨ rx = some s → E.st s = .own
 nb : ∀ b, nb = some b → w.heap.size ≤ b
 same : ∀ b, b < w.heap.size → (∀ s, r = some s → E.ow b ≠ .own s []) → w'.heap[b]? = w.heap[b]?
 shape : ∀ (b : Nat) (cs : Array Value) (ty : Nat), w.heap[b]? = some (.cells cs ty (0, 0)) → ∃ cs' : Array Value, w'.heap[b]? = some (.cells cs' ty (0, 0)) ∧ cs'.size = cs.size

theorem app_mv {r rx : Option Nat} {lo n nid : Nat} {A : Addr} {len : Nat} {nb : Option Nat} (H : AppOk E w w' r rx nid nb) : Mv E w (E.app r rx lo n nid A len nb) w' := by
 have hnb : ∀ b, b < w.heap.size → nb ≠ some b := fun b hb h => by have := H.nb b h; omega
 refine ⟨H.sz, fun b hb ho => ⟨H.same b hb (fun s _ => by rw [ho]; simp), ?_⟩, fun s hs => ?_, fun s hs hal => ?_⟩
 ·simp only [Env.app, hnb b hb, if_false, ho]
 ·simp only [Env.app]
  split
  ·simp
  ·split
   ·simp
   ·exact hs
 ·have h1 : s ≠ nid := fun e => hs (e ▸ H.fresh)
  have h2 : ¬ (r = some s ∨ rx = some s) := fun h => by
   unfold Alive at hal
   simp [Env.app, h1, h] at hal
  refine ⟨?_, by simp [Env.app, h1], by simp [Env.app, h1], fun N hN => ?_⟩
  ·unfold Alive at *
   simpa [Env.app, h1, h2] using hal
  ·obtain ⟨s1, s2, cs, ty, s3, s4⟩ := hN
   have hb := lt_of_get s3
   obtain ⟨cs', g1, g2⟩ := H.shape _ cs ty s3
   have hst : (E.app r rx lo n nid A len nb).st s = E.st s := by simp [Env.app, h1, h2]
   have hadr : (E.app r rx lo n nid A len nb).adr s = E.adr s := by simp [Env.app, h1]
   unfold Shp
   rw [hst, hadr]
   refine ⟨s1, ?_, cs', ty, g1, by rw [g2]; exact s4⟩
   have h3 : r ≠ some s := fun e => h2 (.inl e)
   have h4 : rx ≠ some s := fun e => h2 (.inr e)
   by_cases ho : E.st s = .own
   ·rw [if_pos ho] at s2 ⊢
    simp only [Env.app, hnb _ hb, if_false, s2, relab, h3, h4]
   ·rw [if_neg ho] at s2 ⊢
    simp only [Env.app, hnb _ hb, if_false, s2]

theorem app_lab_r {r rx : Option Nat} {lo n nid : Nat} {A : Addr} {len : Nat} {nb : Option Nat} (H : AppOk E w w' r rx nid nb) {s i j : Nat} (hr : r = some s) (hi : lo ≤ i) : Lab E w (E.app r rx lo n nid A len nb) w' s [(i, j)] nid [(i - lo, j)] := fun b q hb ho => by
 have hnb : nb ≠ some b := fun h => by have := H.nb b h; omega
 refine ⟨H.same b hb (fun s' _ => by rw [ho]; simp), ?_⟩
 simp only [Env.app, hnb, if_false, ho, relab, hr, if_true]
 rfl

theorem app_lab_x {r rx : Option Nat} {lo n nid : Nat} {A : Addr} {len : Nat} {nb : Option Nat} (H : AppOk E w w' r rx nid nb) {s i j : Nat} (hx : rx = some s) (hne : r ≠ some s) : Lab E w (E.app r rx lo n nid A len nb) w' s [(i, j)] nid [(n + i, j)] := fun b q hb ho => by
 have hnb : nb ≠ some b := fun h => by have := H.nb b h; omega
 refine ⟨H.same b hb (fun s' _ => by rw [ho]; simp), ?_⟩
 simp only [Env.app, hnb, if_false, ho, relab, hne, hx, if_true]
 rfl

theorem app_lab_o {r rx : Option Nat} {lo n nid : Nat} {A : Addr} {len : Nat} {nb : Option Nat} (H : AppOk E w w' r rx nid nb) {s : Nat} {p : Pth} (hne : r ≠ some s) (hnx : rx ≠ some s) : Lab E w (E.app r rx lo n nid A len nb) w' s p s p := fun b q hb ho => by
 have hnb : nb ≠ some b := fun h => by have := H.nb b h; omega
 refine ⟨H.same b hb (fun s' hs' => by rw [ho]; intro e; rw [Bk.own.injEq] at e; exact hne (by rw [e.1]; exact hs')), ?_⟩
 simp only [Env.app, hnb, if_false, ho, relab, hne, hnx]

theorem ext_app {r rx : Option Nat} {lo n m nid wd : Nat} {A : Addr} {nb : Option Nat} (H : AppOk E w w' r rx nid nb) {xs : List D} (hn : xs.length = n + m) (hwd : ∀ x ∈ xs, x.cells.length = wd)
  (hshp : 0 < n + m → A.spot = none ∧ (match nb with | some b => A.block = b | none => ∃ s, r = some s ∧ E.ow A.block = .own s [] ∧ A.block < w.heap.size) ∧ ∃ cs ty, w'.heap[A.block]? = some (.cells cs ty (0, 0)) ∧ A.off + (n + m) * wd ≤ cs.size)
  (hold : ∀ (i j : Nat) x c, i < n → xs[i]? = some x → x.cells[j]? = some c → ∃ u s, r = some s ∧ w'.cell? (A.add (i * wd + j)) = some u ∧ Rep E w (.own s [(lo + i, j)]) c u)
  (hnew : ∀ (i j : Nat) x c, xs[n + i]? = some x → x.cells[j]? = some c → ∃ u, w'.cell? (A.add ((n + i) * wd + j)) = some u ∧ ((∃ s, rx = some s ∧ r ≠ some s ∧ Rep E w (.own s [(i, j)]) c u) ∨ (c.plain = true ∧ Rep E w .slot c u)))
  {us : List (Nat × Option Root)} (hus : ∀ s R, (s, some R) ∈ us → s = nid ∧ R = ⟨false, false, wd, n + m, xs⟩) (hks : ∀ s, r = some s ∨ rx = some s → ∃ u ∈ us, u.1 = s) (hnid : ∃ u ∈ us, u.1 = nid) :
  Ext E w (E.app r rx lo n nid A (n + m) nb) w' us := by
 have M := app_mv (lo := lo) (n := n) (A := A) (len := n + m) H
 have hnb : ∀ b, b < w.heap.size → nb ≠ some b := fun b hb h => by have := H.nb b h; omega
 refine ⟨M.sz, H.os, H.tape, H.output, M.fz, fun b hb ho => ⟨H.same b hb (fun s _ => by rw [ho]; simp), ?_⟩, fun s hs => ?_, fun d v h => h.mv M trivial, fun s R hs h => ?_, fun s R hmem => ?_, fun s hs hf => ?_, H.shape, fun s N hs hs' h => (M.ref s (by rw [hs]; simp) (.inl hs')).2.2.2 N h, fun s hs => ?_⟩
 ·simp only [Env.app, hnb b hb, if_false, ho]
 ·have : s ≠ nid := fun e => hs (e ▸ H.fresh)
  simp [Env.app, this]
 ·have h1 : s ≠ nid := fun e => by obtain ⟨u, hu, he⟩ := hnid; exact hs u hu (he.trans e.symm)
  have h2 : ¬ (r = some s ∨ rx = some s) := fun e => by obtain ⟨u, hu, he⟩ := hks s e; exact hs u hu he
  exact h.mv M (by simp [Env.app, h1, h2]) (app_lab_o H (fun e => h2 (.inl e)) (fun e => h2 (.inr e)))
 ·obtain ⟨rfl, rfl⟩ := hus s R hmem
  have hadr : (E.app r rx lo n s A (n + m) nb).adr s = A := by simp [Env.app]
  refine ⟨by simp [Env.app], by simp [Env.app], hn, hwd, (fun h => by cases h), fun h0 => ?_, fun i j x c hx hj => ?_⟩
  ·obtain ⟨s1, s2, cs, ty, s3, s4⟩ := hshp h0
   unfold Shp
   rw [hadr]
   refine ⟨s1, ?_, cs, ty, s3, s4⟩
   have hst : (E.app r rx lo n s A (n + m) nb).st s = .own := by simp [Env.app]
   rw [hst, if_pos rfl]
   cases nb with
   | some b =>
    simp only at s2
    simp [Env.app, s2]
   | none =>
    obtain ⟨s', hs', ho, _⟩ := s2
    simp only [Env.app, ho, relab, hs', if_true]
    rfl
  ·rw [hadr]
   change ∃ u, w'.cell? (A.add (i * wd + j)) = some u ∧ Rep (E.app r rx lo n s A (n + m) nb) w' (.own s [(i, j)]) c u
   rcases Nat.lt_or_ge i n with hlt | hge
   ·obtain ⟨u, s', hs', hu, hr⟩ := hold i j x c hlt hx hj
    refine ⟨u, hu, hr.mv M ?_⟩
    have := app_lab_r (lo := lo) (n := n) (A := A) (len := n + m) (i := lo + i) (j := j) H hs' (by omega)
    rw [show lo + i - lo = i by omega] at this
    exact this
   ·obtain ⟨k, rfl⟩ : ∃ k, i = n + k := ⟨i - n, by omega⟩
    obtain ⟨u, hu, hr⟩ := hnew k j x c hx hj
    refine ⟨u, hu, ?_⟩
    rcases hr with ⟨s', hs', hne, hr⟩ | ⟨hp, hr⟩
    ·exact hr.mv M (app_lab_x (lo := lo) (n := n) (A := A) (len := n + m) (i := k) (j := j) H hs' hne)
    ·have h1 := (hr.mv M (m' := .slot) trivial).lay (m := .own s [(n + k, j)]) (.inl (by rw [plain_fl hp]; exact hp))
     rw [plain_fl hp] at h1
     exact h1
 ·have h1 : s ≠ nid := fun e => by obtain ⟨u, hu, he⟩ := hnid; exact hs u hu (he.trans e.symm)
  have h2 : ¬ (r = some s ∨ rx = some s) := fun e => by obtain ⟨u, hu, he⟩ := hks s e; exact hs u hu he
  simpa [Env.app, h1, h2] using hf
 ·by_cases h1 : s = nid
  ·subst h1; exact .inl H.fresh
  ·by_cases h2 : r = some s ∨ rx = some s
   ·simp [Env.app, h1, h2] at hs
   ·simp only [Env.app, h1, h2, if_false] at hs; exact .inr hs

theorem Rep.one {m : Md} {d : D} {v : Value} (h : Rep E w m d v) (hm : m = .fz ∨ ∃ r p, m = .own r p) : v.oneCell' = true := by
 have hb : ¬ (m = .slot ∨ ∃ r p, m = .box r p) := by rcases hm with rfl | ⟨r, p, rfl⟩ <;> simp
 cases h with
 | agg cs vs hl h => exact absurd (.inl rfl) hb
 | tup cs vs hl h => exact absurd (.inl rfl) hb
 | fn f caps vs hl h => rfl
 | undef m v hm' => exact absurd hm' hb
 | hid m v h1 h2 hm' => exact h1
 | anyb b => rfl
 | int m k n => rfl
 | bool m b => rfl
 | ifc m b v hv => exact (ifcV_one hv).2
 | str m s => rfl
 | nil m => rfl
 | flist m o wd n xs A cap us hm hn hc hw ha h => rfl
 | olist m r p wd n xs A cap us hm hn hc hw ha h => rfl
 | ref m r wd vw v hm' hs h => exact absurd hm' hb
 | ptr m r wd i j v hm' hs h => exact absurd hm' hb
 | fptr m wd xs i j a us hm hw ha h => rfl

structure SrcD (P : Program) (E : Env) (w : World) (rx : Option Nat) (tx wd : Nat) (zs : List D) (m : Nat) (v : Value) : Prop where
 len : zs.length = m
 wid : ∀ x ∈ zs, x.cells.length = wd
 src : ∃ news, Src P wd tx v m news w ∧ ∀ (i j : Nat) x c, zs[i]? = some x → x.cells[j]? = some c → ∃ u, news[i * wd + j]? = some u ∧ ((∃ s, rx = some s ∧ Rep E w (.own s [(i, j)]) c u) ∨ (c.plain = true ∧ Rep E w .slot c u))

theorem slice_src {P : Program} {rx : Option Nat} {tx e wd m cap : Nat} {A : Option Addr} {zs : List D} (hk : P.underlying tx = some (.slice e)) (hl : zs.length = m) (hwd : ∀ x ∈ zs, x.cells.length = wd)
  (h : 0 < m → ∃ b, A = some b ∧ ∀ (i j : Nat) x c, zs[i]? = some x → x.cells[j]? = some c → ∃ u, w.cell? (b.add (i * wd + j)) = some u ∧ u.oneCell' = true ∧ ((∃ s, rx = some s ∧ Rep E w (.own s [(i, j)]) c u) ∨ (c.plain = true ∧ Rep E w .slot c u))) :
  SrcD P E w rx tx wd zs m (.slice A m cap) := by
 refine ⟨hl, hwd, ?_⟩
 rcases Nat.eq_zero_or_pos m with h0 | h0
 ·subst h0
  obtain rfl : zs = [] := List.eq_nil_of_length_eq_zero hl
  refine ⟨[], ?_, fun i j x c hx => by simp at hx⟩
  cases A with
  | none => exact Src.ofNil w hk cap
  | some b => exact Src.ofSlice w hk b 0 cap [] (by simp) (by simp) (by simp)
 ·obtain ⟨b, rfl, hb⟩ := h h0
  have hget : ∀ i j, i < m → j < wd → ∃ x c, zs[i]? = some x ∧ x.cells[j]? = some c := fun i j hi hj => by
   have hx : zs[i]? = some (zs[i]'(by omega)) := List.getElem?_eq_getElem _
   have hw' := hwd _ (List.mem_of_getElem? hx)
   exact ⟨_, _, hx, List.getElem?_eq_getElem (by omega)⟩
  obtain ⟨us, hul, h1, h2⟩ := flat_list (n := m) (wd := wd) (fun i j u => w.cell? (b.add (i * wd + j)) = some u ∧ u.oneCell' = true ∧ ∀ x c, zs[i]? = some x → x.cells[j]? = some c → ((∃ s, rx = some s ∧ Rep E w (.own s [(i, j)]) c u) ∨ (c.plain = true ∧ Rep E w .slot c u))) (fun i j hi hj => by
   obtain ⟨x, c, hx, hc⟩ := hget i j hi hj
   obtain ⟨u, hu, ho, hr⟩ := hb i j x c hx hc
   exact ⟨u, hu, ho, fun x' c' hx' hc' => by rw [hx] at hx'; cases hx'; rw [hc] at hc'; cases hc'; exact hr⟩)
  refine ⟨us, Src.ofSlice w hk b m cap us hul (fun k u hk => ?_) (fun u hu => ?_), fun i j x c hx hc => ?_⟩
  ·obtain ⟨i, j, hi, hj, rfl, hq, _⟩ := h2 k u hk
   exact hq
  ·obtain ⟨k, hk⟩ := List.getElem?_of_mem hu
   obtain ⟨i, j, hi, hj, _, _, ho, _⟩ := h2 k u hk
   exact ho
  ·have hi : i < m := by rw [← hl]; exact (List.getElem?_eq_some_iff.1 hx).1
   have hj : j < wd := by rw [← hwd x (List.mem_of_getElem? hx)]; exact (List.getElem?_eq_some_iff.1 hc).1
   obtain ⟨u, hu, _, _, hq⟩ := h1 i j hi hj
   exact ⟨u, hu, hq x c hx hc⟩

theorem str_src {P : Program} {rx : Option Nat} {tx : Nat} {s : ByteArray} (hk : P.underlying tx = some .string) : SrcD P E w rx tx 1 (bytesD s) s.size (.string s) := by
 refine ⟨bytesD_length s, fun x hx => ?_, byteCells s, Src.ofString w hk s, fun i j x c hx hc => ?_⟩
 ·unfold bytesD at hx
  obtain ⟨b, _, rfl⟩ := List.mem_map.1 hx
  rfl
 ·obtain ⟨b, hb, rfl⟩ := bytesD_get hx
  cases j with
  | succ j => simp [D.cells] at hc
  | zero =>
   simp [D.cells] at hc
   subst hc
   refine ⟨.int .u8 b.toNat, ?_, .inr ⟨rfl, .int _ _ _⟩⟩
   simp only [Nat.mul_one, Nat.add_zero, byteCells, List.getElem?_map, hb, Option.map_some]

def DstD (E : Env) (w : World) (r : Option Nat) (lo n wd : Nat) (ys : List D) (A : Option Addr) (cap : Nat) : Prop :=
 (r = none ∧ n = 0 ∧ cap = 0 ∧ A = none ∧ ys = []) ∨
 ∃ s R, r = some s ∧ RootRel E w s R ∧ R.fz = false ∧ R.box = false ∧ R.w = wd ∧ n ≤ cap ∧ lo + n ≤ R.n ∧ ys = (R.xs.drop lo).take n ∧ (0 < cap → A = some ((E.adr s).add (lo * wd)) ∧ Shp E w s ((lo + cap) * wd))

theorem run_append_zero {P : Program} {t tx ty e : TypeId} {i : TypeInfo} (ht : P.underlying t = some (.slice e)) (hi : P.info? e = some i) {A : Option Addr} {cap : Nat} {x : Value} {news : List Value} (hs : Src P i.size tx x 0 news w) :
  (Builtin.append_ #[t, tx] ty #[.slice A 0 cap, x]).run P w = .ok (.slice A 0 cap) w := by
 have hn : news = [] := List.eq_nil_of_length_eq_zero (by rw [hs.newsLen]; simp)
 have hc := hs.cells
 rw [hn] at hc
 rcases hs.kind with ⟨e', hk⟩ | hk <;> cases A <;> simp [Builtin.append_, run_underlying ht, run_underlying hk, sizeOf, typeInfo, hi, hs.len, hc, storeCells]


theorem append_core {P : Program} {r rx : Option Nat} {lo n m nid : Nat} {ys zs : List D} {A : Option Addr} {cap : Nat} {v x : Value} {t tx ty e : Nat} {te : TI} {inf : TypeInfo} {z : Value} (hT : TyOK P e te inf z) (hzsz : z.cells.size = te.size) (ht : P.underlying t = some (.slice e))
  (hd : DstD E w r lo n te.size ys A cap) (hv : v = .slice A n cap) (hs : SrcD P E w rx tx te.size zs m x) (hne : ∀ s, r = some s → rx ≠ some s) (hrx : ∀ s, rx = some s → E.st s = .own) (hfr : E.st nid = .fresh) (h0 : 0 < te.size) (hb : 0 < te.bytes)
  (hbound : (n + m) * te.bytes ≤ 70368744177664) {us : List (Nat × Option Root)} (hus : ∀ s R, (s, some R) ∈ us → s = nid ∧ R = ⟨false, false, te.size, n + m, ys ++ zs⟩) (hks : ∀ s, r = some s ∨ rx = some s → ∃ u ∈ us, u.1 = s) (hnid : ∃ u ∈ us, u.1 = nid) :
  ∃ v' w' E', (Builtin.append_ #[t, tx] ty #[v, x]).run P w = .ok v' w' ∧ Ext E w E' w' us ∧ Rep E' w' .slot (.ref nid te.size none) v' := by
 subst hv
 obtain ⟨hzl, hzw, news, hsrc, hznew⟩ := hs
 have hi := hT.info
 have hsz : inf.size = te.size := hT.size.symm
 -- the elements that are there
 have hyl : ys.length = n ∧ (∀ x ∈ ys, x.cells.length = te.size) ∧ ∀ s, r = some s → E.st s = .own := by
  rcases hd with ⟨rfl, rfl, rfl, rfl, rfl⟩ | ⟨s, R, rfl, hR, hfz, hbox, hRw, hcap, hlo, rfl, hA⟩
  ·exact ⟨rfl, (fun x hx => by cases hx), (fun s h => by cases h)⟩
  ·refine ⟨by simp [hR.n]; omega, fun x hx => ?_, fun s' h => ?_⟩
   ·rw [← hRw]
    exact hR.wd x (List.mem_of_mem_drop (List.mem_of_mem_take hx))
   ·cases h
    rw [hR.st, hfz]
    rfl
 obtain ⟨hyl, hyw, hrst⟩ := hyl
 have hlen : (ys ++ zs).length = n + m := by simp [hyl, hzl]
 have hwid : ∀ x ∈ ys ++ zs, x.cells.length = te.size := fun x hx => by
  rcases List.mem_append.1 hx with hx | hx
  ·exact hyw x hx
  ·exact hzw x hx
 have hr1 : ∀ s, r = some s ∨ rx = some s → E.st s = .own := fun s h => h.elim (hrst s) (hrx s)
 have hyget : ∀ (i : Nat) x, i < n → (ys ++ zs)[i]? = some x → ys[i]? = some x := fun i x hi hx => by rwa [List.getElem?_append_left (by omega)] at hx
 have hzget : ∀ (i : Nat) x, (ys ++ zs)[n + i]? = some x → zs[i]? = some x := fun i x hx => by rwa [List.getElem?_append_right (by omega), hyl, show n + i - n = i by omega] at hx
 have mkx : ∀ {i j : Nat} {x c : D} {u : Value}, ((∃ s, rx = some s ∧ Rep E w (.own s [(i, j)]) c u) ∨ (c.plain = true ∧ Rep E w .slot c u)) → ((∃ s, rx = some s ∧ r ≠ some s ∧ Rep E w (.own s [(i, j)]) c u) ∨ (c.plain = true ∧ Rep E w .slot c u)) := fun h => by
  rcases h with ⟨s, h1, h2⟩ | h
  ·exact .inl ⟨s, h1, fun e => hne s e h1, h2⟩
  ·exact .inr h
 have mkref : ∀ {A' : Addr} {cap' : Nat} {nb : Option Nat} {w' : World} {V : Value}, V = .slice (some A') (n + m) cap' ∨ (n + m = 0 ∧ cap' = 0 ∧ ∃ B, V = .slice B 0 0) → n + m ≤ cap' → (0 < cap' → Shp (E.app r rx lo n nid A' (n + m) nb) w' nid (cap' * te.size)) → Rep (E.app r rx lo n nid A' (n + m) nb) w' .slot (.ref nid te.size none) V := fun {A' cap' nb w' V} hV hc hsh => by
  refine .ref _ _ _ _ _ (.inl rfl) (by simp [Env.app]) fun _ => ?_
  have hlen' : (E.app r rx lo n nid A' (n + m) nb).len nid = n + m := by simp [Env.app]
  have hadr' : (E.app r rx lo n nid A' (n + m) nb).adr nid = A' := by simp [Env.app]
  rcases hV with rfl | ⟨h1, h2, B, rfl⟩
  ·refine ⟨some A', cap', by simp [Vw, hlen'], by simpa [Vw, hlen'] using hc, by simp [Vw, hlen'], fun h => ⟨by simp [Vw, hadr', Addr.add], ?_⟩⟩
   simp only [Vw, Nat.zero_add]
   exact hsh h
  ·exact ⟨B, 0, by simp only [Vw]; rw [hlen', h1], by simp only [Vw]; rw [hlen', h1]; exact Nat.le_refl _, by simp only [Vw]; omega, fun h => by omega⟩
 by_cases hroom : n + m ≤ cap
 ·rcases Nat.eq_zero_or_pos cap with hc0 | hc0
  ·-- nothing there, nothing appended
   have hn0 : n = 0 := by omega
   have hm0 : m = 0 := by omega
   subst hc0
   have hys : ys = [] := List.eq_nil_of_length_eq_zero (by omega)
   have hzs : zs = [] := List.eq_nil_of_length_eq_zero (by omega)
   subst hm0 hn0
   rw [← hsz] at hsrc
   have hA : AppOk E w w r rx nid none := ⟨Nat.le_refl _, rfl, rfl, ⟨rfl, drw_le (Nat.le_refl _)⟩, hfr, hr1, (fun b h => by cases h), fun _ _ _ => rfl, fun b cs ty h => ⟨cs, h, rfl⟩⟩
   refine ⟨_, w, E.app r rx lo 0 nid ⟨0, 0, none⟩ 0 none, run_append_zero ht hi hsrc, ext_app (xs := ys ++ zs) hA hlen hwid (fun h => by omega) (fun i j x c h => by omega) (fun i j x c hx => by rw [hys, hzs] at hx; simp at hx) hus hks hnid, ?_⟩
   exact mkref (A' := ⟨0, 0, none⟩) (cap' := 0) (.inr ⟨rfl, rfl, A, rfl⟩) (Nat.le_refl _) (fun h => by omega)
  ·-- there is room
   rcases hd with ⟨_, _, rfl, _⟩ | ⟨s, R, rfl, hR, hfz, hbox, hRw, hcap, hlo, rfl, hA⟩
   ·omega
   obtain ⟨rfl, hsh⟩ := hA hc0
   have hst : E.st s = .own := hrst s rfl
   obtain ⟨s1, s2, cs, ty', s3, s4⟩ := hsh
   rw [hst, if_pos rfl] at s2
   have haddr : (E.adr s).add (lo * te.size) = ⟨(E.adr s).block, (E.adr s).off + lo * te.size, none⟩ := by
    unfold Addr.add
    split
    ·rename_i hz
     rw [hz]
     cases hAd : E.adr s with
     | mk b1 b2 b3 => rw [hAd] at s1; simp at s1; subst s1; rfl
    ·rfl
   have hnl : news.length = m * te.size := hsrc.newsLen
   have hfit : (E.adr s).off + lo * te.size + n * te.size + news.length ≤ cs.size := by
    have h1 : (n + m) * te.size ≤ cap * te.size := Nat.mul_le_mul_right _ hroom
    rw [Nat.add_mul] at h1 s4
    omega
   have hcellB : ∀ k, k < cs.size → w.cell? ⟨(E.adr s).block, k, none⟩ = some cs[k]! ∧ w.frozen? ⟨(E.adr s).block, k, none⟩ = false := fun k hk => by
    unfold World.cell? World.frozen?
    simp only [s3]
    simp [hk]
   have hrun := run_append_room_src (P := P) w t tx ty e inf ht hi (E.adr s).block ((E.adr s).off + lo * te.size) n cap x m news (by rw [hsz]; exact hsrc) hroom
    (fun j hj => by rw [hsz, (hcellB _ (by omega)).1]; rfl) (fun j hj => by rw [hsz]; exact (hcellB _ (by omega)).2)
   rw [← haddr, hsz] at hrun
   obtain ⟨q1, q2, q3, q4, q5⟩ := setCells_same (E.adr s).block news ((E.adr s).off + lo * te.size + n * te.size) w
   obtain ⟨cs', g1, g2, g3⟩ := setCells_heap (E.adr s).block news ((E.adr s).off + lo * te.size + n * te.size) w cs ty' (0, 0) s3 hfit
   have hAO : AppOk E w (w.setCells (E.adr s).block ((E.adr s).off + lo * te.size + n * te.size) news) (some s) rx nid none := by
    refine ⟨by rw [q1]; exact Nat.le_refl _, q2, q3, q4, hfr, hr1, (fun b h => by cases h), fun b hb hb' => q5 b (fun e => hb' s rfl (by rw [e]; exact s2)), fun b cs1 ty1 h => ?_⟩
    by_cases hbb : b = (E.adr s).block
    ·subst hbb
     rw [s3] at h
     cases h
     exact ⟨cs', g1, g2⟩
    ·exact ⟨cs1, (q5 b hbb).trans h, rfl⟩
   have hcellA : ∀ k, (w.setCells (E.adr s).block ((E.adr s).off + lo * te.size + n * te.size) news).cell? (((E.adr s).add (lo * te.size)).add k) = cs'[(E.adr s).off + lo * te.size + k]? := fun k => by
    rw [haddr]
    unfold World.cell?
    rw [add_block]
    simp only [g1]
    unfold Addr.add
    split
    ·rename_i hm; subst hm; simp
    ·simp
   have hcellW : ∀ k, w.cell? (((E.adr s).add (lo * te.size)).add k) = cs[(E.adr s).off + lo * te.size + k]? := fun k => by
    rw [haddr]
    unfold World.cell?
    rw [add_block]
    simp only [s3]
    unfold Addr.add
    split
    ·rename_i hm; subst hm; simp
    ·simp
   refine ⟨_, _, E.app (some s) rx lo n nid ((E.adr s).add (lo * te.size)) (n + m) none, hrun, ext_app (xs := (R.xs.drop lo).take n ++ zs) hAO hlen hwid (fun h => ?_) (fun i j x c hi hx hc => ?_) (fun i j x c hx hc => ?_) hus hks hnid, ?_⟩
   ·refine ⟨by rw [haddr], ⟨s, rfl, by rw [add_block]; exact s2, by rw [add_block]; exact lt_of_get s3⟩, cs', ty', by rw [add_block]; exact g1, ?_⟩
    rw [haddr, g2, Nat.add_mul]
    simp only
    rw [hnl] at hfit
    omega
   ·have hx' := (take_drop_get (hyget i x hi hx)).1
    obtain ⟨u, hu, hr⟩ := hR.cell (lo + i) j x c hx' hc
    have hj : j < te.size := by rw [← hwid x (List.mem_of_getElem? hx)]; exact (List.getElem?_eq_some_iff.1 hc).1
    refine ⟨u, s, rfl, ?_, by simpa [Root.md, hfz, hbox] using hr⟩
    rw [hcellA, g3, if_neg ?_, ← hcellW, add_add, show lo * te.size + (i * te.size + j) = (lo + i) * R.w + j by rw [hRw, Nat.add_mul]; omega]
    ·exact hu
    ·have : (i + 1) * te.size ≤ n * te.size := Nat.mul_le_mul_right _ hi
     rw [Nat.add_mul] at this
     omega
   ·obtain ⟨u, hu, hr⟩ := hznew i j x c (hzget i x hx) hc
    refine ⟨u, ?_, mkx (x := x) hr⟩
    have hlt : i * te.size + j < news.length := (List.getElem?_eq_some_iff.1 hu).1
    rw [hcellA, g3, if_pos (by rw [Nat.add_mul]; omega), show (E.adr s).off + lo * te.size + ((n + i) * te.size + j) - ((E.adr s).off + lo * te.size + n * te.size) = i * te.size + j by rw [Nat.add_mul]; omega]
    exact hu
   ·refine mkref (cap' := cap) (.inl rfl) hroom fun _ => ?_
    unfold Shp
    have hadr' : (E.app (some s) rx lo n nid ((E.adr s).add (lo * te.size)) (n + m) none).adr nid = (E.adr s).add (lo * te.size) := by simp [Env.app]
    have hst' : (E.app (some s) rx lo n nid ((E.adr s).add (lo * te.size)) (n + m) none).st nid = .own := by simp [Env.app]
    rw [hadr', hst', if_pos rfl]
    refine ⟨by rw [haddr], ?_, cs', ty', by rw [add_block]; exact g1, ?_⟩
    ·rw [add_block]
     simp [Env.app, s2, relab, sh]
    ·rw [haddr, g2]
     simp only
     rw [Nat.add_mul] at s4
     omega
 ·-- there is none
  have holds : ∃ olds : List Value, olds.length = n * te.size ∧ (Builtin.firstCells inf.size n (.slice A n cap)).run P w.drew = .ok olds.toArray w.drew ∧
    ∀ (i j : Nat) x c, i < n → ys[i]? = some x → x.cells[j]? = some c → ∃ u s, r = some s ∧ olds[i * te.size + j]? = some u ∧ Rep E w (.own s [(lo + i, j)]) c u := by
   rcases hd with ⟨rfl, rfl, rfl, rfl, rfl⟩ | ⟨s, R, rfl, hR, hfz, hbox, hRw, hcap, hlo, rfl, hA⟩
   ·exact ⟨[], by simp, run_firstCells_none w.drew inf.size 0 0 0, fun i j x c h => by omega⟩
   ·rcases Nat.eq_zero_or_pos n with hn0 | hn0
    ·subst hn0
     refine ⟨[], by simp, ?_, fun i j x c h => by omega⟩
     cases A with
     | none => exact run_firstCells_none w.drew inf.size 0 0 cap
     | some b => exact run_firstCells_some w.drew inf.size 0 b 0 cap [] (by simp) (by simp)
    ·obtain ⟨rfl, hsh⟩ := hA (by omega)
     obtain ⟨us', hul, h1, h2⟩ := flat_list (n := n) (wd := te.size) (fun i j u => w.cell? (((E.adr s).add (lo * te.size)).add (i * te.size + j)) = some u ∧ ∀ x c, ((R.xs.drop lo).take n)[i]? = some x → x.cells[j]? = some c → Rep E w (.own s [(lo + i, j)]) c u) (fun i j hi hj => by
      have hx : ((R.xs.drop lo).take n)[i]? = some (((R.xs.drop lo).take n)[i]'(by omega)) := List.getElem?_eq_getElem _
      have hxw := hyw _ (List.mem_of_getElem? hx)
      have hc : (((R.xs.drop lo).take n)[i]'(by omega)).cells[j]? = some _ := List.getElem?_eq_getElem (by omega)
      obtain ⟨u, hu, hr⟩ := hR.cell (lo + i) j _ _ (take_drop_get hx).1 hc
      refine ⟨u, by rw [add_add, show lo * te.size + (i * te.size + j) = (lo + i) * R.w + j by rw [hRw, Nat.add_mul]; omega]; exact hu, fun x' c' hx' hc' => ?_⟩
      rw [hx] at hx'
      cases hx'
      rw [hc] at hc'
      cases hc'
      simpa [Root.md, hfz, hbox] using hr)
     refine ⟨us', hul, run_firstCells_some w.drew inf.size n _ n cap us' (by rw [hsz]; exact hul) (fun k u hk => ?_), fun i j x c hi hx hc => ?_⟩
     ·obtain ⟨i, j, hi, hj, rfl, hq, _⟩ := h2 k u hk
      exact hq
     ·have hj : j < te.size := by rw [← hyw x (List.mem_of_getElem? hx)]; exact (List.getElem?_eq_some_iff.1 hc).1
      obtain ⟨u, hu, _, hq⟩ := h1 i j hi hj
      exact ⟨u, s, rfl, hu, hq x c hx hc⟩
  obtain ⟨olds, hol, hofc, hoget⟩ := holds
  have hg : cap < n + m := by omega
  have hcapneed := nextslicecap_le (need := n + m) (old := cap) hg
  have hfit : Builtin.nextslicecap (n + m) cap * inf.bytes ≤ 281474976710656 := by
   rw [← hT.bytes]
   calc Builtin.nextslicecap (n + m) cap * te.bytes ≤ 2 * (n + m) * te.bytes := Nat.mul_le_mul_right _ hcapneed
    _ ≤ 281474976710656 := by rw [Nat.mul_assoc]; omega
  have h63 : ((n + m : Nat) : Int) ≤ 9223372036854775807 := by
   have : n + m ≤ (n + m) * te.bytes := Nat.le_mul_of_pos_right _ hb
   omega
  have hrun := run_append_grow_src (P := P) w t tx ty e inf z ht hi hT.zero A n cap olds hofc x m news (by rw [hsz]; exact hsrc) hg h63 hfit
  have hgc : n + m ≤ grownCap w (n + m) cap e := by
   unfold grownCap Question.cut
   simp
  have hzcells : ((olds ++ news).toArray ++ Builtin.zeroCells z.cells (grownCap w (n + m) cap e - (n + m))).size = (n + m) * te.size + (grownCap w (n + m) cap e - (n + m)) * z.cells.size := by
   simp [Builtin.zeroCells, hol, hsrc.newsLen, Nat.add_mul]
  have hget0 : (w.drew.alloc (.cells ((olds ++ news).toArray ++ Builtin.zeroCells z.cells (grownCap w (n + m) cap e - (n + m))) e)).heap[w.heap.size]? = some (.cells ((olds ++ news).toArray ++ Builtin.zeroCells z.cells (grownCap w (n + m) cap e - (n + m))) e (0, 0)) := by
   rw [alloc_heap]
   show (w.heap.push _)[w.heap.size]? = _
   rw [Array.getElem?_push_size]
  have hgetO : ∀ b, b < w.heap.size → (w.drew.alloc (.cells ((olds ++ news).toArray ++ Builtin.zeroCells z.cells (grownCap w (n + m) cap e - (n + m))) e)).heap[b]? = w.heap[b]? := fun b hb => by
   rw [alloc_heap]
   show (w.heap.push _)[b]? = _
   rw [Array.getElem?_push, if_neg (by omega)]
  have hAO : AppOk E w (w.drew.alloc (.cells ((olds ++ news).toArray ++ Builtin.zeroCells z.cells (grownCap w (n + m) cap e - (n + m))) e)) r rx nid (some w.heap.size) :=
   ⟨by rw [alloc_heap]; simp, rfl, rfl, ⟨rfl, drw_le (Nat.le_succ _)⟩, hfr, hr1, (fun b h => by cases h; exact Nat.le_refl _), fun b hb _ => hgetO b hb, fun b cs1 ty1 h => ⟨cs1, (hgetO b (lt_of_get h)).trans h, rfl⟩⟩
  have hcell : ∀ k, (w.drew.alloc (.cells ((olds ++ news).toArray ++ Builtin.zeroCells z.cells (grownCap w (n + m) cap e - (n + m))) e)).cell? ((⟨w.heap.size, 0, none⟩ : Addr).add k) = ((olds ++ news).toArray ++ Builtin.zeroCells z.cells (grownCap w (n + m) cap e - (n + m)))[k]? := fun k => by
   unfold World.cell?
   rw [add_block]
   simp only [hget0]
   unfold Addr.add
   split
   ·rename_i hm; subst hm; rfl
   ·simp
  generalize hzc : Builtin.zeroCells z.cells (grownCap w (n + m) cap e - (n + m)) = zc at *
  have hnl : news.length = m * te.size := hsrc.newsLen
  have hidx : ∀ (k : Nat) u, (olds ++ news)[k]? = some u → ((olds ++ news).toArray ++ zc)[k]? = some u := fun k u hk => by
   have hlt : k < (olds ++ news).length := (List.getElem?_eq_some_iff.1 hk).1
   rw [Array.getElem?_append_left (by simpa using hlt), List.getElem?_toArray]
   exact hk
  refine ⟨_, _, E.app r rx lo n nid ⟨w.heap.size, 0, none⟩ (n + m) (some w.heap.size), hrun, ext_app (xs := ys ++ zs) hAO hlen hwid (fun h => ?_) (fun i j x c hi hx hc => ?_) (fun i j x c hx hc => ?_) hus hks hnid, ?_⟩
  ·exact ⟨rfl, rfl, _, _, hget0, by rw [hzcells]; simp only [Nat.zero_add]; omega⟩
  ·obtain ⟨u, s, hs', hu, hr⟩ := hoget i j x c hi (hyget i x hi hx) hc
   refine ⟨u, s, hs', ?_, hr⟩
   rw [hcell]
   refine hidx _ _ ?_
   rw [List.getElem?_append_left (List.getElem?_eq_some_iff.1 hu).1]
   exact hu
  ·obtain ⟨u, hu, hr⟩ := hznew i j x c (hzget i x hx) hc
   refine ⟨u, ?_, mkx (x := x) hr⟩
   rw [hcell]
   refine hidx _ _ ?_
   rw [List.getElem?_append_right (by rw [hol, Nat.add_mul]; omega), hol, show (n + i) * te.size + j - n * te.size = i * te.size + j by rw [Nat.add_mul]; omega]
   exact hu
  ·refine mkref (cap' := grownCap w (n + m) cap e) (.inl rfl) hgc fun _ => ?_
   have hadr' : (E.app r rx lo n nid ⟨w.heap.size, 0, none⟩ (n + m) (some w.heap.size)).adr nid = ⟨w.heap.size, 0, none⟩ := by simp [Env.app]
   have hst' : (E.app r rx lo n nid ⟨w.heap.size, 0, none⟩ (n + m) (some w.heap.size)).st nid = .own := by simp [Env.app]
   unfold Shp
   rw [hadr', hst', if_pos rfl]
   refine ⟨rfl, by simp [Env.app], _, _, hget0, ?_⟩
   rw [hzcells]
   have hzs : z.cells.size = te.size := hzsz
   rw [hzs, ← Nat.add_mul]
   simp only [Nat.zero_add]
   refine Nat.mul_le_mul_right _ ?_
   omega

end
end Go.Proofs.YtogomlkoocbhcaaDoor.Ab

namespace Go.Proofs.YtogomlkoocbhcaaDoor.Ab

theorem AllP_app : ∀ {ps qs : List Prop}, AllP ps → AllP qs → AllP (ps ++ qs)
 | [], _, _, h => h
 | _ :: _, _, h, h' => ⟨h.1, AllP_app h.2 h'⟩

theorem AllP_append {ps qs : List Prop} (h : AllP (ps ++ qs)) : AllP ps ∧ AllP qs := by
 induction ps with
 | nil => exact ⟨trivial, h⟩
 | cons p ps ih => exact ⟨⟨h.1, (ih h.2).1⟩, (ih h.2).2⟩

section
variable {X : Ctx} {o : Oper} {E E' : Env} {w w' : World} {a : Act} {ρ : Operand → Option D} {g : Nat → Option Root} {nid : Nat}

theorem srcOf_ok (H : Hyp X E w a ρ g nid) {te : TI} {k' : TK} {dx : D} {keep : Bool} {zs : List D} {m : Nat} {ps : List Prop} {rx : Option Nat} {tx : Nat} {y : Operand} (h : srcOf te k' dx g keep = some (zs, m, ps, rx)) (hk : kindOf X.P tx = some k') (hy : ρ y = some dx) (hp : AllP ps) :
  SrcD X.P E w rx tx te.size zs m (a.eval y) ∧ ∀ s, rx = some s → ∃ R, g s = some R ∧ R.fz = false := by
 have hr := H.op _ _ hy
 unfold srcOf at h
 split at h
 ·-- nil
  simp only [Option.some.injEq, Prod.mk.injEq] at h
  obtain ⟨rfl, rfl, rfl, rfl⟩ := h
  rw [hr.nil_inv]
  exact ⟨slice_src (kind_slice hk) rfl (by simp) (fun h => by omega), by simp⟩
 ·split at h
  ·rename_i hw
   simp only [Option.some.injEq, Prod.mk.injEq] at h
   obtain ⟨rfl, rfl, rfl, rfl⟩ := h
   have hw := Nat.eq_of_beq_eq_true hw
   obtain ⟨A, cap, us, hv, hlen, hcap, hwd, ha, hrr⟩ := hr.list_inv (.inl rfl)
   rw [hv]
   refine ⟨slice_src (kind_slice hk) hlen (by rw [← hw]; exact hwd) (fun h0 => ?_), by simp⟩
   obtain ⟨b, rfl, _, _, hc⟩ := ha h0
   refine ⟨b, rfl, fun i j x c hx hj => ⟨us i j, by rw [← hw]; exact hc i j x c hx hj, (hrr i j x c hx hj).one (.inl rfl), .inr ⟨?_, (hrr i j x c hx hj).lift (.inl rfl)⟩⟩⟩
   exact hp.1 x (List.mem_of_getElem? hx) c (List.mem_of_getElem? hj)
  ·cases h
 ·split at h
  ·rename_i e0 rx0 w0 _ R hg
   obtain ⟨hg', hRw⟩ := gw_some hg
   split at h
   ·cases h
   ·rename_i hbw
    simp only [Bool.or_eq_true, Bool.not_eq_true', not_or, Bool.not_eq_true, Bool.not_eq_false] at hbw
    obtain ⟨hbox, hw⟩ := hbw
    have hw := Nat.eq_of_beq_eq_true hw
    have hR := H.rt _ _ hg'
    obtain ⟨_, hst, hal⟩ := hr.ref_inv
    obtain ⟨A, cap, hv, hcap, hlen, ha⟩ := hal hR.alive
    rw [vw_eq hR none] at hv hcap hlen ha
    simp only [vlo, vln, Nat.zero_mul, Nat.zero_add] at hv hcap hlen ha
    have hadd : ∀ b : Addr, b.add 0 = b := fun b => by simp [Addr.add]
    rw [hadd] at ha
    split at h
    ·simp only [Option.some.injEq, Prod.mk.injEq] at h
     obtain ⟨rfl, rfl, rfl, rfl⟩ := h
     rw [hv]
     refine ⟨slice_src (kind_slice hk) hR.n (by rw [← hRw]; exact hR.wd) (fun h0 => ⟨_, (ha (by omega)).1, fun i j x c hx hj => ?_⟩), by simp⟩
     obtain ⟨u, hu, hrr⟩ := hR.cell i j x c hx hj
     have hpl := hp.1 x (List.mem_of_getElem? hx) c (List.mem_of_getElem? hj)
     refine ⟨u, by rw [← hRw]; exact hu, hrr.one ?_, .inr ⟨hpl, hrr.lift (.inr ?_)⟩⟩
     ·unfold Root.md
      split
      ·exact .inl rfl
      ·rw [hbox]; exact .inr ⟨_, _, rfl⟩
     ·unfold D.plain at hpl
      split at hpl <;> first | rfl | cases hpl
    ·split at h
     ·cases h
     ·rename_i hfz
      have hfz : R.fz = false := by simpa using hfz
      simp only [Option.some.injEq, Prod.mk.injEq] at h
      obtain ⟨rfl, rfl, rfl, rfl⟩ := h
      rw [hv]
      refine ⟨slice_src (kind_slice hk) hR.n (by rw [← hRw]; exact hR.wd) (fun h0 => ⟨_, (ha (by omega)).1, fun i j x c hx hj => ?_⟩), fun s hs => by cases hs; exact ⟨R, hg', hfz⟩⟩
      obtain ⟨u, hu, hrr⟩ := hR.cell i j x c hx hj
      have hrr' : Rep E w (.own rx0 [(i, j)]) c u := by simpa [Root.md, hfz, hbox] using hrr
      exact ⟨u, by rw [← hRw]; exact hu, hrr'.one (.inr ⟨_, _, rfl⟩), .inl ⟨_, rfl, hrr'⟩⟩
  ·cases h
 ·split at h
  ·rename_i lo n _ R hg
   obtain ⟨hg', hRw⟩ := gw_some hg
   split at h
   ·cases h
   ·rename_i hbw
    simp only [Bool.or_eq_true, Bool.not_eq_true', not_or, Bool.not_eq_true, Bool.not_eq_false] at hbw
    obtain ⟨⟨hbox, hw⟩, _⟩ := hbw
    have hw := Nat.eq_of_beq_eq_true hw
    have hR := H.rt _ _ hg'
    obtain ⟨_, hst, hal⟩ := hr.ref_inv
    obtain ⟨A, cap, hv, hcap, hlen, ha⟩ := hal hR.alive
    simp only [Vw] at hv hcap hlen ha
    simp only [Option.some.injEq, Prod.mk.injEq] at h
    obtain ⟨rfl, rfl, rfl, rfl⟩ := h
    rw [hv]
    refine ⟨slice_src (kind_slice hk) (by simp [hR.n]; have := hR.len; omega) (fun x hx => by rw [← hRw]; exact hR.wd x (List.mem_of_mem_drop (List.mem_of_mem_take hx))) (fun h0 => ⟨_, (ha (by omega)).1, fun i j x c hx hj => ?_⟩), by simp⟩
    have hx' := (take_drop_get hx).1
    obtain ⟨u, hu, hrr⟩ := hR.cell _ j x c hx' hj
    have hpl := hp.1 x (List.mem_of_getElem? hx') c (List.mem_of_getElem? hj)
    refine ⟨u, ?_, hrr.one ?_, .inr ⟨hpl, hrr.lift (.inr ?_)⟩⟩
    ·rw [add_add, hw, ← hRw, show _ * R.w + (i * R.w + j) = (_ + i) * R.w + j by rw [Nat.add_mul]; exact (Nat.add_assoc _ _ _).symm]
     exact hu
    ·unfold Root.md
     split
     ·exact .inl rfl
     ·rw [hbox]; exact .inr ⟨_, _, rfl⟩
    ·unfold D.plain at hpl
     split at hpl <;> first | rfl | cases hpl
  ·cases h
 ·split at h
  ·split at h
   ·rename_i hs1
    simp only [Option.some.injEq, Prod.mk.injEq] at h
    obtain ⟨rfl, rfl, rfl, rfl⟩ := h
    rw [hr.str_inv, Nat.eq_of_beq_eq_true hs1]
    exact ⟨str_src (kind_str hk), by simp⟩
   ·cases h
  ·cases h
 ·cases h

theorem dstOf_ok (H : Hyp X E w a ρ g nid) {te : TI} {ds : D} {ys : List D} {n : Nat} {r : Option Nat} {y : Operand} (h : dstOf te ds g = some (ys, n, r)) (hy : ρ y = some ds) :
  ∃ lo A cap, DstD E w r lo n te.size ys A cap ∧ a.eval y = .slice A n cap ∧ ∀ s, r = some s → ∃ R, g s = some R := by
 have hr := H.op _ _ hy
 unfold dstOf at h
 split at h
 ·simp only [Option.some.injEq, Prod.mk.injEq] at h
  obtain ⟨rfl, rfl, rfl⟩ := h
  exact ⟨0, none, 0, .inl ⟨rfl, rfl, rfl, rfl, rfl⟩, hr.nil_inv, by simp⟩
 ·split at h
  ·rename_i R hg
   obtain ⟨hg', hRw⟩ := gw_some hg
   split at h
   ·cases h
   ·rename_i hbw
    simp only [Bool.or_eq_true, Bool.not_eq_true', not_or, Bool.not_eq_true, Bool.not_eq_false] at hbw
    obtain ⟨⟨hfz, hbox⟩, hw⟩ := hbw
    have hw := Nat.eq_of_beq_eq_true hw
    subst hw
    have hR := H.rt _ _ hg'
    obtain ⟨_, hst, hal⟩ := hr.ref_inv
    obtain ⟨A, cap, hv, hcap, hlen, ha⟩ := hal hR.alive
    rw [vw_eq hR none] at hv hcap hlen ha
    simp only [vlo, vln] at hv hcap hlen ha
    simp only [Option.some.injEq, Prod.mk.injEq] at h
    obtain ⟨rfl, rfl, rfl⟩ := h
    exact ⟨0, A, cap, .inr ⟨_, R, rfl, hR, hfz, hbox, hRw, hcap, by omega, by rw [List.drop_zero, List.take_of_length_le (by rw [hR.n]; exact Nat.le_refl _)], ha⟩, hv, fun s hs => by cases hs; exact ⟨R, hg'⟩⟩
  ·cases h
 ·split at h
  ·rename_i lo n _ R hg
   obtain ⟨hg', hRw⟩ := gw_some hg
   split at h
   ·cases h
   ·rename_i hbw
    simp only [Bool.or_eq_true, Bool.not_eq_true', not_or, Bool.not_eq_true, Bool.not_eq_false] at hbw
    obtain ⟨⟨hfz, hbox⟩, hw⟩ := hbw
    have hw := Nat.eq_of_beq_eq_true hw
    subst hw
    have hR := H.rt _ _ hg'
    obtain ⟨_, hst, hal⟩ := hr.ref_inv
    obtain ⟨A, cap, hv, hcap, hlen, ha⟩ := hal hR.alive
    simp only [Vw] at hv hcap hlen ha
    simp only [Option.some.injEq, Prod.mk.injEq] at h
    obtain ⟨rfl, rfl, rfl⟩ := h
    exact ⟨_, A, cap, .inr ⟨_, R, rfl, hR, hfz, hbox, hRw, hcap, by have := hR.len; omega, rfl, ha⟩, hv, fun s hs => by cases hs; exact ⟨R, hg'⟩⟩
  ·cases h
 ·cases h

theorem does_append (H : Hyp X E w a ρ g nid) (hf : E.st nid = .fresh) {c : Call} {t t' e : Nat} {k' : TK} {x y : Operand} {te : TI} {ds dx : D} {h : Hint} {out : Out} (ho : o.op = .call c) (hc : c.callee = .builtin .append) (hts : c.argTypes.toList = [t, t']) (has : c.args.toList = [x, y])
  (ht : kAt X.T t = some (.slice e)) (ht' : kAt X.T t' = some k') (hte : look e X.T = some te) (hx : ρ x = some ds) (hy : ρ y = some dx) (hs : appD te k' ds dx g nid h = some out) (hp : AllP out.ps) : Does X o E w a out := by
 unfold appD at hs
 split at hs
 ·cases hs
 ·rename_i hchk
  simp only [Bool.not_eq_true', Bool.not_eq_false, Bool.and_eq_true] at hchk
  obtain ⟨⟨⟨_, hz⟩, h0⟩, hb⟩ := hchk
  have hz := Nat.eq_of_beq_eq_true hz
  have h0' : 0 < te.size := by simp [Nat.blt] at h0; omega
  have hb' : 0 < te.bytes := by simp [Nat.blt] at hb; omega
  obtain ⟨inf, z, hT⟩ := tyOK H.T hte
  split at hs
  ·rename_i zs m ps rx ys n r hsrc hdst
   split at hs
   ·cases hs
   ·rename_i hso
    cases hs
    simp only at hp
    obtain ⟨hp1, hp2⟩ := AllP_append hp
    simp only [AllP, and_true] at hp2
    obtain ⟨e1, e2, e3⟩ := hp2
    obtain ⟨hS, hSg⟩ := srcOf_ok H hsrc (kAt_ok H ht') hy hp1
    obtain ⟨lo, A, cap, hD, hv, hDg⟩ := dstOf_ok H hdst hx
    have hzsz : z.cells.size = te.size := by
     have := (ofVal_cells (E := E) (w := w) z).1
     rw [← hT.zeroD, hz] at this
     exact this.symm
    have hne : ∀ s, r = some s → rx ≠ some s := fun s h1 h2 => by
     subst h1 h2
     simp [sameO] at hso
    intro K Q k
    have hnr : ∀ s, r = some s → s ≠ nid := fun s hs' e => by
     obtain ⟨R, hR⟩ := hDg s hs'
     have := H.lt _ _ hR
     omega
    obtain ⟨v', w', E', hrun, hE, hrep⟩ := append_core (ty := o.type) (us := dead rx ++ (dead r ++ [(nid, some ⟨false, false, te.size, h.n, h.xs⟩)])) hT hzsz (kind_slice (kAt_ok H ht)) hD hv hS hne
     (fun s hs' => by
      obtain ⟨R, hR, hfz⟩ := hSg s hs'
      have := (H.rt _ _ hR).st
      rw [hfz] at this
      exact this) hf h0' hb' e2
     (fun s R hmem => by
      rw [e1, ← e3] at hmem
      simp only [List.mem_append, List.mem_cons, List.not_mem_nil, or_false, Prod.mk.injEq, Option.some.injEq] at hmem
      rcases hmem with hmem | hmem | hmem
      ·cases rx <;> simp [dead] at hmem
      ·cases r <;> simp [dead] at hmem
      ·exact hmem)
     (fun s hs' => by
      rcases hs' with rfl | rfl
      ·exact ⟨(s, none), by simp [dead], rfl⟩
      ·exact ⟨(s, none), by simp [dead], rfl⟩) ⟨(nid, _), List.mem_append_right _ (List.mem_append_right _ (List.mem_singleton.2 rfl)), rfl⟩
    have hts' : c.argTypes = #[t, t'] := by rw [← Array.toArray_toList (xs := c.argTypes), hts]
    have has' : c.args = #[x, y] := by rw [← Array.toArray_toList (xs := c.args), has]
    refine wp_val (v := v') (run_builtin ho hc ?_) (k E' w' v' hE hrep)
    simp only [builtin, hts', has', Sem.run_bind]
    simp [hrun]
  ·cases hs

end
end Go.Proofs.YtogomlkoocbhcaaDoor.Ab

namespace Go.Proofs.YtogomlkoocbhcaaDoor.Ab

section
variable {X : Ctx} {o : Oper} {E E' Ec : Env} {w w' : World} {a : Act} {ρ : Operand → Option D} {g : Nat → Option Root} {nid : Nat}

theorem erL_map : ∀ xs : List D, erL xs = xs.map D.er
 | [] => rfl
 | x :: r => by simp [erL, erL_map r]

theorem er_get {xs ys : List D} (h : erL xs = erL ys) {i : Nat} {y : D} (hy : ys[i]? = some y) : ∃ x, xs[i]? = some x ∧ x.er = y.er := by
 rw [erL_map, erL_map] at h
 have h1 : (ys.map D.er)[i]? = some y.er := by rw [List.getElem?_map, hy]; rfl
 rw [← h, List.getElem?_map, Option.map_eq_some_iff] at h1
 exact h1

theorem er_len {xs ys : List D} (h : erL xs = erL ys) : xs.length = ys.length := by
 rw [erL_map, erL_map] at h
 have := congrArg List.length h
 simpa using this

theorem er_cells {x y : D} (h : x.er = y.er) : erL x.cells = erL y.cells := by
 cases x <;> cases y <;> simp [D.er] at h <;> simp [D.cells, erL, D.er, h]

theorem er_widths {xs ys : List D} (h : erL xs = erL ys) {wd : Nat} (hw : ∀ x ∈ xs, x.cells.length = wd) : ∀ y ∈ ys, y.cells.length = wd := fun y hy => by
 obtain ⟨i, hi⟩ := List.getElem?_of_mem hy
 obtain ⟨x, hx, he⟩ := er_get h hi
 rw [← er_len (er_cells he)]
 exact hw x (List.mem_of_getElem? hx)

theorem Rep.er {m : Md} {d : D} {v : Value} (h : Rep E w m d v) : m = .fz → ∀ d', d.er = d'.er → Rep E w .fz d' v := by
 induction h with
 | int m k n => intro hm d' hd; cases d' <;> simp [D.er] at hd; obtain ⟨rfl, rfl⟩ := hd; exact .int _ _ _
 | bool m b => intro hm d' hd; cases d' <;> simp [D.er] at hd; subst hd; exact .bool _ _
 | ifc m b v hv => intro hm d' hd; cases d' <;> simp [D.er] at hd; subst hd; exact .ifc _ _ _ hv
 | str m s => intro hm d' hd; cases d' <;> simp [D.er] at hd; subst hd; exact .str _ _
 | nil m => intro hm d' hd; cases d' <;> simp [D.er] at hd; exact .nil _
 | undef m v h => intro hm; subst hm; rcases h with h | ⟨_, _, h⟩ <;> cases h
 | hid m v _ _ h => intro hm; subst hm; rcases h with h | ⟨_, _, h⟩ <;> cases h
 | anyb b => intro hm; cases hm
 | fn f caps vs hl h ih => intro hm; cases hm
 | agg cs vs hl h ih => intro hm; cases hm
 | tup cs vs hl h ih => intro hm; cases hm
 | flist m o wd n xs A cap us hm' hn hc hw ha h ih =>
  intro hm d' hd
  cases d' <;> simp [D.er] at hd
  rename_i o' wd' n' xs'
  obtain ⟨rfl, rfl, he⟩ := hd
  have key : ∀ (i j : Nat) y c, xs'[i]? = some y → y.cells[j]? = some c → ∃ x c0, xs[i]? = some x ∧ x.cells[j]? = some c0 ∧ c0.er = c.er := fun i j y c hy hc' => by
   obtain ⟨x, hx, hxe⟩ := er_get he hy
   obtain ⟨c0, hc0, hce⟩ := er_get (er_cells hxe) hc'
   exact ⟨x, c0, hx, hc0, hce⟩
  refine .flist _ _ _ _ _ _ _ us (.inr (.inl rfl)) (by rw [← er_len he]; exact hn) hc (er_widths he hw) (fun h0 => ?_) (fun i j y c hy hc' => ?_)
  ·obtain ⟨b, hb, h1, h2, h3⟩ := ha h0
   refine ⟨b, hb, h1, h2, fun i j y c hy hc' => ?_⟩
   obtain ⟨x, c0, hx, hc0, _⟩ := key i j y c hy hc'
   exact h3 i j x c0 hx hc0
  ·obtain ⟨x, c0, hx, hc0, hce⟩ := key i j y c hy hc'
   exact ih i j x c0 hx hc0 rfl c hce
 | olist m r p wd n xs A cap us hm' hn hc hw ha h ih => intro hm; subst hm; rcases hm' with h | h <;> cases h
 | ref m r wd vw v hm' hs h => intro hm; subst hm; rcases hm' with h | ⟨_, _, h⟩ <;> cases h
 | ptr m r wd i j v hm' hs h => intro hm; subst hm; rcases hm' with h | ⟨_, _, h⟩ <;> cases h
 | fptr m wd xs i j a us hm' hw ha h ih => intro hm; subst hm; rcases hm' with h | ⟨_, _, h⟩ <;> cases h

theorem idx_some {r : Nat} : ∀ {ins : List Nat} {b k : Nat}, idx r b ins = some k → ∃ i, k = b + i ∧ ins[i]? = some r
 | [], b, k, h => by simp [idx] at h
 | x :: xs, b, k, h => by
  simp only [idx] at h
  split at h
  ·rename_i hx
   cases h
   exact ⟨0, rfl, by rw [Nat.eq_of_beq_eq_true hx]; rfl⟩
  ·obtain ⟨i, rfl, hi⟩ := idx_some h
   exact ⟨i + 1, by omega, by simpa using hi⟩

theorem distinct_any {x : Nat} {r : List Nat} (h : r.any (Nat.beq x) = false) : x ∉ r := fun hm => by
 have := List.any_eq_false.1 h x hm
 simp [Nat.beq_refl] at this

theorem idx_of {r : Nat} : ∀ {ins : List Nat} {b i : Nat}, distinct ins = true → ins[i]? = some r → idx r b ins = some (b + i)
 | [], b, i, _, h => by simp at h
 | x :: xs, b, i, hd, h => by
  simp only [distinct, Bool.and_eq_true, Bool.not_eq_true'] at hd
  obtain ⟨h1, h2⟩ := hd
  simp only [idx]
  cases i with
  | zero =>
   simp only [List.getElem?_cons_zero, Option.some.injEq] at h
   subst h
   rw [if_pos (Nat.beq_refl x)]
   rfl
  | succ i =>
   have h' : xs[i]? = some r := by simpa using h
   have hne : ¬ Nat.beq x r = true := fun e => by
    have := Nat.eq_of_beq_eq_true e
    subst this
    exact distinct_any h1 (List.mem_of_getElem? h')
   rw [if_neg hne, idx_of h2 h']
   congr 1
   omega

theorem idx_none {r : Nat} : ∀ {ins : List Nat} {b : Nat}, ins.any (Nat.beq r) = false → idx r b ins = none
 | [], b, _ => rfl
 | x :: xs, b, h => by
  simp only [List.any_cons, Bool.or_eq_false_iff] at h
  simp only [idx]
  have hne : ¬ Nat.beq x r = true := fun e => by
   have := Nat.eq_of_beq_eq_true e
   subst this
   simp [Nat.beq_refl] at h
  rw [if_neg hne]
  exact idx_none h.2

def Env.sub (E : Env) (cl : Bool) (ins : List Nat) : Env :=
 {adr := fun k => match ins[k]? with | some r => E.adr r | none => ⟨0, 0, none⟩
  len := fun k => match ins[k]? with | some r => E.len r | none => 0
  ow := fun b => match E.ow b with
   | .own r p => (match idx r 0 ins with | some k => .own k p | none => if cl then .far else .fz)
   | x => x
  st := fun k => match ins[k]? with | some _ => .own | none => .fresh }

theorem Rep.seen {cl : Bool} {ins : List Nat} {m : Md} {d : D} {v : Value} (h : Rep E w m d v) : (m = .fz ∨ ∃ r p, m = .own r p ∧ idx r 0 ins = none ∧ cl = false) → Rep (E.sub cl ins) w .fz d v := by
 induction h with
 | int m k n => intro _; exact .int _ _ _
 | bool m b => intro _; exact .bool _ _
 | ifc m b v hv => intro _; exact .ifc _ _ _ hv
 | str m s => intro _; exact .str _ _
 | nil m => intro _; exact .nil _
 | undef m v h => intro hm; rcases hm with rfl | ⟨_, _, rfl, _⟩ <;> rcases h with h | ⟨_, _, h⟩ <;> cases h
 | hid m v _ _ h => intro hm; rcases hm with rfl | ⟨_, _, rfl, _⟩ <;> rcases h with h | ⟨_, _, h⟩ <;> cases h
 | anyb b => intro hm; rcases hm with hm | ⟨_, _, hm, _⟩ <;> cases hm
 | fn f caps vs hl h ih => intro hm; rcases hm with hm | ⟨_, _, hm, _⟩ <;> cases hm
 | agg cs vs hl h ih => intro hm; rcases hm with hm | ⟨_, _, hm, _⟩ <;> cases hm
 | tup cs vs hl h ih => intro hm; rcases hm with hm | ⟨_, _, hm, _⟩ <;> cases hm
 | flist m o wd n xs A cap us hm' hn hc hw ha h ih =>
  intro _
  refine .flist _ _ _ _ _ _ _ us (.inr (.inl rfl)) hn hc hw (fun h0 => ?_) (fun i j x c hx hj => ih i j x c hx hj (.inl rfl))
  obtain ⟨b, hb, h1, h2, h3⟩ := ha h0
  exact ⟨b, hb, by simp [Env.sub, h1], h2, h3⟩
 | olist m r p wd n xs A cap us hm' hn hc hw ha h ih =>
  intro hm
  have hr : idx r 0 ins = none ∧ cl = false := by
   rcases hm with rfl | ⟨r', p', rfl, hi⟩
   ·rcases hm' with h | h <;> cases h
   ·rcases hm' with h | h <;> cases h
    exact hi
  refine .flist _ _ _ _ _ _ _ us (.inr (.inl rfl)) hn hc hw (fun h0 => ?_) (fun i j x c hx hj => ih i j x c hx hj (.inr ⟨r, _, rfl, hr.1, hr.2⟩))
  obtain ⟨b, cs, ty, hb, h1, h2, h3, h4, h5⟩ := ha (by omega)
  exact ⟨b, hb, by simp [Env.sub, h2, hr.1, hr.2], lt_of_get h3, h5⟩
 | ref m r wd vw v h' hs h => intro hm; rcases hm with rfl | ⟨_, _, rfl, _⟩ <;> rcases h' with h | ⟨_, _, h⟩ <;> cases h
 | ptr m r wd i j v h' hs h => intro hm; rcases hm with rfl | ⟨_, _, rfl, _⟩ <;> rcases h' with h | ⟨_, _, h⟩ <;> cases h
 | fptr m wd xs i j a us h' hw ha h ih => intro hm; rcases hm with rfl | ⟨_, _, rfl, _⟩ <;> rcases h' with h | ⟨_, _, h⟩ <;> cases h

theorem RootRel.seen_ow {cl : Bool} {ins : List Nat} {r : Nat} {R : Root} (h : RootRel E w r R) (hv : R.fz = true ∨ cl = false) (hi : idx r 0 ins = none) (h0 : 0 < R.n) : (E.sub cl ins).ow (E.adr r).block = .fz := by
 have h1 := (h.shp h0).2.1
 rw [h.st] at h1
 cases hf : R.fz with
 | true => simp [hf] at h1; simp [Env.sub, h1]
 | false =>
  simp [hf] at h1
  have hc : cl = false := hv.resolve_left (by simp [hf])
  simp [Env.sub, h1, hi, hc]

theorem RootRel.seen {cl : Bool} {ins : List Nat} {r : Nat} {R : Root} (h : RootRel E w r R) (hv : R.fz = true ∨ cl = false) (hbox : R.box = false) (hi : idx r 0 ins = none) {lo n cap : Nat} {A : Option Addr} (hn : lo + n ≤ R.n) (hc : n ≤ cap) (hA : 0 < cap → A = some ((E.adr r).add (lo * R.w))) {xs : List D} (he : erL ((R.xs.drop lo).take n) = erL xs) :
  Rep (E.sub cl ins) w .slot (.list false R.w n xs) (.slice A n cap) := by
 have hlen : ((R.xs.drop lo).take n).length = n := by simp [h.n]; omega
 have h0 : ∃ us : Nat → Nat → Value, ∀ (i j : Nat) x c, ((R.xs.drop lo).take n)[i]? = some x → x.cells[j]? = some c → w.cell? ((E.adr r).add ((lo + i) * R.w + j)) = some (us i j) ∧ Rep E w (R.md r (lo + i) j) c (us i j) := by
  refine ⟨fun i j => (w.cell? ((E.adr r).add ((lo + i) * R.w + j))).getD undef, fun i j x c hx hj => ?_⟩
  obtain ⟨u, hu, hr⟩ := h.cell (lo + i) j x c (take_drop_get hx).1 hj
  refine ⟨by simp [hu], ?_⟩
  simp only [hu, Option.getD_some]
  exact hr
 obtain ⟨us, hus⟩ := h0
 have hsl : Rep (E.sub cl ins) w .fz (.list false R.w n ((R.xs.drop lo).take n)) (.slice A n cap) := by
  refine .flist _ _ _ _ _ _ _ us (.inr (.inl rfl)) hlen hc (fun x hx => h.wd x (List.mem_of_mem_drop (List.mem_of_mem_take hx))) (fun h0 => ?_) (fun i j x c hx hj => (hus i j x c hx hj).2.seen ?_)
  ·refine ⟨_, hA (by omega), ?_, ?_, fun i j x c hx hj => ?_⟩
   ·rw [add_block]
    exact h.seen_ow hv hi (by omega)
   ·rw [add_block]
    obtain ⟨_, _, cs, ty, hh, _⟩ := h.shp (by omega)
    exact lt_of_get hh
   ·rw [add_add, show lo * R.w + (i * R.w + j) = (lo + i) * R.w + j by rw [Nat.add_mul]; omega]
    exact (hus i j x c hx hj).1
  ·unfold Root.md
   split
   ·exact .inl rfl
   ·rename_i hfz
    rw [hbox]
    exact .inr ⟨r, _, rfl, hi, hv.resolve_left hfz⟩
 exact (hsl.er rfl (.list false R.w n xs) (by simp [D.er, he])).lift (.inl rfl)

end
end Go.Proofs.YtogomlkoocbhcaaDoor.Ab

namespace Go.Proofs.YtogomlkoocbhcaaDoor.Ab

section
variable {E : Env} {w : World} {g : Nat → Option Root} {cl : Bool} {ins : List Nat}

theorem Rep.fzc {d : D} {v : Value} (h : Rep E w .slot d v) (hd : d.fzc = true) : Rep E w .fz d v := by
 cases h with
 | int m k n => exact .int _ _ _
 | bool m b => exact .bool _ _
 | ifc m b v hv => exact .ifc _ _ _ hv
 | str m s => exact .str _ _
 | nil m => exact .nil _
 | flist m o wd n xs A cap us hm hn hc hw ha h => exact .flist _ _ _ _ _ _ _ us (.inr (.inl rfl)) hn hc hw ha h
 | olist m r p wd n xs A cap us hm hn hc hw ha h => rcases hm with h | h <;> cases h
 | _ => simp [D.fzc] at hd

theorem sub_at (cl : Bool) {k r : Nat} (h : ins[k]? = some r) : (E.sub cl ins).adr k = E.adr r ∧ (E.sub cl ins).len k = E.len r ∧ (E.sub cl ins).st k = .own := by
 simp [Env.sub, h]

theorem sub_shp (hd : distinct ins = true) {k r : Nat} (h : ins[k]? = some r) (hst : E.st r = .own) {N : Nat} (hs : Shp E w r N) : Shp (E.sub cl ins) w k N := by
 obtain ⟨h1, h2, h3⟩ := sub_at (E := E) cl h
 obtain ⟨s1, s2, cs, ty, s3, s4⟩ := hs
 unfold Shp
 rw [h1, h3, if_pos rfl]
 rw [hst, if_pos rfl] at s2
 refine ⟨s1, ?_, cs, ty, s3, s4⟩
 simp only [Env.sub, s2, idx_of hd h]
 simp

theorem Rep.lent {m : Md} {d : D} {v : Value} (h : Rep E w m d v) (hd : distinct ins = true) {k r : Nat} (hk : ins[k]? = some r) : ∀ {m' : Md}, (m = .fz ∧ m' = .fz) ∨ (∃ p, m = .own r p ∧ m' = .own k p) ∨ (∃ p, m = .box r p ∧ m' = .box k p ∧ d.fzc = true) → Rep (E.sub cl ins) w m' d v := by
 induction h with
 | int m k n => intro m' _; exact .int _ _ _
 | bool m b => intro m' _; exact .bool _ _
 | ifc m b v hv => intro m' _; exact .ifc _ _ _ hv
 | str m s => intro m' _; exact .str _ _
 | nil m => intro m' _; exact .nil _
 | undef m v h =>
  intro m' hm
  rcases hm with ⟨rfl, _⟩ | ⟨_, rfl, _⟩ | ⟨_, _, _, hf⟩
  ·rcases h with h | ⟨_, _, h⟩ <;> cases h
  ·rcases h with h | ⟨_, _, h⟩ <;> cases h
  ·simp [D.fzc] at hf
 | hid m v _ _ h =>
  intro m' hm
  rcases hm with ⟨rfl, _⟩ | ⟨_, rfl, _⟩ | ⟨_, _, _, hf⟩
  ·rcases h with h | ⟨_, _, h⟩ <;> cases h
  ·rcases h with h | ⟨_, _, h⟩ <;> cases h
  ·simp [D.fzc] at hf
 | anyb b => intro m' hm; rcases hm with ⟨hm, _⟩ | ⟨_, hm, _⟩ | ⟨_, hm, _⟩ <;> cases hm
 | fn f caps vs hl h ih => intro m' hm; rcases hm with ⟨hm, _⟩ | ⟨_, hm, _⟩ | ⟨_, hm, _⟩ <;> cases hm
 | agg cs vs hl h ih => intro m' hm; rcases hm with ⟨hm, _⟩ | ⟨_, hm, _⟩ | ⟨_, hm, _⟩ <;> cases hm
 | tup cs vs hl h ih => intro m' hm; rcases hm with ⟨hm, _⟩ | ⟨_, hm, _⟩ | ⟨_, hm, _⟩ <;> cases hm
 | flist m o wd n xs A cap us hm' hn hc hw ha h ih =>
  intro m' hm
  refine .flist _ _ _ _ _ _ _ us ?_ hn hc hw (fun h0 => ?_) (fun i j x c hx hj => ih i j x c hx hj (.inl ⟨rfl, rfl⟩))
  ·rcases hm' with rfl | rfl | rfl
   ·rcases hm with ⟨hm, _⟩ | ⟨_, hm, _⟩ | ⟨_, hm, _⟩ <;> cases hm
   ·rcases hm with ⟨_, rfl⟩ | ⟨_, hm, _⟩ | ⟨_, hm, _⟩
    ·exact .inr (.inl rfl)
    ·cases hm
    ·cases hm
   ·exact .inr (.inr rfl)
  ·obtain ⟨b, hb, h1, h2, h3⟩ := ha h0
   exact ⟨b, hb, by simp [Env.sub, h1], h2, h3⟩
 | olist m r0 p wd n xs A cap us hm' hn hc hw ha h ih =>
  intro m' hm
  have key : r0 = r ∧ (m' = .own k p ∨ m' = .box k p) := by
   rcases hm with ⟨rfl, _⟩ | ⟨p0, rfl, rfl⟩ | ⟨p0, rfl, rfl, _⟩
   ·rcases hm' with h | h <;> cases h
   ·rcases hm' with h | h <;> cases h
    exact ⟨rfl, .inl rfl⟩
   ·rcases hm' with h | h <;> cases h
    exact ⟨rfl, .inr rfl⟩
  obtain ⟨rfl, hm2⟩ := key
  refine .olist _ k p _ _ _ _ _ us hm2 hn hc hw (fun h0 => ?_) (fun i j x c hx hj => ih i j x c hx hj (.inr (.inl ⟨_, rfl, rfl⟩)))
  obtain ⟨a, cs, ty, rfl, hsp, ho, hh, hz, hcell⟩ := ha h0
  exact ⟨a, cs, ty, rfl, hsp, by simp [Env.sub, ho, idx_of hd hk], hh, hz, hcell⟩
 | ref m r wd vw v h' hs h => intro m' hm; rcases hm with ⟨rfl, _⟩ | ⟨_, rfl, _⟩ | ⟨_, _, _, hf⟩ <;> first | (rcases h' with h | ⟨_, _, h⟩ <;> cases h; done) | simp [D.fzc] at hf
 | ptr m r wd i j v h' hs h => intro m' hm; rcases hm with ⟨rfl, _⟩ | ⟨_, rfl, _⟩ | ⟨_, _, _, hf⟩ <;> first | (rcases h' with h | ⟨_, _, h⟩ <;> cases h; done) | simp [D.fzc] at hf
 | fptr m wd xs i j a us h' hw ha h ih => intro m' hm; rcases hm with ⟨rfl, _⟩ | ⟨_, rfl, _⟩ | ⟨_, _, _, hf⟩ <;> first | (rcases h' with h | ⟨_, _, h⟩ <;> cases h; done) | simp [D.fzc] at hf

theorem fptr_seen {wd : Nat} {xs xs' : List D} {i j : Nat} {v : Value} (h : Rep E w .slot (.fptr wd xs i j) v) (he : erL xs = erL xs') : Rep (E.sub cl ins) w .slot (.fptr wd xs' i j) v := by
 cases h with
 | fptr m wd xs i j a us hm hw ha h =>
  obtain ⟨h1, h2, h3⟩ := ha
  refine .fptr _ _ _ _ _ _ us (.inl rfl) (er_widths he hw) ⟨by simp [Env.sub, h1], h2, fun i j y c hy hc => ?_⟩ (fun i j y c hy hc => ?_)
  ·obtain ⟨x, hx, hxe⟩ := er_get he hy
   obtain ⟨c0, hc0, _⟩ := er_get (er_cells hxe) hc
   exact h3 i j x c0 hx hc0
  ·obtain ⟨x, hx, hxe⟩ := er_get he hy
   obtain ⟨c0, hc0, hce⟩ := er_get (er_cells hxe) hc
   exact ((h i j x c0 hx hc0).seen (.inl rfl)).er rfl c hce

theorem list_seen {o : Bool} {wd n : Nat} {xs xs' : List D} {v : Value} (h : Rep E w .slot (.list o wd n xs) v) (he : erL xs = erL xs') : Rep (E.sub cl ins) w .slot (.list false wd n xs') v := by
 have h1 : Rep E w .fz (.list o wd n xs) v := h.fzc rfl
 exact ((h1.seen (.inl rfl)).er rfl (.list false wd n xs') (by simp [D.er, he])).lift (.inl rfl)

theorem ptr_seen {r : Nat} {R : Root} (h : RootRel E w r R) (hv : R.fz = true ∨ cl = false) (h0 : 0 < R.n) (hi : idx r 0 ins = none) {xs : List D} (hw : ∀ x ∈ xs, x.cells.length = R.w)
  (hx : ∀ (i j : Nat) y c, xs[i]? = some y → y.cells[j]? = some c → ∃ u, w.cell? ((E.adr r).add (i * R.w + j)) = some u ∧ Rep (E.sub cl ins) w .fz c u) (i j : Nat) :
  Rep (E.sub cl ins) w .slot (.fptr R.w xs i j) (.pointer (some ((E.adr r).add (i * R.w + j)))) := by
 have h1 : ∃ us : Nat → Nat → Value, ∀ (i j : Nat) x c, xs[i]? = some x → x.cells[j]? = some c → w.cell? ((E.adr r).add (i * R.w + j)) = some (us i j) ∧ Rep (E.sub cl ins) w .fz c (us i j) := by
  refine ⟨fun i j => (w.cell? ((E.adr r).add (i * R.w + j))).getD undef, fun i j x c hx' hj => ?_⟩
  obtain ⟨u, hu, hr⟩ := hx i j x c hx' hj
  refine ⟨by simp [hu], ?_⟩
  simp only [hu, Option.getD_some]
  exact hr
 obtain ⟨us, hus⟩ := h1
 obtain ⟨_, how, cs, ty, hh, _⟩ := h.shp h0
 exact .fptr _ _ _ _ _ _ us (.inl rfl) hw ⟨h.seen_ow hv hi h0, lt_of_get hh, fun i j x c hx' hj => (hus i j x c hx' hj).1⟩ (fun i j x c hx' hj => (hus i j x c hx' hj).2)

theorem arr_seen {r : Nat} {R : Root} (h : RootRel E w r R) (hv : R.fz = true ∨ cl = false) (hbox : R.box = false) (hi : idx r 0 ins = none) {xs : List D} (he : erL R.xs = erL xs) : ∀ (i j : Nat) y c, xs[i]? = some y → y.cells[j]? = some c →
  ∃ u, w.cell? ((E.adr r).add (i * R.w + j)) = some u ∧ Rep (E.sub cl ins) w .fz c u := fun i j y c hy hc => by
 obtain ⟨x, hx, hxe⟩ := er_get he hy
 obtain ⟨c0, hc0, hce⟩ := er_get (er_cells hxe) hc
 obtain ⟨u, hu, hr⟩ := h.cell i j x c0 hx hc0
 refine ⟨u, hu, (hr.seen ?_).er rfl c hce⟩
 unfold Root.md
 split
 ·exact .inl rfl
 ·rename_i hfz
  rw [hbox]
  exact .inr ⟨r, _, rfl, hi, hv.resolve_left hfz⟩

theorem lend_ok (hd : distinct ins = true) (hins : ∀ (k : Nat) r, ins[k]? = some r → E.st r = .own) (hg : ∀ r R, g r = some R → RootRel E w r R) : ∀ fuel : Nat,
  (∀ d d' ps v, lend cl g ins fuel d d' = some ps → AllP ps → Rep E w .slot d v → Rep (E.sub cl ins) w .slot d' v) ∧
  (∀ ds ds' ps, lendL cl g ins fuel ds ds' = some ps → AllP ps → ds.length = ds'.length ∧ ∀ (i : Nat) d d' v, ds[i]? = some d → ds'[i]? = some d' → Rep E w .slot d v → Rep (E.sub cl ins) w .slot d' v) := by
 intro fuel
 induction fuel with
 | zero =>
  refine ⟨fun d d' ps v h => by simp [lend] at h, fun ds ds' ps h hp => ?_⟩
  cases ds <;> cases ds' <;> simp [lendL] at h
  exact ⟨rfl, fun i d d' v h => by simp at h⟩
 | succ fuel ih =>
  obtain ⟨ih1, ih2⟩ := ih
  refine ⟨fun d d' ps v h hp hr => ?_, fun ds ds' ps h hp => ?_⟩
  ·have noidx : ∀ {r w1 w2 : Nat}, ¬ (ins.any (Nat.beq r) || !Nat.beq w1 w2) = true → idx r 0 ins = none ∧ w1 = w2 := fun hn => by
    simp only [Bool.or_eq_true, Bool.not_eq_true', not_or, Bool.not_eq_true, Bool.not_eq_false] at hn
    exact ⟨idx_none hn.1, Nat.eq_of_beq_eq_true hn.2⟩
   have see : ∀ {R : Root}, ¬ (cl && !R.fz) = true → R.fz = true ∨ cl = false := fun {R} hn => by
    cases hc : cl <;> cases hf : R.fz <;> simp [hc, hf] at hn ⊢
   unfold lend at h
   split at h
   ·-- a slice that is lent
    split at h
    ·rename_i r' hr'
     split at h
     ·rename_i hb
      simp only [Bool.and_eq_true] at hb
      cases h
      obtain ⟨rfl, _⟩ := hp
      have e1 := Nat.eq_of_beq_eq_true hb.1
      have e2 := Nat.eq_of_beq_eq_true hb.2
      subst e1 e2
      have hst := hins _ _ hr'
      obtain ⟨s1, s2, s3⟩ := sub_at (E := E) cl hr'
      obtain ⟨_, _, hal⟩ := hr.ref_inv
      obtain ⟨A, cap, rfl, hcap, hlen, hA⟩ := hal (.inl hst)
      have hV : ∀ vw, Vw (E.sub cl ins) _ vw = Vw E _ vw := fun vw => by cases vw with
       | none => exact congrArg (Prod.mk 0) s2
       | some x => rfl
      refine .ref _ _ _ _ _ (.inl rfl) (by rw [s3]; simp) fun _ => ⟨A, cap, by rw [hV], by rw [hV]; exact hcap, by rw [hV, s2]; exact hlen, fun h0 => ?_⟩
      rw [hV, s1]
      exact ⟨(hA h0).1, sub_shp hd hr' hst (hA h0).2⟩
     ·cases h
    ·cases h
   ·-- a pointer that is lent
    split at h
    ·rename_i r' hr'
     split at h
     ·rename_i hb
      simp only [Bool.and_eq_true] at hb
      cases h
      obtain ⟨rfl, rfl, _⟩ := hp
      have e1 := Nat.eq_of_beq_eq_true hb.1
      have e2 := Nat.eq_of_beq_eq_true hb.2
      subst e1 e2
      have hst := hins _ _ hr'
      obtain ⟨s1, s2, s3⟩ := sub_at (E := E) cl hr'
      obtain ⟨_, _, hal⟩ := hr.ptr_inv
      refine .ptr _ _ _ _ _ _ (.inl rfl) (by rw [s3]; simp) fun _ => ?_
      rw [s1]
      exact hal (.inl hst)
     ·cases h
    ·cases h
   ·split at h
    ·cases h
    ·rename_i hn
     obtain ⟨hi, rfl⟩ := noidx hn
     split at h
     ·rename_i R hgw
      obtain ⟨hg', hRw⟩ := gw_some hgw
      split at h
      ·cases h
      ·rename_i hbox
       simp only [Bool.or_eq_true, not_or] at hbox
       obtain ⟨hbox, hsee⟩ := hbox
       cases h
       obtain ⟨rfl, he, _⟩ := hp
       have hR := hg _ _ hg'
       obtain ⟨_, _, hal⟩ := hr.ref_inv
       obtain ⟨A, cap, rfl, hcap, hlen, hA⟩ := hal hR.alive
       rw [vw_eq hR none] at *
       simp only [vlo, vln] at *
       subst hRw
       refine hR.seen (lo := 0) (see hsee) (by simpa using hbox) hi (by omega) hcap (fun h0 => (hA h0).1) ?_
       rw [List.drop_zero, List.take_of_length_le (by rw [hR.n]; exact Nat.le_refl _)]
       exact he
     ·cases h
   ·split at h
    ·cases h
    ·rename_i hn
     obtain ⟨hi, rfl⟩ := noidx hn
     split at h
     ·rename_i R hgw
      obtain ⟨hg', hRw⟩ := gw_some hgw
      split at h
      ·cases h
      ·rename_i hbox
       simp only [Bool.or_eq_true, not_or] at hbox
       obtain ⟨hbox, hsee⟩ := hbox
       cases h
       obtain ⟨rfl, he, _⟩ := hp
       have hR := hg _ _ hg'
       obtain ⟨_, _, hal⟩ := hr.ref_inv
       obtain ⟨A, cap, rfl, hcap, hlen, hA⟩ := hal hR.alive
       simp only [Vw] at *
       subst hRw
       exact hR.seen (see hsee) (by simpa using hbox) hi (by rw [← hR.len]; exact hlen) hcap (fun h0 => (hA h0).1) he
     ·cases h
   ·split at h
    ·cases h
    ·rename_i hn
     obtain ⟨hi, rfl⟩ := noidx hn
     split at h
     ·rename_i R hgw
      obtain ⟨hg', hRw⟩ := gw_some hgw
      have hR := hg _ _ hg'
      have hv := hr.ptr_inv.2.2 hR.alive
      subst hv hRw
      split at h
      ·cases h
      rename_i hsee
      split at h
      ·rename_i hbox
       split at h
       ·rename_i cs cs' hxs
        split at h
        ·rename_i hfz
         simp only [Bool.and_eq_true] at hfz
         split at h
         ·rename_i qs hq
          cases h
          obtain ⟨hp1, hp2⟩ := AllP_append hp
          obtain ⟨rfl, rfl, _⟩ := hp1
          obtain ⟨hl, hcells⟩ := ih2 _ _ _ hq hp2
          have hn1 : R.n = 1 := by rw [← hR.n, hxs]; rfl
          have hwd : cs.length = R.w := hR.wd (.agg cs) (by rw [hxs]; exact List.mem_singleton.2 rfl)
          refine ptr_seen hR (see hsee) (by omega) hi (fun x hx => by simp only [List.mem_cons, List.not_mem_nil, or_false] at hx; subst hx; simp only [D.cells]; omega) (fun i j y c hy hc => ?_) _ _
          cases i with
          | succ i => simp at hy
          | zero =>
           simp only [List.getElem?_cons_zero, Option.some.injEq] at hy
           subst hy
           simp only [D.cells] at hc
           have hlt : j < cs.length := by rw [hl]; exact (List.getElem?_eq_some_iff.1 hc).1
           have hc0 : cs[j]? = some cs[j] := List.getElem?_eq_getElem hlt
           obtain ⟨u, hu, hr'⟩ := hR.cell 0 j (.agg cs) _ (by rw [hxs]; rfl) hc0
           exact ⟨u, hu, (hcells j _ c u hc0 hc (hr'.lift (.inr (List.all_eq_true.1 hfz.1 _ (List.mem_of_getElem? hc0))))).fzc (List.all_eq_true.1 hfz.2 _ (List.mem_of_getElem? hc))⟩
         ·cases h
        ·cases h
       ·cases h
      ·rename_i hbox
       cases h
       obtain ⟨h0, he, rfl, rfl, _⟩ := hp
       exact ptr_seen hR (see hsee) h0 hi (er_widths he hR.wd) (arr_seen hR (see hsee) (by simpa using hbox) hi he) _ _
     ·cases h
   ·split at h
    ·rename_i hb
     cases h
     obtain ⟨he, rfl, rfl, _⟩ := hp
     have := Nat.eq_of_beq_eq_true hb
     subst this
     exact fptr_seen hr he
    ·cases h
   ·split at h
    ·rename_i hb
     have := Nat.eq_of_beq_eq_true hb
     subst this
     obtain ⟨hl, hcells⟩ := ih2 _ _ _ h hp
     cases hr with
     | fn f caps vs hl' h' =>
      refine .fn _ _ _ (by omega) (fun i c u hc hu => ?_)
      have hlt := (List.getElem?_eq_some_iff.1 hc).1
      rw [← hl] at hlt
      exact hcells i _ c u (List.getElem?_eq_getElem hlt) hc (h' i _ u (List.getElem?_eq_getElem hlt) hu)
    ·cases h
   ·obtain ⟨hl, hcells⟩ := ih2 _ _ _ h hp
    cases hr with
    | agg cs vs hl' h' =>
     refine .agg _ _ (by omega) (fun i c u hc hu => ?_)
     have hlt := (List.getElem?_eq_some_iff.1 hc).1
     rw [← hl] at hlt
     exact hcells i _ c u (List.getElem?_eq_getElem hlt) hc (h' i _ u (List.getElem?_eq_getElem hlt) hu)
   ·split at h
    ·rename_i hb
     cases h
     obtain ⟨rfl, he, _⟩ := hp
     have := Nat.eq_of_beq_eq_true hb
     subst this
     exact list_seen hr he
    ·cases h
   ·cases h
    obtain ⟨rfl, rfl, _⟩ := hp
    rw [hr.nil_inv]
    exact .flist _ _ _ _ _ _ _ (fun _ _ => undef) (.inl rfl) rfl (Nat.le_refl _) (by simp) (fun h => by omega) (fun i j x c h => by simp at h)
   ·split at h
    ·rename_i hk
     cases h
     obtain ⟨rfl, _⟩ := hp
     subst hk
     rw [hr.int_inv]
     exact .int _ _ _
    ·cases h
   ·cases h
    obtain ⟨rfl, _⟩ := hp
    rw [hr.bool_inv]
    exact .bool _ _
   ·cases h
    obtain ⟨rfl, _⟩ := hp
    rw [hr.str_inv]
    exact .str _ _
   ·cases h
    rw [hr.nil_inv]
    exact .nil _
   ·split at h
    ·rename_i ho
     exact .hid _ _ (okc_one hr hg ho) (okc_cells hr hg ho) (.inl rfl)
    ·cases h
   ·cases h
    exact .undef _ _ (.inl rfl)
   ·cases h
  ·cases ds <;> cases ds' <;> simp [lendL] at h
   ·subst h
    exact ⟨rfl, fun i d d' v h => by simp at h⟩
   ·rename_i d r d' r'
    split at h
    ·rename_i p q h1 h2
     cases h
     obtain ⟨hp1, hp2⟩ := AllP_append hp
     obtain ⟨hl, hc⟩ := ih2 _ _ _ h2 hp2
     refine ⟨by simp [hl], fun i x x' v hx hx' hr => ?_⟩
     cases i with
     | zero =>
      simp only [List.getElem?_cons_zero, Option.some.injEq] at hx hx'
      subst hx hx'
      exact ih1 _ _ _ v h1 hp1 hr
     | succ i => exact hc i x x' v (by simpa using hx) (by simpa using hx') hr
    ·cases h

theorem idx_any {r : Nat} : ∀ {ins : List Nat} {b : Nat}, idx r b ins = none → ins.any (Nat.beq r) = false
 | [], b, _ => rfl
 | x :: xs, b, h => by
  simp only [idx] at h
  split at h
  ·cases h
  ·rename_i hne
   rw [List.any_cons, idx_any h, Bool.or_false]
   cases hb : Nat.beq r x with
   | false => rfl
   | true => exact absurd (by rw [Nat.eq_of_beq_eq_true hb]; exact Nat.beq_refl x) hne

theorem lendC_ok : ∀ fuel : Nat, (∀ d d', lendC cl g ins fuel d = some d' → ∃ ps, lend cl g ins fuel d d' = some ps ∧ AllP ps) ∧ (∀ ds ds', lendCL cl g ins fuel ds = some ds' → ∃ ps, lendL cl g ins fuel ds ds' = some ps ∧ AllP ps) := by
 intro fuel
 induction fuel with
 | zero =>
  refine ⟨fun d d' h => by simp [lendC] at h, fun ds ds' h => ?_⟩
  cases ds with
  | nil => simp only [lendCL, Option.some.injEq] at h; subst h; exact ⟨[], rfl, trivial⟩
  | cons d r => simp [lendCL] at h
 | succ fuel ih =>
  obtain ⟨ih1, ih2⟩ := ih
  refine ⟨fun d d' h => ?_, fun ds ds' h => ?_⟩
  ·unfold lendC at h
   split at h
   ·rename_i r wd vw
    split at h
    ·rename_i k hk
     cases h
     obtain ⟨i, rfl, hi⟩ := idx_some hk
     rw [Nat.zero_add] at *
     exact ⟨[vw = vw], by simp [lend, hi], rfl, trivial⟩
    ·rename_i hk
     have ha := idx_any hk
     split at h
     ·rename_i R hg
      split at h
      ·cases h
      ·rename_i hc
       split at h
       ·cases h
        exact ⟨[R.n = R.n, erL R.xs = erL R.xs], by simp [lend, ha, hg, hc], rfl, rfl, trivial⟩
       ·rename_i lo n
        cases h
        exact ⟨[n = n, erL ((R.xs.drop lo).take n) = erL ((R.xs.drop lo).take n)], by simp [lend, ha, hg, hc], rfl, rfl, trivial⟩
     ·cases h
   ·rename_i r wd i j
    split at h
    ·rename_i k hk
     cases h
     obtain ⟨q, rfl, hi⟩ := idx_some hk
     rw [Nat.zero_add] at *
     exact ⟨[i = i, j = j], by simp [lend, hi], rfl, rfl, trivial⟩
    ·rename_i hk
     have ha := idx_any hk
     split at h
     ·rename_i R hg
      split at h
      ·cases h
      ·rename_i hc
       split at h
       ·rename_i hb
        split at h
        ·rename_i cs hxs
         split at h
         ·rename_i hld
          split at h
          ·rename_i cs' hcs
           split at h
           ·rename_i hfz
            cases h
            obtain ⟨ps, h1, h2⟩ := ih2 _ _ hcs
            exact ⟨[i = i, j = j] ++ ps, by simp [lend, ha, hg, hc, hb, hxs, hld, hfz, h1], rfl, rfl, h2⟩
           ·cases h
          ·cases h
         ·cases h
        ·cases h
       ·cases h
     ·cases h
   ·rename_i wd xs i j
    cases h
    exact ⟨[erL xs = erL xs, i = i, j = j], by simp [lend], rfl, rfl, rfl, trivial⟩
   ·rename_i f caps
    split at h
    ·rename_i cs hcs
     cases h
     obtain ⟨ps, h1, h2⟩ := ih2 _ _ hcs
     exact ⟨ps, by simp [lend, h1], h2⟩
    ·cases h
   ·rename_i cs
    split at h
    ·rename_i cs' hcs
     cases h
     obtain ⟨ps, h1, h2⟩ := ih2 _ _ hcs
     exact ⟨ps, by simp [lend, h1], h2⟩
    ·cases h
   ·rename_i o wd n xs
    cases h
    exact ⟨[n = n, erL xs = erL xs], by simp [lend], rfl, rfl, trivial⟩
   ·rename_i k n
    cases h
    exact ⟨[n = n], by simp [lend], rfl, trivial⟩
   ·rename_i b
    cases h
    exact ⟨[b = b], by simp [lend], rfl, trivial⟩
   ·rename_i s
    cases h
    exact ⟨[s = s], by simp [lend], rfl, trivial⟩
   ·cases h
    exact ⟨[], by simp [lend], trivial⟩
   ·cases h
  ·cases ds with
   | nil => simp only [lendCL, Option.some.injEq] at h; subst h; exact ⟨[], rfl, trivial⟩
   | cons d r =>
    simp only [lendCL] at h
    split at h
    ·rename_i p q hp hq
     cases h
     obtain ⟨ps, h1, h2⟩ := ih1 _ _ hp
     obtain ⟨qs, h3, h4⟩ := ih2 _ _ hq
     exact ⟨ps ++ qs, by simp [lendL, h1, h3], AllP_app h2 h4⟩
    ·cases h

theorem argsC_ok {c : CallH} {args as : List D} {ps : List Prop} (h : argsC c g args = some (ps, as)) (hp : AllP ps) : ∃ qs, lendL c.cl g c.ins 60 args as = some qs ∧ AllP qs := by
 unfold argsC at h
 split at h
 ·split at h
  ·rename_i as' ha
   cases h
   exact (lendC_ok 60).2 _ _ ha
  ·cases h
 ·split at h
  ·rename_i qs hq
   cases h
   exact ⟨_, hq, hp⟩
  ·cases h

end
end Go.Proofs.YtogomlkoocbhcaaDoor.Ab

namespace Go.Proofs.YtogomlkoocbhcaaDoor.Ab

def newAt (nid : Nat) (cs : List D) (vs : List Value) (r : Nat) : Option (Addr × Nat) :=
 if nid ≤ r then match cs[r - nid]?, vs[r - nid]? with
  | some (.list true _ _ _), some (.slice A n _) => some (A.getD ⟨0, 0, none⟩, n)
  | _, _ => none
 else none
def bring (ins : List Nat) (nid : Nat) (cs : List D) : Bk → Bk
 | .own k p => match ins[k]? with
  | some r => .own r p
  | none => if k = ins.length then (match p with
   | (q, 0) :: p' => (match cs[q]? with
    | some (.list true _ _ _) => .own (nid + q) p'
    | _ => .far)
   | _ => .far) else .far
 | x => x
def gone (ins : List Nat) (G' : List Root) (r : Nat) : Bool := match idx r 0 ins with
 | some k => (match G'[k]? with
  | some R => R.dead
  | none => false)
 | none => false
def Env.back (E E' : Env) (w : World) (ins : List Nat) (G' : List Root) (nid : Nat) (cs : List D) (vs : List Value) : Env :=
 {adr := fun r => match newAt nid cs vs r with | some x => x.1 | none => E.adr r
  len := fun r => match newAt nid cs vs r with | some x => x.2 | none => E.len r
  ow := fun b => if b < w.heap.size then (match E.ow b with
   | .own r p => (match idx r 0 ins with | none => .own r p | some _ => bring ins nid cs (E'.ow b))
   | x => x) else bring ins nid cs (E'.ow b)
  st := fun r => match newAt nid cs vs r with | some _ => .own | none => if gone ins G' r then .dead else E.st r }

section
variable {E E' E2 : Env} {w w' : World}

theorem nfL_mem : ∀ {xs : List D}, nfL xs → ∀ x ∈ xs, x.nf
 | [], _, x, hx => by cases hx
 | y :: ys, h, x, hx => by
  simp only [nfL] at h
  rcases List.mem_cons.1 hx with rfl | hx
  ·exact h.1
  ·exact nfL_mem h.2 x hx

theorem nf_cells {x c : D} (h : x.nf) (hc : c ∈ x.cells) : c.nf := by
 cases x <;> simp [D.cells] at hc <;> first | (subst hc; exact h) | skip
 simp only [D.nf] at h
 exact nfL_mem h c hc

theorem Rep.back {cl : Prop} (hfz : cl → ∀ b, b < w.heap.size → E.ow b = .fz → E2.ow b = .fz) : ∀ {m : Md} {d : D} {v : Value}, Rep E w m d v → ∀ {m' : Md},
  (m = .fz ∧ m' = .fz ∧ cl) ∨ (∃ k p r p', m = .own k p ∧ m' = .own r p' ∧ Lab E w E2 w k p r p' ∧ (cl ∨ d.nf)) ∨ (∃ k p r p', m = .box k p ∧ m' = .box r p' ∧ Lab E w E2 w k p r p' ∧ (cl ∨ d.nf) ∧ d.fzc = true) → Rep E2 w m' d v := by
 intro m d v h
 induction h with
 | int m k n => intro m' _; exact .int _ _ _
 | bool m b => intro m' _; exact .bool _ _
 | ifc m b v hv => intro m' _; exact .ifc _ _ _ hv
 | str m s => intro m' _; exact .str _ _
 | nil m => intro m' _; exact .nil _
 | undef m v h =>
  intro m' hm
  rcases hm with ⟨rfl, _⟩ | ⟨_, _, _, _, rfl, _⟩ | ⟨_, _, _, _, _, _, _, _, hf⟩
  ·rcases h with h | ⟨_, _, h⟩ <;> cases h
  ·rcases h with h | ⟨_, _, h⟩ <;> cases h
  ·simp [D.fzc] at hf
 | hid m v _ _ h =>
  intro m' hm
  rcases hm with ⟨rfl, _⟩ | ⟨_, _, _, _, rfl, _⟩ | ⟨_, _, _, _, _, _, _, _, hf⟩
  ·rcases h with h | ⟨_, _, h⟩ <;> cases h
  ·rcases h with h | ⟨_, _, h⟩ <;> cases h
  ·simp [D.fzc] at hf
 | anyb b => intro m' hm; rcases hm with ⟨hm, _⟩ | ⟨_, _, _, _, hm, _⟩ | ⟨_, _, _, _, hm, _⟩ <;> cases hm
 | fn f caps vs hl h ih => intro m' hm; rcases hm with ⟨hm, _⟩ | ⟨_, _, _, _, hm, _⟩ | ⟨_, _, _, _, hm, _⟩ <;> cases hm
 | agg cs vs hl h ih => intro m' hm; rcases hm with ⟨hm, _⟩ | ⟨_, _, _, _, hm, _⟩ | ⟨_, _, _, _, hm, _⟩ <;> cases hm
 | tup cs vs hl h ih => intro m' hm; rcases hm with ⟨hm, _⟩ | ⟨_, _, _, _, hm, _⟩ | ⟨_, _, _, _, hm, _⟩ <;> cases hm
 | flist m o wd n xs A cap us hm' hn hc hw ha h ih =>
  intro m' hm
  have hcl : cl := by
   rcases hm with ⟨_, _, h⟩ | ⟨_, _, _, _, rfl, _, _, h⟩ | ⟨_, _, _, _, rfl, _, _, h, _⟩
   ·exact h
   ·rcases hm' with h' | h' | rfl
    ·cases h'
    ·cases h'
    ·rcases h with h | h
     ·exact h
     ·simp [D.nf] at h
   ·rcases hm' with h' | h' | rfl
    ·cases h'
    ·cases h'
    ·rcases h with h | h
     ·exact h
     ·simp [D.nf] at h
  refine .flist _ _ _ _ _ _ _ us ?_ hn hc hw (fun h0 => ?_) (fun i j x c hx hj => ih i j x c hx hj (.inl ⟨rfl, rfl, hcl⟩))
  ·rcases hm with ⟨_, rfl, _⟩ | ⟨_, _, _, _, rfl, _⟩ | ⟨_, _, _, _, rfl, _⟩
   ·exact .inr (.inl rfl)
   ·rcases hm' with h' | h' | rfl
    ·cases h'
    ·cases h'
    ·exact .inr (.inr rfl)
   ·rcases hm' with h' | h' | rfl
    ·cases h'
    ·cases h'
    ·exact .inr (.inr rfl)
  ·obtain ⟨b, hb, h1, h2, h3⟩ := ha h0
   exact ⟨b, hb, hfz hcl _ h2 h1, h2, h3⟩
 | olist m k p wd n xs A cap us hm' hn hc hw ha h ih =>
  intro m' hm
  have key : ∃ r p', (m' = .own r p' ∨ m' = .box r p') ∧ Lab E w E2 w k p r p' ∧ (cl ∨ nfL xs) := by
   rcases hm with ⟨rfl, _⟩ | ⟨k', p0, r, p', rfl, rfl, hL, hc⟩ | ⟨k', p0, r, p', rfl, rfl, hL, hc, _⟩
   ·rcases hm' with h | h <;> cases h
   ·rcases hm' with h | h <;> cases h
    exact ⟨_, _, .inl rfl, hL, hc.imp id (fun h => by simpa [D.nf] using h)⟩
   ·rcases hm' with h | h <;> cases h
    exact ⟨_, _, .inr rfl, hL, hc.imp id (fun h => by simpa [D.nf] using h)⟩
  obtain ⟨r, p', hm2, hL, hcl⟩ := key
  refine .olist _ r p' _ _ _ _ _ us hm2 hn hc hw (fun h0 => ?_) (fun i j x c hx hj => ih i j x c hx hj (.inr (.inl ⟨_, _, _, _, rfl, rfl, hL.kid _, hcl.imp id fun h => nf_cells (nfL_mem h x (List.mem_of_getElem? hx)) (List.mem_of_getElem? hj)⟩)))
  obtain ⟨a, cs, ty, rfl, hsp, ho, hh, hz, hcell⟩ := ha h0
  exact ⟨a, cs, ty, rfl, hsp, by simpa using (hL a.block [] (lt_of_get hh) (by simpa using ho)).2, hh, hz, hcell⟩
 | ref m r wd vw v h' hs h => intro m' hm; rcases hm with ⟨rfl, _⟩ | ⟨_, _, _, _, rfl, _⟩ | ⟨_, _, _, _, _, _, _, _, hf⟩ <;> first | (rcases h' with h | ⟨_, _, h⟩ <;> cases h; done) | simp [D.fzc] at hf
 | ptr m r wd i j v h' hs h => intro m' hm; rcases hm with ⟨rfl, _⟩ | ⟨_, _, _, _, rfl, _⟩ | ⟨_, _, _, _, _, _, _, _, hf⟩ <;> first | (rcases h' with h | ⟨_, _, h⟩ <;> cases h; done) | simp [D.fzc] at hf
 | fptr m wd xs i j a us h' hw ha h ih => intro m' hm; rcases hm with ⟨rfl, _⟩ | ⟨_, _, _, _, rfl, _⟩ | ⟨_, _, _, _, _, _, _, _, hf⟩ <;> first | (rcases h' with h | ⟨_, _, h⟩ <;> cases h; done) | simp [D.fzc] at hf

def flatV : List D → List Value → List Value
 | .agg _ :: ds, .agg vs :: us => vs.toList ++ flatV ds us
 | _ :: ds, u :: us => u :: flatV ds us
 | _, _ => []

theorem ResAll.flat {M : Nat} : ∀ {res : List D} {us : List Value} {q : Nat}, ResAll E w M q res us → (flatV res us).length = (res.flatMap D.cells).length ∧
  ∀ (j : Nat) c x, (res.flatMap D.cells)[j]? = some c → (flatV res us)[j]? = some x → Rep E w (.own M [(q + j, 0)]) c x
 | [], [], q, _ => ⟨rfl, fun j c x h => by simp at h⟩
 | [], _ :: _, q, h => h.elim
 | _ :: _, [], q, h => h.elim
 | d :: ds, u :: us, q, h => by
  obtain ⟨h1, h2⟩ := h
  obtain ⟨hl, hr⟩ := ResAll.flat h2
  by_cases hd : ∃ cs, d = .agg cs
  ·obtain ⟨cs, rfl⟩ := hd
   obtain ⟨vs, rfl, hvl, hv⟩ := h1
   simp only [flatV, List.flatMap_cons, D.cells] at *
   refine ⟨by simp [hl, hvl], fun j c x hc hx => ?_⟩
   by_cases hj : j < cs.length
   ·rw [List.getElem?_append_left hj] at hc
    rw [List.getElem?_append_left (by simp; omega)] at hx
    exact hv j c x hc (by simpa using hx)
   ·rw [List.getElem?_append_right (by omega)] at hc
    rw [List.getElem?_append_right (by simp; omega)] at hx
    have := hr (j - cs.length) c x hc (by rw [hvl]; simpa using hx)
    rwa [show q + cs.length + (j - cs.length) = q + j by omega] at this
  ·have e1 : d.cells = [d] := by cases d <;> first | rfl | exact absurd ⟨_, rfl⟩ hd
   have e2 : flatV (d :: ds) (u :: us) = u :: flatV ds us := by cases d <;> first | rfl | exact absurd ⟨_, rfl⟩ hd
   have e3 : Rep E w (.own M [(q, 0)]) d u := by cases d <;> first | exact h1 | exact absurd ⟨_, rfl⟩ hd
   rw [e1] at hr
   rw [e2, List.flatMap_cons, e1]
   refine ⟨by simp [hl], fun j c x hc hx => ?_⟩
   cases j with
   | zero =>
    simp only [List.cons_append, List.getElem?_cons_zero, Option.some.injEq] at hc hx
    subst hc hx
    exact e3
   | succ j =>
    have := hr j c x (by simpa using hc) (by simpa using hx)
    rwa [show q + [d].length + j = q + (j + 1) by simp; omega] at this

theorem takeL_get : ∀ {cs : List D} {id j : Nat} {d : D}, (takeL id cs)[j]? = some d → ∃ c, cs[j]? = some c ∧ d = take1 (id + j) c
 | [], id, j, d, h => by simp [takeL] at h
 | c :: cs, id, j, d, h => by
  cases j with
  | zero =>
   simp only [takeL, List.getElem?_cons_zero, Option.some.injEq] at h
   exact ⟨c, rfl, h.symm⟩
  | succ j =>
   simp only [takeL, List.getElem?_cons_succ] at h
   obtain ⟨c', h1, h2⟩ := takeL_get h
   exact ⟨c', by simpa using h1, by rw [h2]; congr 1; omega⟩

theorem takeL_len : ∀ (cs : List D) (id : Nat), (takeL id cs).length = cs.length
 | [], _ => rfl
 | c :: cs, id => by simp [takeL, takeL_len cs]

theorem ResAll.take {M : Nat} : ∀ {res : List D} {us : List Value} {q id : Nat}, ResAll E w M q res us →
  (∀ (j : Nat) c x, (res.flatMap D.cells)[j]? = some c → (flatV res us)[j]? = some x → Rep E2 w' .slot (take1 (id + j) c) x) →
  us.length = (takeVs id res).length ∧ ∀ (i : Nat) d u, (takeVs id res)[i]? = some d → us[i]? = some u → Rep E2 w' .slot d u
 | [], [], q, id, _, _ => ⟨rfl, fun j c x h => by simp [takeVs] at h⟩
 | [], _ :: _, q, id, h, _ => h.elim
 | _ :: _, [], q, id, h, _ => h.elim
 | d :: ds, u :: us, q, id, h, hr => by
  obtain ⟨h1, h2⟩ := h
  by_cases hd : ∃ cs, d = .agg cs
  ·obtain ⟨cs, rfl⟩ := hd
   obtain ⟨vs, rfl, hvl, hv⟩ := h1
   simp only [flatV, List.flatMap_cons, D.cells] at hr
   obtain ⟨hl, hh⟩ := ResAll.take (id := id + cs.length) h2 (fun j c x hc hx => by
    have := hr (cs.length + j) c x (by rw [List.getElem?_append_right (by omega)]; simpa using hc) (by rw [List.getElem?_append_right (by simp; omega)]; simpa [hvl] using hx)
    rwa [← Nat.add_assoc] at this)
   refine ⟨by simp [takeVs, hl, D.cells], fun i d' u' hd' hu' => ?_⟩
   cases i with
   | zero =>
    simp only [takeVs, takeV, List.getElem?_cons_zero, Option.some.injEq] at hd' hu'
    subst hd' hu'
    refine .agg _ _ (by rw [takeL_len]; exact hvl) (fun j c x hc hx => ?_)
    obtain ⟨c', hc', rfl⟩ := takeL_get hc
    have hlt := (List.getElem?_eq_some_iff.1 hc').1
    exact hr j c' x (by rw [List.getElem?_append_left hlt]; exact hc') (by rw [List.getElem?_append_left (by simp; omega)]; simpa using hx)
   | succ i => exact hh i d' u' (by simpa [takeVs, D.cells] using hd') (by simpa using hu')
  ·have e1 : d.cells = [d] := by cases d <;> first | rfl | exact absurd ⟨_, rfl⟩ hd
   have e2 : flatV (d :: ds) (u :: us) = u :: flatV ds us := by cases d <;> first | rfl | exact absurd ⟨_, rfl⟩ hd
   have e4 : takeV id d = take1 id d := by cases d <;> first | rfl | exact absurd ⟨_, rfl⟩ hd
   rw [e2, List.flatMap_cons, e1] at hr
   obtain ⟨hl, hh⟩ := ResAll.take (id := id + 1) h2 (fun j c x hc hx => by
    have := hr (j + 1) c x (by simpa using hc) (by simpa using hx)
    rwa [show id + (j + 1) = id + 1 + j by omega] at this)
   refine ⟨by simp [takeVs, e1, hl], fun i d' u' hd' hu' => ?_⟩
   cases i with
   | zero =>
    simp only [takeVs, e4, List.getElem?_cons_zero, Option.some.injEq] at hd' hu'
    subst hd' hu'
    exact hr 0 d u rfl rfl
   | succ i => exact hh i d' u' (by simpa [takeVs, e1] using hd') (by simpa using hu')

theorem pack_rep {ds : List D} {us : List Value} (hl : us.length = ds.length) (h : ∀ (i : Nat) d u, ds[i]? = some d → us[i]? = some u → Rep E w .slot d u) : Rep E w .slot (oneOrTup ds) (pack us) := by
 match ds, us, hl with
 | [], [], _ => exact .tup _ _ rfl (fun i c u hc => by simp at hc)
 | [d], [u], _ => exact h 0 d u rfl rfl
 | d :: d' :: ds, u :: u' :: us, hl =>
  refine .tup _ _ (by simp at hl ⊢; omega) (fun i c x hc hx => h i c x hc (by simpa using hx))

theorem rootsOf_ok {g : Nat → Option Root} : ∀ {ins : List Nat} {G : List Root}, rootsOf g ins = some G → G.length = ins.length ∧ ∀ (k : Nat) r, ins[k]? = some r → ∃ R, g r = some R ∧ G[k]? = some R ∧ R.fz = false ∧ rless R = true
 | [], G, h => by
  simp only [rootsOf, Option.some.injEq] at h
  subst h
  exact ⟨rfl, fun k r h => by simp at h⟩
 | r :: rs, G, h => by
  simp only [rootsOf] at h
  split at h
  ·rename_i R Rs h1 h2
   split at h
   ·cases h
   ·rename_i hc
    cases h
    simp only [Bool.or_eq_true, Bool.not_eq_true', not_or, Bool.not_eq_true, Bool.not_eq_false] at hc
    obtain ⟨hl, hh⟩ := rootsOf_ok h2
    refine ⟨by simp [hl], fun k r' hk => ?_⟩
    cases k with
    | zero =>
     simp only [List.getElem?_cons_zero, Option.some.injEq] at hk
     subst hk
     exact ⟨R, h1, rfl, hc.1, hc.2⟩
    | succ k => simpa using hh k r' (by simpa using hk)
  ·cases h

theorem sameB_eq {a b : Bool} (h : sameB a b = true) : a = b := by cases a <;> cases b <;> simp [sameB] at h <;> rfl

theorem updAt_ok : ∀ {ins : List Nat} {G G' : List Root} {ps : List Prop} {us : List (Nat × Option Root)}, updAt ins G G' = some (ps, us) → AllP ps → G'.length = ins.length ∧
  (∀ (k : Nat) r, ins[k]? = some r → ∃ R R', G[k]? = some R ∧ G'[k]? = some R' ∧ (R'.dead = true ∧ (r, none) ∈ us ∨ R'.dead = false ∧ R'.n = R.n ∧ R.w = R'.w ∧ R.box = R'.box ∧ R'.fz = false ∧ rless R' = true ∧ (r, some R') ∈ us)) ∧
  ∀ u ∈ us, ∃ (k : Nat) (R' : Root), ins[k]? = some u.1 ∧ G'[k]? = some R' ∧ (R'.dead = true ∧ u.2 = none ∨ R'.dead = false ∧ u.2 = some R')
 | [], [], [], ps, us, h, hp => by
  simp only [updAt, Option.some.injEq, Prod.mk.injEq] at h
  obtain ⟨rfl, rfl⟩ := h
  exact ⟨rfl, fun k r h => by simp at h, fun u h => by cases h⟩
 | r :: rs, R :: Rs, R' :: Rs', ps, us, h, hp => by
  simp only [updAt] at h
  split at h
  ·rename_i ps' u' hu
   split at h
   ·rename_i hdead
    cases h
    obtain ⟨hl, h1, h2⟩ := updAt_ok hu hp
    refine ⟨by simp [hl], fun k r' hk => ?_, fun u hu' => ?_⟩
    ·cases k with
     | zero =>
      simp only [List.getElem?_cons_zero, Option.some.injEq] at hk
      subst hk
      exact ⟨R, R', rfl, rfl, .inl ⟨hdead, List.mem_cons_self ..⟩⟩
     | succ k =>
      obtain ⟨R1, R1', a1, a2, a3⟩ := h1 k r' (by simpa using hk)
      refine ⟨R1, R1', by simpa using a1, by simpa using a2, ?_⟩
      rcases a3 with ⟨b1, b2⟩ | ⟨b0, b1, b2, b3, b4, b5, b6⟩
      ·exact .inl ⟨b1, List.mem_cons_of_mem _ b2⟩
      ·exact .inr ⟨b0, b1, b2, b3, b4, b5, List.mem_cons_of_mem _ b6⟩
    ·rcases List.mem_cons.1 hu' with rfl | hu'
     ·exact ⟨0, R', rfl, rfl, .inl ⟨hdead, rfl⟩⟩
     ·obtain ⟨k, R1, a1, a2, a3⟩ := h2 u hu'
      exact ⟨k + 1, R1, by simpa using a1, by simpa using a2, a3⟩
   rename_i hdead
   split at h
   ·rename_i hc
    cases h
    simp only [Bool.and_eq_true, Bool.not_eq_true'] at hc
    obtain ⟨⟨⟨hw, hb⟩, hf⟩, hr⟩ := hc
    have hdead : R'.dead = false := by simpa using hdead
    obtain ⟨hl, h1, h2⟩ := updAt_ok hu hp.2
    refine ⟨by simp [hl], fun k r' hk => ?_, fun u hu' => ?_⟩
    ·cases k with
     | zero =>
      simp only [List.getElem?_cons_zero, Option.some.injEq] at hk
      subst hk
      exact ⟨R, R', rfl, rfl, .inr ⟨hdead, hp.1, Nat.eq_of_beq_eq_true hw, sameB_eq hb, hf, hr, List.mem_cons_self ..⟩⟩
     | succ k =>
      obtain ⟨R1, R1', a1, a2, a3⟩ := h1 k r' (by simpa using hk)
      refine ⟨R1, R1', by simpa using a1, by simpa using a2, ?_⟩
      rcases a3 with ⟨b1, b2⟩ | ⟨b0, b1, b2, b3, b4, b5, b6⟩
      ·exact .inl ⟨b1, List.mem_cons_of_mem _ b2⟩
      ·exact .inr ⟨b0, b1, b2, b3, b4, b5, List.mem_cons_of_mem _ b6⟩
    ·rcases List.mem_cons.1 hu' with rfl | hu'
     ·exact ⟨0, R', rfl, rfl, .inr ⟨hdead, rfl⟩⟩
     ·obtain ⟨k, R1, a1, a2, a3⟩ := h2 u hu'
      exact ⟨k + 1, R1, by simpa using a1, by simpa using a2, a3⟩
   ·cases h
  ·cases h
 | [], [], _ :: _, _, _, h, _ => by simp [updAt] at h
 | [], _ :: _, _, _, _, h, _ => by simp [updAt] at h
 | _ :: _, [], _, _, _, h, _ => by simp [updAt] at h
 | _ :: _, _ :: _, [], _, _, h, _ => by simp [updAt] at h

theorem news_mem : ∀ {cs : List D} {id : Nat} {u : Nat × Option Root}, u ∈ news id cs → ∃ j wd n xs, cs[j]? = some (.list true wd n xs) ∧ u = (id + j, some ⟨false, false, wd, n, xs⟩)
 | [], id, u, h => by simp [news] at h
 | c :: cs, id, u, h => by
  simp only [news] at h
  have tail : u ∈ news (id + 1) cs → ∃ j wd n xs, (c :: cs)[j]? = some (.list true wd n xs) ∧ u = (id + j, some ⟨false, false, wd, n, xs⟩) := fun h => by
   obtain ⟨j, wd, n, xs, h1, rfl⟩ := news_mem h
   exact ⟨j + 1, wd, n, xs, by simpa using h1, by congr 1; omega⟩
  split at h
  ·rename_i R hR
   rcases List.mem_cons.1 h with rfl | h
   ·unfold newR at hR
    split at hR
    ·cases hR
     exact ⟨0, _, _, _, rfl, rfl⟩
    ·cases hR
   ·exact tail h
  ·exact tail h

theorem mem_news : ∀ {cs : List D} {id j wd n : Nat} {xs : List D}, cs[j]? = some (.list true wd n xs) → (id + j, some ⟨false, false, wd, n, xs⟩) ∈ news id cs
 | [], id, j, wd, n, xs, h => by simp at h
 | c :: cs, id, j, wd, n, xs, h => by
  cases j with
  | zero =>
   simp only [List.getElem?_cons_zero, Option.some.injEq] at h
   subst h
   simp only [news, newR]
   exact List.mem_cons_self ..
  | succ j =>
   have h1 := mem_news (id := id + 1) (by simpa using h : cs[j]? = some (.list true wd n xs))
   rw [show id + 1 + j = id + (j + 1) by omega] at h1
   simp only [news]
   split
   ·exact List.mem_cons_of_mem _ h1
   ·exact h1

end
end Go.Proofs.YtogomlkoocbhcaaDoor.Ab

namespace Go.Proofs.YtogomlkoocbhcaaDoor.Ab

section
variable {X : Ctx} {o : Oper} {E E' Ec : Env} {w w' : World} {a : Act} {ρ : Operand → Option D} {g : Nat → Option Root} {nid : Nat}

theorem newAt_some {cs : List D} {vs : List Value} {r : Nat} {x : Addr × Nat} (h : newAt nid cs vs r = some x) : ∃ j wd n xs A m cap, r = nid + j ∧ cs[j]? = some (.list true wd n xs) ∧ vs[j]? = some (.slice A m cap) ∧ x = (A.getD ⟨0, 0, none⟩, m) := by
 unfold newAt at h
 split at h
 ·rename_i hle
  split at h
  ·rename_i wd n xs A m cap h1 h2
   cases h
   exact ⟨r - nid, wd, n, xs, A, m, cap, by omega, h1, h2, rfl⟩
  ·cases h
 ·cases h

theorem newAt_at {cs : List D} {vs : List Value} {j wd n m cap : Nat} {xs : List D} {A : Option Addr} (h : cs[j]? = some (.list true wd n xs)) (h' : vs[j]? = some (.slice A m cap)) : newAt nid cs vs (nid + j) = some (A.getD ⟨0, 0, none⟩, m) := by
 unfold newAt
 rw [if_pos (by omega), show nid + j - nid = j by omega, h, h']

theorem nfG_mem : ∀ {G : List Root}, nfG G → ∀ R ∈ G, nfL R.xs
 | [], _, R, h => by cases h
 | R' :: G, h, R, hm => by
  simp only [nfG] at h
  rcases List.mem_cons.1 hm with rfl | hm
  ·exact h.1
  ·exact nfG_mem h.2 R hm

theorem ext_back {cl : Bool} {ins : List Nat} {G G' : List Root} {res : List D} {qs : List Prop} {us : List (Nat × Option Root)} {rv : List Value}
  (hd : distinct ins = true) (hg : ∀ r R, g r = some R → RootRel E w r R) (hlt : ∀ r R, g r = some R → r < nid) (hG : rootsOf g ins = some G) (hU : updAt ins G G' = some (qs, us)) (hqs : AllP qs)
  (hnf : cl = true ∨ nfL (res.flatMap D.cells) ∧ nfG G') (hfresh : ∀ u ∈ us ++ news nid (res.flatMap D.cells), nid ≤ u.1 → E.st u.1 = .fresh) (hres : res.all resOk = true)
  (hF : Frm G.length (E.sub cl ins) w E' w') (hRR : ∀ (k : Nat) R, G'[k]? = some R → R.dead = false → RootRel E' w' k R) (hRes : ResAll E' w' G.length 0 res rv) :
  ∃ E2, Ext E w E2 w' (us ++ news nid (res.flatMap D.cells)) ∧ Rep E2 w' .slot (oneOrTup (takeVs nid res)) (pack rv) := by
 obtain ⟨hGl, hGr⟩ := rootsOf_ok hG
 obtain ⟨hGl', hUr, hUu⟩ := updAt_ok hU hqs
 obtain ⟨hfl, hflat⟩ := hRes.flat
 generalize hcs : res.flatMap D.cells = cs at *
 generalize hvs : flatV res rv = vs at *
 have hE2 : ∃ E2, E2 = E.back E' w ins G' nid cs vs := ⟨_, rfl⟩
 obtain ⟨E2, hE2⟩ := hE2
 -- lent roots are owned
 have hown : ∀ (k : Nat) r, ins[k]? = some r → E.st r = .own := fun k r hk => by
  obtain ⟨R, h1, _, h3, _⟩ := hGr k r hk
  have := (hg _ _ h1).st
  rw [h3] at this
  exact this
 have hinlt : ∀ (k : Nat) r, ins[k]? = some r → r < nid := fun k r hk => by
  obtain ⟨R, h1, _⟩ := hGr k r hk
  exact hlt _ _ h1
 -- the new ones
 have hnewf : ∀ r x, newAt nid cs vs r = some x → E.st r = .fresh := fun r x h => by
  obtain ⟨j, wd, n, xs, A, m, cap, rfl, h1, _⟩ := newAt_some h
  exact hfresh _ (List.mem_append_right _ (mem_news h1)) (by simp)
 have hst0 : ∀ r, newAt nid cs vs r = none → E2.adr r = E.adr r ∧ E2.len r = E.len r := fun r h => by
  subst hE2
  simp [Env.back, h]
 have hst : ∀ r, newAt nid cs vs r = none → gone ins G' r = false → E2.st r = E.st r ∧ E2.adr r = E.adr r ∧ E2.len r = E.len r := fun r h hg => by
  subst hE2
  simp [Env.back, h, hg]
 have hstD : ∀ r, newAt nid cs vs r = none → gone ins G' r = true → E2.st r = .dead := fun r h hg => by
  subst hE2
  simp [Env.back, h, hg]
 -- a root that was given back
 have hlive : ∀ (k : Nat) r R', ins[k]? = some r → G'[k]? = some R' → R'.dead = false → gone ins G' r = false := fun k r R' hk hR' hd' => by
  simp only [gone, idx_of hd hk, Nat.zero_add, hR']
  exact hd'
 have hlive' : ∀ (k : Nat) r, ins[k]? = some r → gone ins G' r = false → ∃ R', G'[k]? = some R' ∧ R'.dead = false := fun k r hk hg' => by
  obtain ⟨R, R', h1, h2, _⟩ := hUr k r hk
  refine ⟨R', h2, ?_⟩
  simp only [gone, idx_of hd hk, Nat.zero_add, h2] at hg'
  exact hg'
 have hold : ∀ r, E.st r ≠ .fresh → newAt nid cs vs r = none := fun r h => by
  cases hn : newAt nid cs vs r with
  | none => rfl
  | some x => exact absurd (hnewf _ _ hn) h
 -- blocks
 have how_in : ∀ b r p k, b < w.heap.size → E.ow b = .own r p → idx r 0 ins = some k → E2.ow b = bring ins nid cs (E'.ow b) := fun b r p k hb h1 h2 => by
  subst hE2
  simp [Env.back, hb, h1, h2]
 have how_out : ∀ b r p, b < w.heap.size → E.ow b = .own r p → idx r 0 ins = none → E2.ow b = .own r p := fun b r p hb h1 h2 => by
  subst hE2
  simp [Env.back, hb, h1, h2]
 have how_new : ∀ b, ¬ b < w.heap.size → E2.ow b = bring ins nid cs (E'.ow b) := fun b hb => by
  subst hE2
  simp [Env.back, hb]
 have how_fz : ∀ b, b < w.heap.size → E.ow b = .fz → w'.heap[b]? = w.heap[b]? ∧ E'.ow b = .fz ∧ E2.ow b = .fz := fun b hb h => by
  obtain ⟨h1, h2⟩ := hF.fz b hb (by simp [Env.sub, h])
  refine ⟨h1, h2, ?_⟩
  subst hE2
  simp [Env.back, hb, h]
 have how_far : ∀ b, b < w.heap.size → E.ow b = .far → w'.heap[b]? = w.heap[b]? ∧ E'.ow b = .far ∧ E2.ow b = .far := fun b hb h => by
  obtain ⟨h1, h2⟩ := hF.far b hb (by simp [Env.sub, h])
  refine ⟨h1, h2, ?_⟩
  subst hE2
  simp [Env.back, hb, h]
 have how_own : ∀ b r p, b < w.heap.size → E.ow b = .own r p → idx r 0 ins = none → w'.heap[b]? = w.heap[b]? ∧ E'.ow b = (if cl then .far else .fz) := fun b r p hb h hi => by
  cases cl with
  | true => exact hF.far b hb (by simp [Env.sub, h, hi])
  | false => exact hF.fz b hb (by simp [Env.sub, h, hi])
 -- what the callee owns, at the end
 have hbring : ∀ b k p, E'.ow b = .own k p → E2.ow b = bring ins nid cs (.own k p) := fun b k p h => by
  by_cases hb : b < w.heap.size
  ·cases ho : E.ow b with
   | fz => have := (how_fz b hb ho).2.1; rw [h] at this; cases this
   | far => have := (how_far b hb ho).2.1; rw [h] at this; cases this
   | own r p0 =>
    cases hi : idx r 0 ins with
    | none => have := (how_own b r p0 hb ho hi).2; rw [h] at this; split at this <;> cases this
    | some k0 => rw [how_in b r p0 k0 hb ho hi, h]
  ·rw [how_new b hb, h]
 have hLab : ∀ (k : Nat) r p, ins[k]? = some r → Lab E' w' E2 w' k p r p := fun k r p hk b q hb ho => ⟨rfl, by rw [hbring b k _ ho]; simp [bring, hk]⟩
 have hLabM : ∀ (q wd n : Nat) xs, cs[q]? = some (.list true wd n xs) → Lab E' w' E2 w' G.length [(q, 0)] (nid + q) [] := fun q wd n xs hq b p hb ho => ⟨rfl, by
  rw [hbring b _ _ ho]
  have h1 : ins[G.length]? = none := List.getElem?_eq_none (by omega)
  simp [bring, h1, hGl, hq]⟩
 have hfzc : cl = true → ∀ b, b < w'.heap.size → E'.ow b = .fz → E2.ow b = .fz := fun hc b _ h => by
  by_cases hb : b < w.heap.size
  ·cases ho : E.ow b with
   | fz => exact (how_fz b hb ho).2.2
   | far => have := (how_far b hb ho).2.1; rw [h] at this; cases this
   | own r p0 =>
    cases hi : idx r 0 ins with
    | none => have := (how_own b r p0 hb ho hi).2; rw [h, hc] at this; cases this
    | some k0 => rw [how_in b r p0 k0 hb ho hi, h]; rfl
  ·rw [how_new b hb, h]; rfl
 -- addresses of what was lent
 have hadr : ∀ (k : Nat) r, ins[k]? = some r → E'.adr k = E.adr r := fun k r hk => by
  have hlt' : k < G.length := by rw [hGl]; exact (List.getElem?_eq_some_iff.1 hk).1
  rw [hF.adr k hlt']
  exact (sub_at cl hk).1
 have hst' : ∀ (k : Nat) r, ins[k]? = some r → gone ins G' r = false → E'.st k = .own := fun k r hk hgn => by
  obtain ⟨R1', e1, e2⟩ := hlive' k r hk hgn
  obtain ⟨R, R', _, h2, h3⟩ := hUr k r hk
  obtain rfl := Option.some.inj (e1.symm.trans h2)
  rcases h3 with ⟨h3, _⟩ | ⟨_, _, _, _, hf, _⟩
  ·rw [e2] at h3; cases h3
  have := (hRR k R1' h2 e2).st
  rw [hf] at this
  exact this
 have hshpin : ∀ (k : Nat) r N, ins[k]? = some r → gone ins G' r = false → Shp E' w' k N → Shp E2 w' r N := fun k r N hk hgn h => by
  obtain ⟨s1, s2, ds, ty, s3, s4⟩ := h
  rw [hst' k r hk hgn, if_pos rfl] at s2
  rw [hadr k r hk] at s1 s2 s3 s4
  have hr := hst r (hold r (by rw [hown k r hk]; simp)) hgn
  unfold Shp
  rw [hr.2.1, hr.1, hown k r hk, if_pos rfl]
  exact ⟨s1, by rw [hbring _ _ _ s2]; simp [bring, hk], ds, ty, s3, s4⟩
 have hM : Mv E w E2 w' := by
  refine ⟨hF.sz, fun b hb h => ⟨(how_fz b hb h).1, (how_fz b hb h).2.2⟩, fun r h => ?_, fun r h hal => ?_⟩
  ·cases hgn : gone ins G' r with
   | false => rw [(hst r (hold r h) hgn).1]; exact h
   | true => rw [hstD r (hold r h) hgn]; simp
  ·have hgn : gone ins G' r = false := by
    cases hgn : gone ins G' r with
    | false => rfl
    | true =>
     unfold Alive at hal
     rw [hstD r (hold r h) hgn] at hal
     rcases hal with h | h <;> cases h
   obtain ⟨h1, h2, h3⟩ := hst r (hold r h) hgn
   refine ⟨?_, h2, h3, fun N hs => ?_⟩
   ·unfold Alive at *
    rw [h1] at hal
    exact hal
   ·cases hi : idx r 0 ins with
    | some k =>
     obtain ⟨i, rfl, hk⟩ := idx_some hi
     simp only [Nat.zero_add] at hi
     refine hshpin i r N hk hgn ?_
     exact (hF.shp i (by rw [hGl]; exact (List.getElem?_eq_some_iff.1 hk).1) (hst' i r hk hgn)).2 N (sub_shp hd hk (hown i r hk) hs)
    | none =>
     obtain ⟨s1, s2, ds, ty, s3, s4⟩ := hs
     have hb := lt_of_get s3
     unfold Shp
     rw [h2, h1]
     cases hs : E.st r with
     | own =>
      rw [hs, if_pos rfl] at s2
      exact ⟨s1, how_out _ _ _ hb s2 hi, ds, ty, (how_own _ _ _ hb s2 hi).1.trans s3, s4⟩
     | fz =>
      simp only [hs] at s2
      exact ⟨s1, (how_fz _ hb (by simpa using s2)).2.2, ds, ty, (how_fz _ hb (by simpa using s2)).1.trans s3, s4⟩
     | dead =>
      simp only [hs] at s2
      exact ⟨s1, (how_fz _ hb (by simpa using s2)).2.2, ds, ty, (how_fz _ hb (by simpa using s2)).1.trans s3, s4⟩
     | fresh => exact absurd hs h
 have hcellin : ∀ u ∈ us, u.1 < nid := fun u hu => by
  obtain ⟨k, R', h1, _⟩ := hUu u hu
  exact hinlt k _ h1
 -- a result
 have hone : ∀ (j : Nat) c x, cs[j]? = some c → vs[j]? = some x → Rep E2 w' .slot (take1 (nid + j) c) x ∧ ∀ wd n xs, c = .list true wd n xs → RootRel E2 w' (nid + j) ⟨false, false, wd, n, xs⟩ := fun j c x hc hx => by
  have hr := hflat j c x hc hx
  rw [Nat.zero_add] at hr
  have hok : resOk1 c = true := by
   have hm := List.mem_of_getElem? hc
   rw [← hcs] at hm
   obtain ⟨d, hd1, hd2⟩ := List.mem_flatMap.1 hm
   have hr := List.all_eq_true.1 hres d hd1
   cases d <;> simp [resOk, resOk1] at hr <;> simp [D.cells] at hd2 <;> first | (subst hd2; rfl) | exact hr c hd2
  have hnfc : cl = true ∨ c.nf := hnf.imp id fun h => nfL_mem h.1 c (List.mem_of_getElem? hc)
  by_cases hl : ∃ wd n xs, c = .list true wd n xs
  ·obtain ⟨wd, n, xs, rfl⟩ := hl
   have hL := hLabM j wd n xs hc
   have hr2 : Rep E2 w' (.own (nid + j) []) (.list true wd n xs) x := hr.back (cl := cl = true) hfzc (.inr (.inl ⟨_, _, _, _, rfl, rfl, hL, hnfc⟩))
   generalize hm : Md.own (nid + j) [] = m at hr2
   cases hr2 with
   | flist m o wd n xs A cap us0 hm' hn hcp hw ha h => subst hm; rcases hm' with h | h | h <;> cases h
   | olist m r p wd n xs A cap us0 hm' hn hcp hw ha h =>
    rcases hm' with h' | h' <;> rw [← hm] at h' <;> cases h'
    have hnew := newAt_at (nid := nid) hc hx
    have hE : E2.st (nid + j) = .own ∧ E2.adr (nid + j) = A.getD ⟨0, 0, none⟩ ∧ E2.len (nid + j) = n := by
     subst hE2
     simp [Env.back, hnew]
    obtain ⟨e1, e2, e3⟩ := hE
    have hshp : 0 < cap → A = some (E2.adr (nid + j)) ∧ Shp E2 w' (nid + j) (cap * wd) := fun h0 => by
     obtain ⟨b, ds, ty, rfl, s1, s2, s3, s4, s5⟩ := ha h0
     rw [e2]
     refine ⟨rfl, ?_⟩
     unfold Shp
     rw [e2, e1, if_pos rfl]
     exact ⟨s1, s2, ds, ty, s3, s4⟩
    refine ⟨.ref _ _ _ _ _ (.inl rfl) (by rw [e1]; simp) fun _ => ⟨A, cap, by simp [Vw, e3], by simpa [Vw, e3] using hcp, by simp [Vw, e3], fun h0 => ?_⟩, fun wd' n' xs' he => ?_⟩
    ·obtain ⟨rfl, hs⟩ := hshp h0
     exact ⟨by simp [Vw, Addr.add], by simpa [Vw] using hs⟩
    ·cases he
     refine ⟨by simp [e1], by simp [e3], hn, hw, (fun h => by cases h), fun h0 => ?_, fun i j' x c hx' hj' => ?_⟩
     ·simp only at h0
      obtain ⟨_, s1, s2, ds, ty, s3, s4⟩ := hshp (by omega)
      exact ⟨s1, s2, ds, ty, s3, Nat.le_trans (Nat.add_le_add_left (Nat.mul_le_mul_right _ hcp) _) s4⟩
     ·have hpos : 0 < n := by
       rw [← hn]
       exact Nat.lt_of_le_of_lt (Nat.zero_le _) (List.getElem?_eq_some_iff.1 hx').1
      obtain ⟨b, ds, ty, rfl, s1, s2, s3, s4, s5⟩ := ha (by omega)
      refine ⟨us0 i j', by rw [e2]; exact s5 i j' x c hx' hj', ?_⟩
      simpa [Root.md] using h i j' x c hx' hj'
  ·refine ⟨?_, fun wd n xs he => absurd ⟨wd, n, xs, he⟩ hl⟩
   have e1 : take1 (nid + j) c = c := by
    cases c <;> first | rfl | skip
    rename_i o wd n xs
    cases o
    ·rfl
    ·exact absurd ⟨_, _, _, rfl⟩ hl
   rw [e1]
   cases hr with
   | int m k n => exact .int _ _ _
   | bool m b => exact .bool _ _
   | ifc m b v hv => exact .ifc _ _ _ hv
   | str m s => exact .str _ _
   | nil m => exact .nil _
   | flist m o wd n xs A cap us0 hm' hn hcp hw ha h =>
    rcases hm' with h' | h' | rfl
    ·cases h'
    ·cases h'
    ·have hcl : cl = true := hnfc.resolve_right (by simp [D.nf])
     refine .flist _ _ _ _ _ _ _ us0 (.inl rfl) hn hcp hw (fun h0 => ?_) (fun i j x c hx hj => (h i j x c hx hj).back (cl := cl = true) hfzc (.inl ⟨rfl, rfl, hcl⟩))
     obtain ⟨b, hb, s1, s2, s3⟩ := ha h0
     exact ⟨b, hb, hfzc hcl _ s2 s1, s2, s3⟩
   | olist m r p wd n xs A cap us0 hm' hn hcp hw ha h => exact absurd ⟨_, _, _, rfl⟩ hl
   | _ => simp [resOk1] at hok
 refine ⟨E2, ⟨hF.sz, hF.os, hF.tape, hF.output, fun b hb h => ⟨(how_fz b hb h).1, (how_fz b hb h).2.2⟩, fun b hb h => ⟨(how_far b hb h).1, (how_far b hb h).2.2⟩, fun r h => (hst0 r (hold r h)).1, fun d v h => h.mv hM trivial, fun r R hr h => ?_, fun r R hmem => ?_, fun r hr h => ?_, hF.shape, fun r N hr hr' h => ?_, fun r h => ?_⟩, ?_⟩
 ·have hne : E.st r ≠ .fresh := by rw [h.st]; split <;> simp
  have hi : idx r 0 ins = none := by
   cases hi : idx r 0 ins with
   | none => rfl
   | some k =>
    obtain ⟨i, _, hk⟩ := idx_some hi
    obtain ⟨_, R', _, _, hmem⟩ := hUr i r hk
    rcases hmem with ⟨_, hmem⟩ | ⟨_, _, _, _, _, _, hmem⟩
    ·exact absurd rfl (hr _ (List.mem_append_left _ hmem))
    ·exact absurd rfl (hr _ (List.mem_append_left _ hmem))
  refine h.mv hM (hst r (hold r hne) (by unfold gone; rw [hi])).1 (fun b q hb ho => ?_)
  exact ⟨(how_own b r _ hb ho hi).1, how_out b r _ hb ho hi⟩
 ·rcases List.mem_append.1 hmem with hmem | hmem
  ·obtain ⟨k, R', hk, hR', he⟩ := hUu _ hmem
   simp only [Option.some.injEq] at he hk
   obtain ⟨hdd, he⟩ : R'.dead = false ∧ R' = R := by
    rcases he with ⟨_, he⟩ | ⟨h1, he⟩
    ·cases he
    ·exact ⟨h1, he.symm⟩
   subst he
   obtain ⟨R0, R1, h1, h2, h3⟩ := hUr k r hk
   rw [hR'] at h2
   cases h2
   obtain ⟨_, h3, h4, h5, h6, h7, _⟩ := h3.resolve_left (fun h => by rw [hdd] at h; cases h.1)
   have hRk := hRR k R' hR' hdd
   obtain ⟨R0', hg0, hG0, hf0, _⟩ := hGr k r hk
   rw [h1] at hG0
   cases hG0
   have hgn := hlive k r R' hk hR' hdd
   have hr := hst r (hold r (by rw [hown k r hk]; simp)) hgn
   refine ⟨by rw [hr.1, hown k r hk, h6]; rfl, by rw [hr.2.2, (hg _ _ hg0).len]; exact h3.symm, hRk.n, hRk.wd, hRk.nobox, fun h0 => hshpin k r _ hk hgn (hRk.shp h0), fun i j x c hx hj => ?_⟩
   obtain ⟨u, hu, hrep⟩ := hRk.cell i j x c hx hj
   refine ⟨u, by rw [hr.2.1, ← hadr k r hk]; exact hu, ?_⟩
   have hnfc : cl = true ∨ c.nf := hnf.imp id fun h => nf_cells (nfL_mem (nfG_mem h.2 R' (List.mem_of_getElem? hR')) x (List.mem_of_getElem? hx)) (List.mem_of_getElem? hj)
   unfold Root.md at hrep ⊢
   rw [h6] at hrep ⊢
   simp only [Bool.false_eq_true, if_false] at hrep ⊢
   split at hrep
   ·rename_i hbox
    rw [if_pos hbox]
    refine hrep.back (cl := cl = true) hfzc (.inr (.inr ⟨_, _, _, _, rfl, rfl, hLab k r _ hk, hnfc, ?_⟩))
    unfold rless at h7
    rw [if_pos hbox] at h7
    split at h7
    ·rename_i ds hds
     rw [hds] at hx
     cases i with
     | zero =>
      simp only [List.getElem?_cons_zero, Option.some.injEq] at hx
      subst hx
      exact List.all_eq_true.1 h7 c (List.mem_of_getElem? hj)
     | succ i => simp at hx
    ·cases h7
   ·rename_i hbox
    rw [if_neg hbox]
    exact hrep.back (cl := cl = true) hfzc (.inr (.inl ⟨_, _, _, _, rfl, rfl, hLab k r _ hk, hnfc⟩))
  ·obtain ⟨j, wd, n, xs, hc, he⟩ := news_mem hmem
   simp only [Prod.mk.injEq, Option.some.injEq] at he
   obtain ⟨rfl, rfl⟩ := he
   have hlt' : j < vs.length := by rw [hfl]; exact (List.getElem?_eq_some_iff.1 hc).1
   exact (hone j _ _ hc (List.getElem?_eq_getElem hlt')).2 wd n xs rfl
 ·cases hn : newAt nid cs vs r with
  | none =>
   have hgn : gone ins G' r = false := by
    cases hgn : gone ins G' r with
    | false => rfl
    | true =>
     unfold gone at hgn
     split at hgn
     ·rename_i k hi
      obtain ⟨i, _, hk⟩ := idx_some hi
      obtain ⟨_, R', _, _, hmem⟩ := hUr i r hk
      rcases hmem with ⟨_, hmem⟩ | ⟨_, _, _, _, _, _, hmem⟩
      ·exact absurd rfl (hr _ (List.mem_append_left _ hmem))
      ·exact absurd rfl (hr _ (List.mem_append_left _ hmem))
     ·cases hgn
   rw [(hst r hn hgn).1]; exact h
  | some x =>
   obtain ⟨j, wd, n, xs, A, m, cap, rfl, h1, _⟩ := newAt_some hn
   exact absurd rfl (hr _ (List.mem_append_right _ (mem_news h1)))
 ·exact (hM.ref r (by rw [hr]; simp) (.inl hr')).2.2.2 N h
 ·cases hn : newAt nid cs vs r with
  | none =>
   cases hgn : gone ins G' r with
   | false => rw [(hst r hn hgn).1] at h; exact .inr h
   | true => rw [hstD r hn hgn] at h; cases h
  | some x => exact .inl (hnewf _ _ hn)
 ·obtain ⟨h1, h2⟩ := hRes.take (E2 := E2) (w' := w') (id := nid) (fun j c x hc hx => (hone j c x (by rw [← hcs]; exact hc) (by rw [← hvs]; exact hx)).1)
  exact pack_rep h1 h2

end
end Go.Proofs.YtogomlkoocbhcaaDoor.Ab
