/- The steps of functions on plain data, part 2: no condition. -/
import Derived.Test.YtlniejjcejackaaAb1
set_option linter.unusedVariables false
set_option linter.unusedSimpArgs false
namespace Go.Proofs.Ytlniejjcejackaa.Ab

theorem AllP_app : ∀ {ps qs : List Prop}, AllP ps → AllP qs → AllP (ps ++ qs)
  | [], _, _, h => h
  | _ :: _, _, h, h' => ⟨h.1, AllP_app h.2 h'⟩

theorem AllP_append {ps qs : List Prop} (h : AllP (ps ++ qs)) : AllP ps ∧ AllP qs := by
  induction ps with
  | nil => exact ⟨trivial, h⟩
  | cons p ps ih => exact ⟨⟨h.1, (ih h.2).1⟩, (ih h.2).2⟩

section
variable {X : Ctx} {o : Oper} {E E' : Env} {w w' : World} {a : Act} {ρ : Operand → Option D} {g : Nat → Option Root} {nid : Nat}

theorem srcOf_ok (H : Hyp X E w a ρ g nid) {te : TI} {k' : TK} {dx : D} {keep : Bool} {zs : List D} {m : Nat} {ps : List Prop} {rx : Option Nat} {tx : Nat} {y : Operand} (h : srcOf te k' dx g keep = some (zs, m, ps, rx)) (hk : kindOf X.P tx = some k') (hy : ρ y = some dx) (hp : AllP ps) :
    SrcD X.P E w rx tx te.size zs m (a.eval y) ∧ ∀ s, rx = some s → ∃ R, g s = some R ∧ R.fz = false := by
  have hr := H.op _ _ hy
  unfold srcOf at h
  split at h
  · -- nil
    simp only [Option.some.injEq, Prod.mk.injEq] at h
    obtain ⟨rfl, rfl, rfl, rfl⟩ := h
    rw [hr.nil_inv]
    exact ⟨slice_src (kind_slice hk) rfl (by simp) (fun h => by omega), by simp⟩
  · split at h
    · rename_i hw
      simp only [Option.some.injEq, Prod.mk.injEq] at h
      obtain ⟨rfl, rfl, rfl, rfl⟩ := h
      have hw := Nat.eq_of_beq_eq_true hw
      obtain ⟨A, cap, us, hv, hlen, hcap, hwd, ha, hrr⟩ := hr.list_inv (.inl rfl)
      rw [hv]
      refine ⟨slice_src (kind_slice hk) hlen (by rw [← hw]; exact hwd) (fun h0 => ?_), by simp⟩
      obtain ⟨b, rfl, _, _, hc⟩ := ha h0
      refine ⟨b, rfl, fun i j x c hx hj => ⟨us i j, by rw [← hw]; exact hc i j x c hx hj, (hrr i j x c hx hj).one (.inl rfl), .inr ⟨?_, (hrr i j x c hx hj).lift (.inl rfl)⟩⟩⟩
      exact hp.1 x (List.mem_of_getElem? hx) c (List.mem_of_getElem? hj)
    · cases h
  · split at h
    · rename_i e0 rx0 w0 _ R hg
      obtain ⟨hg', hRw⟩ := gw_some hg
      split at h
      · cases h
      · rename_i hbw
        simp only [Bool.or_eq_true, Bool.not_eq_true', not_or, Bool.not_eq_true, Bool.not_eq_false] at hbw
        obtain ⟨hbox, hw⟩ := hbw
        have hw := Nat.eq_of_beq_eq_true hw
        have hR := H.rt _ _ hg'
        obtain ⟨_, hst, hal⟩ := hr.ref_inv
        obtain ⟨A, cap, hv, hcap, hlen, ha⟩ := hal hR.alive
        rw [vw_eq hR none] at hv hcap hlen ha
        simp only [vlo, vln, Nat.zero_mul, Nat.zero_add] at hv hcap hlen ha
        have hadd : ∀ b : Addr, b.add 0 = b := fun b => by simp [Addr.add]
        rw [hadd] at ha
        split at h
        · simp only [Option.some.injEq, Prod.mk.injEq] at h
          obtain ⟨rfl, rfl, rfl, rfl⟩ := h
          rw [hv]
          refine ⟨slice_src (kind_slice hk) hR.n (by rw [← hRw]; exact hR.wd) (fun h0 => ⟨_, (ha (by omega)).1, fun i j x c hx hj => ?_⟩), by simp⟩
          obtain ⟨u, hu, hrr⟩ := hR.cell i j x c hx hj
          have hpl := hp.1 x (List.mem_of_getElem? hx) c (List.mem_of_getElem? hj)
          refine ⟨u, by rw [← hRw]; exact hu, hrr.one ?_, .inr ⟨hpl, hrr.lift (.inr ?_)⟩⟩
          · unfold Root.md
            split
            · exact .inl rfl
            · rw [hbox]; exact .inr ⟨_, _, rfl⟩
          · unfold D.plain at hpl
            split at hpl <;> first | rfl | cases hpl
        · split at h
          · cases h
          · rename_i hfz
            have hfz : R.fz = false := by simpa using hfz
            simp only [Option.some.injEq, Prod.mk.injEq] at h
            obtain ⟨rfl, rfl, rfl, rfl⟩ := h
            rw [hv]
            refine ⟨slice_src (kind_slice hk) hR.n (by rw [← hRw]; exact hR.wd) (fun h0 => ⟨_, (ha (by omega)).1, fun i j x c hx hj => ?_⟩), fun s hs => by cases hs; exact ⟨R, hg', hfz⟩⟩
            obtain ⟨u, hu, hrr⟩ := hR.cell i j x c hx hj
            have hrr' : Rep E w (.own rx0 [(i, j)]) c u := by simpa [Root.md, hfz, hbox] using hrr
            exact ⟨u, by rw [← hRw]; exact hu, hrr'.one (.inr ⟨_, _, rfl⟩), .inl ⟨_, rfl, hrr'⟩⟩
    · cases h
  · split at h
    · rename_i lo n _ R hg
      obtain ⟨hg', hRw⟩ := gw_some hg
      split at h
      · cases h
      · rename_i hbw
        simp only [Bool.or_eq_true, Bool.not_eq_true', not_or, Bool.not_eq_true, Bool.not_eq_false] at hbw
        obtain ⟨⟨hbox, hw⟩, _⟩ := hbw
        have hw := Nat.eq_of_beq_eq_true hw
        have hR := H.rt _ _ hg'
        obtain ⟨_, hst, hal⟩ := hr.ref_inv
        obtain ⟨A, cap, hv, hcap, hlen, ha⟩ := hal hR.alive
        simp only [Vw] at hv hcap hlen ha
        simp only [Option.some.injEq, Prod.mk.injEq] at h
        obtain ⟨rfl, rfl, rfl, rfl⟩ := h
        rw [hv]
        refine ⟨slice_src (kind_slice hk) (by simp [hR.n]; have := hR.len; omega) (fun x hx => by rw [← hRw]; exact hR.wd x (List.mem_of_mem_drop (List.mem_of_mem_take hx))) (fun h0 => ⟨_, (ha (by omega)).1, fun i j x c hx hj => ?_⟩), by simp⟩
        have hx' := (take_drop_get hx).1
        obtain ⟨u, hu, hrr⟩ := hR.cell _ j x c hx' hj
        have hpl := hp.1 x (List.mem_of_getElem? hx') c (List.mem_of_getElem? hj)
        refine ⟨u, ?_, hrr.one ?_, .inr ⟨hpl, hrr.lift (.inr ?_)⟩⟩
        · rw [add_add, hw, ← hRw, show _ * R.w + (i * R.w + j) = (_ + i) * R.w + j by rw [Nat.add_mul]; exact (Nat.add_assoc _ _ _).symm]
          exact hu
        · unfold Root.md
          split
          · exact .inl rfl
          · rw [hbox]; exact .inr ⟨_, _, rfl⟩
        · unfold D.plain at hpl
          split at hpl <;> first | rfl | cases hpl
    · cases h
  · split at h
    · split at h
      · rename_i hs1
        simp only [Option.some.injEq, Prod.mk.injEq] at h
        obtain ⟨rfl, rfl, rfl, rfl⟩ := h
        rw [hr.str_inv, Nat.eq_of_beq_eq_true hs1]
        exact ⟨str_src (kind_str hk), by simp⟩
      · cases h
    · cases h
  · cases h

theorem dstOf_ok (H : Hyp X E w a ρ g nid) {te : TI} {ds : D} {ys : List D} {n : Nat} {r : Option Nat} {y : Operand} (h : dstOf te ds g = some (ys, n, r)) (hy : ρ y = some ds) :
    ∃ lo A cap, DstD E w r lo n te.size ys A cap ∧ a.eval y = .slice A n cap ∧ ∀ s, r = some s → ∃ R, g s = some R := by
  have hr := H.op _ _ hy
  unfold dstOf at h
  split at h
  · simp only [Option.some.injEq, Prod.mk.injEq] at h
    obtain ⟨rfl, rfl, rfl⟩ := h
    exact ⟨0, none, 0, .inl ⟨rfl, rfl, rfl, rfl, rfl⟩, hr.nil_inv, by simp⟩
  · split at h
    · rename_i R hg
      obtain ⟨hg', hRw⟩ := gw_some hg
      split at h
      · cases h
      · rename_i hbw
        simp only [Bool.or_eq_true, Bool.not_eq_true', not_or, Bool.not_eq_true, Bool.not_eq_false] at hbw
        obtain ⟨⟨hfz, hbox⟩, hw⟩ := hbw
        have hw := Nat.eq_of_beq_eq_true hw
        subst hw
        have hR := H.rt _ _ hg'
        obtain ⟨_, hst, hal⟩ := hr.ref_inv
        obtain ⟨A, cap, hv, hcap, hlen, ha⟩ := hal hR.alive
        rw [vw_eq hR none] at hv hcap hlen ha
        simp only [vlo, vln] at hv hcap hlen ha
        simp only [Option.some.injEq, Prod.mk.injEq] at h
        obtain ⟨rfl, rfl, rfl⟩ := h
        exact ⟨0, A, cap, .inr ⟨_, R, rfl, hR, hfz, hbox, hRw, hcap, by omega, by rw [List.drop_zero, List.take_of_length_le (by rw [hR.n]; exact Nat.le_refl _)], ha⟩, hv, fun s hs => by cases hs; exact ⟨R, hg'⟩⟩
    · cases h
  · split at h
    · rename_i lo n _ R hg
      obtain ⟨hg', hRw⟩ := gw_some hg
      split at h
      · cases h
      · rename_i hbw
        simp only [Bool.or_eq_true, Bool.not_eq_true', not_or, Bool.not_eq_true, Bool.not_eq_false] at hbw
        obtain ⟨⟨hfz, hbox⟩, hw⟩ := hbw
        have hw := Nat.eq_of_beq_eq_true hw
        subst hw
        have hR := H.rt _ _ hg'
        obtain ⟨_, hst, hal⟩ := hr.ref_inv
        obtain ⟨A, cap, hv, hcap, hlen, ha⟩ := hal hR.alive
        simp only [Vw] at hv hcap hlen ha
        simp only [Option.some.injEq, Prod.mk.injEq] at h
        obtain ⟨rfl, rfl, rfl⟩ := h
        exact ⟨_, A, cap, .inr ⟨_, R, rfl, hR, hfz, hbox, hRw, hcap, by have := hR.len; omega, rfl, ha⟩, hv, fun s hs => by cases hs; exact ⟨R, hg'⟩⟩
    · cases h
  · cases h

theorem does_append (H : Hyp X E w a ρ g nid) (hf : E.st nid = .fresh) {c : Call} {t t' e : Nat} {k' : TK} {x y : Operand} {te : TI} {ds dx : D} {h : Hint} {out : Out} (ho : o.op = .call c) (hc : c.callee = .builtin .append) (hts : c.argTypes.toList = [t, t']) (has : c.args.toList = [x, y])
    (ht : kAt X.T t = some (.slice e)) (ht' : kAt X.T t' = some k') (hte : look e X.T = some te) (hx : ρ x = some ds) (hy : ρ y = some dx) (hs : appD te k' ds dx g nid h = some out) (hp : AllP out.ps) : Does X o E w a out := by
  unfold appD at hs
  split at hs
  · cases hs
  · rename_i hchk
    simp only [Bool.not_eq_true', Bool.not_eq_false, Bool.and_eq_true] at hchk
    obtain ⟨⟨⟨_, hz⟩, h0⟩, hb⟩ := hchk
    have hz := Nat.eq_of_beq_eq_true hz
    have h0' : 0 < te.size := by simp [Nat.blt] at h0; omega
    have hb' : 0 < te.bytes := by simp [Nat.blt] at hb; omega
    obtain ⟨inf, z, hT⟩ := tyOK H.T hte
    split at hs
    · rename_i zs m ps rx ys n r hsrc hdst
      split at hs
      · cases hs
      · rename_i hso
        cases hs
        simp only at hp
        obtain ⟨hp1, hp2⟩ := AllP_append hp
        simp only [AllP, and_true] at hp2
        obtain ⟨e1, e2, e3⟩ := hp2
        obtain ⟨hS, hSg⟩ := srcOf_ok H hsrc (kAt_ok H ht') hy hp1
        obtain ⟨lo, A, cap, hD, hv, hDg⟩ := dstOf_ok H hdst hx
        have hzsz : z.cells.size = te.size := by
          have := (ofVal_cells (E := E) (w := w) z).1
          rw [← hT.zeroD, hz] at this
          exact this.symm
        have hne : ∀ s, r = some s → rx ≠ some s := fun s h1 h2 => by
          subst h1 h2
          simp [sameO] at hso
        intro K Q k
        have hnr : ∀ s, r = some s → s ≠ nid := fun s hs' e => by
          obtain ⟨R, hR⟩ := hDg s hs'
          have := H.lt _ _ hR
          omega
        obtain ⟨v', w', E', hrun, hE, hrep⟩ := append_core (ty := o.type) (us := dead rx ++ (dead r ++ [(nid, some ⟨false, false, te.size, h.n, h.xs⟩)])) hT hzsz (kind_slice (kAt_ok H ht)) hD hv hS hne
          (fun s hs' => by
            obtain ⟨R, hR, hfz⟩ := hSg s hs'
            have := (H.rt _ _ hR).st
            rw [hfz] at this
            exact this) hf h0' hb' e2
          (fun s R hmem => by
            rw [e1, ← e3] at hmem
            simp only [List.mem_append, List.mem_cons, List.not_mem_nil, or_false, Prod.mk.injEq, Option.some.injEq] at hmem
            rcases hmem with hmem | hmem | hmem
            · cases rx <;> simp [dead] at hmem
            · cases r <;> simp [dead] at hmem
            · exact hmem)
          (fun s hs' => by
            rcases hs' with rfl | rfl
            · exact ⟨(s, none), by simp [dead], rfl⟩
            · exact ⟨(s, none), by simp [dead], rfl⟩) ⟨(nid, _), List.mem_append_right _ (List.mem_append_right _ (List.mem_singleton.2 rfl)), rfl⟩
        have hts' : c.argTypes = #[t, t'] := by rw [← Array.toArray_toList (xs := c.argTypes), hts]
        have has' : c.args = #[x, y] := by rw [← Array.toArray_toList (xs := c.args), has]
        refine wp_val (v := v') (run_builtin ho hc ?_) (k E' w' v' hE hrep)
        simp only [builtin, hts', has', Sem.run_bind]
        simp [hrun]
    · cases hs

end
end Go.Proofs.Ytlniejjcejackaa.Ab

namespace Go.Proofs.Ytlniejjcejackaa.Ab

section
variable {X : Ctx} {o : Oper} {E E' Ec : Env} {w w' : World} {a : Act} {ρ : Operand → Option D} {g : Nat → Option Root} {nid : Nat}

/-! ### Whoever was said to own it -/
theorem erL_map : ∀ xs : List D, erL xs = xs.map D.er
  | [] => rfl
  | x :: r => by simp [erL, erL_map r]

theorem er_get {xs ys : List D} (h : erL xs = erL ys) {i : Nat} {y : D} (hy : ys[i]? = some y) : ∃ x, xs[i]? = some x ∧ x.er = y.er := by
  rw [erL_map, erL_map] at h
  have h1 : (ys.map D.er)[i]? = some y.er := by rw [List.getElem?_map, hy]; rfl
  rw [← h, List.getElem?_map, Option.map_eq_some_iff] at h1
  exact h1

theorem er_len {xs ys : List D} (h : erL xs = erL ys) : xs.length = ys.length := by
  rw [erL_map, erL_map] at h
  have := congrArg List.length h
  simpa using this

theorem er_cells {x y : D} (h : x.er = y.er) : erL x.cells = erL y.cells := by
  cases x <;> cases y <;> simp [D.er] at h <;> simp [D.cells, erL, D.er, h]

theorem er_widths {xs ys : List D} (h : erL xs = erL ys) {wd : Nat} (hw : ∀ x ∈ xs, x.cells.length = wd) : ∀ y ∈ ys, y.cells.length = wd := fun y hy => by
  obtain ⟨i, hi⟩ := List.getElem?_of_mem hy
  obtain ⟨x, hx, he⟩ := er_get h hi
  rw [← er_len (er_cells he)]
  exact hw x (List.mem_of_getElem? hx)

theorem Rep.er {m : Md} {d : D} {v : Value} (h : Rep E w m d v) : m = .fz → ∀ d', d.er = d'.er → Rep E w .fz d' v := by
  induction h with
  | int m k n => intro hm d' hd; cases d' <;> simp [D.er] at hd; obtain ⟨rfl, rfl⟩ := hd; exact .int _ _ _
  | bool m b => intro hm d' hd; cases d' <;> simp [D.er] at hd; subst hd; exact .bool _ _
  | str m s => intro hm d' hd; cases d' <;> simp [D.er] at hd; subst hd; exact .str _ _
  | nil m => intro hm d' hd; cases d' <;> simp [D.er] at hd; exact .nil _
  | undef m v h => intro hm; subst hm; rcases h with h | ⟨_, _, h⟩ <;> cases h
  | hid m v _ _ h => intro hm; subst hm; rcases h with h | ⟨_, _, h⟩ <;> cases h
  | anyb b => intro hm; cases hm
  | fn f caps vs hl h ih => intro hm; cases hm
  | agg cs vs hl h ih => intro hm; cases hm
  | tup cs vs hl h ih => intro hm; cases hm
  | flist m o wd n xs A cap us hm' hn hc hw ha h ih =>
    intro hm d' hd
    cases d' <;> simp [D.er] at hd
    rename_i o' wd' n' xs'
    obtain ⟨rfl, rfl, he⟩ := hd
    have key : ∀ (i j : Nat) y c, xs'[i]? = some y → y.cells[j]? = some c → ∃ x c0, xs[i]? = some x ∧ x.cells[j]? = some c0 ∧ c0.er = c.er := fun i j y c hy hc' => by
      obtain ⟨x, hx, hxe⟩ := er_get he hy
      obtain ⟨c0, hc0, hce⟩ := er_get (er_cells hxe) hc'
      exact ⟨x, c0, hx, hc0, hce⟩
    refine .flist _ _ _ _ _ _ _ us (.inr (.inl rfl)) (by rw [← er_len he]; exact hn) hc (er_widths he hw) (fun h0 => ?_) (fun i j y c hy hc' => ?_)
    · obtain ⟨b, hb, h1, h2, h3⟩ := ha h0
      refine ⟨b, hb, h1, h2, fun i j y c hy hc' => ?_⟩
      obtain ⟨x, c0, hx, hc0, _⟩ := key i j y c hy hc'
      exact h3 i j x c0 hx hc0
    · obtain ⟨x, c0, hx, hc0, hce⟩ := key i j y c hy hc'
      exact ih i j x c0 hx hc0 rfl c hce
  | olist m r p wd n xs A cap us hm' hn hc hw ha h ih => intro hm; subst hm; rcases hm' with h | h <;> cases h
  | ref m r wd vw v hm' hs h => intro hm; subst hm; rcases hm' with h | ⟨_, _, h⟩ <;> cases h
  | ptr m r wd i j v hm' hs h => intro hm; subst hm; rcases hm' with h | ⟨_, _, h⟩ <;> cases h
  | fptr m wd xs i j a us hm' hw ha h ih => intro hm; subst hm; rcases hm' with h | ⟨_, _, h⟩ <;> cases h

/-! ### What the callee sees -/
theorem idx_some {r : Nat} : ∀ {ins : List Nat} {b k : Nat}, idx r b ins = some k → ∃ i, k = b + i ∧ ins[i]? = some r
  | [], b, k, h => by simp [idx] at h
  | x :: xs, b, k, h => by
    simp only [idx] at h
    split at h
    · rename_i hx
      cases h
      exact ⟨0, rfl, by rw [Nat.eq_of_beq_eq_true hx]; rfl⟩
    · obtain ⟨i, rfl, hi⟩ := idx_some h
      exact ⟨i + 1, by omega, by simpa using hi⟩

theorem distinct_any {x : Nat} {r : List Nat} (h : r.any (Nat.beq x) = false) : x ∉ r := fun hm => by
  have := List.any_eq_false.1 h x hm
  simp [Nat.beq_refl] at this

theorem idx_of {r : Nat} : ∀ {ins : List Nat} {b i : Nat}, distinct ins = true → ins[i]? = some r → idx r b ins = some (b + i)
  | [], b, i, _, h => by simp at h
  | x :: xs, b, i, hd, h => by
    simp only [distinct, Bool.and_eq_true, Bool.not_eq_true'] at hd
    obtain ⟨h1, h2⟩ := hd
    simp only [idx]
    cases i with
    | zero =>
      simp only [List.getElem?_cons_zero, Option.some.injEq] at h
      subst h
      rw [if_pos (Nat.beq_refl x)]
      rfl
    | succ i =>
      have h' : xs[i]? = some r := by simpa using h
      have hne : ¬ Nat.beq x r = true := fun e => by
        have := Nat.eq_of_beq_eq_true e
        subst this
        exact distinct_any h1 (List.mem_of_getElem? h')
      rw [if_neg hne, idx_of h2 h']
      congr 1
      omega

theorem idx_none {r : Nat} : ∀ {ins : List Nat} {b : Nat}, ins.any (Nat.beq r) = false → idx r b ins = none
  | [], b, _ => rfl
  | x :: xs, b, h => by
    simp only [List.any_cons, Bool.or_eq_false_iff] at h
    simp only [idx]
    have hne : ¬ Nat.beq x r = true := fun e => by
      have := Nat.eq_of_beq_eq_true e
      subst this
      simp [Nat.beq_refl] at h
    rw [if_neg hne]
    exact idx_none h.2

def Env.sub (E : Env) (cl : Bool) (ins : List Nat) : Env :=
  { adr := fun k => match ins[k]? with | some r => E.adr r | none => ⟨0, 0, none⟩
    len := fun k => match ins[k]? with | some r => E.len r | none => 0
    ow := fun b => match E.ow b with
      | .own r p => (match idx r 0 ins with | some k => .own k p | none => if cl then .far else .fz)
      | x => x
    st := fun k => match ins[k]? with | some _ => .own | none => .fresh }

/-- What is seen, to be read only. -/
theorem Rep.seen {cl : Bool} {ins : List Nat} {m : Md} {d : D} {v : Value} (h : Rep E w m d v) : (m = .fz ∨ ∃ r p, m = .own r p ∧ idx r 0 ins = none ∧ cl = false) → Rep (E.sub cl ins) w .fz d v := by
  induction h with
  | int m k n => intro _; exact .int _ _ _
  | bool m b => intro _; exact .bool _ _
  | str m s => intro _; exact .str _ _
  | nil m => intro _; exact .nil _
  | undef m v h => intro hm; rcases hm with rfl | ⟨_, _, rfl, _⟩ <;> rcases h with h | ⟨_, _, h⟩ <;> cases h
  | hid m v _ _ h => intro hm; rcases hm with rfl | ⟨_, _, rfl, _⟩ <;> rcases h with h | ⟨_, _, h⟩ <;> cases h
  | anyb b => intro hm; rcases hm with hm | ⟨_, _, hm, _⟩ <;> cases hm
  | fn f caps vs hl h ih => intro hm; rcases hm with hm | ⟨_, _, hm, _⟩ <;> cases hm
  | agg cs vs hl h ih => intro hm; rcases hm with hm | ⟨_, _, hm, _⟩ <;> cases hm
  | tup cs vs hl h ih => intro hm; rcases hm with hm | ⟨_, _, hm, _⟩ <;> cases hm
  | flist m o wd n xs A cap us hm' hn hc hw ha h ih =>
    intro _
    refine .flist _ _ _ _ _ _ _ us (.inr (.inl rfl)) hn hc hw (fun h0 => ?_) (fun i j x c hx hj => ih i j x c hx hj (.inl rfl))
    obtain ⟨b, hb, h1, h2, h3⟩ := ha h0
    exact ⟨b, hb, by simp [Env.sub, h1], h2, h3⟩
  | olist m r p wd n xs A cap us hm' hn hc hw ha h ih =>
    intro hm
    have hr : idx r 0 ins = none ∧ cl = false := by
      rcases hm with rfl | ⟨r', p', rfl, hi⟩
      · rcases hm' with h | h <;> cases h
      · rcases hm' with h | h <;> cases h
        exact hi
    refine .flist _ _ _ _ _ _ _ us (.inr (.inl rfl)) hn hc hw (fun h0 => ?_) (fun i j x c hx hj => ih i j x c hx hj (.inr ⟨r, _, rfl, hr.1, hr.2⟩))
    obtain ⟨b, cs, ty, hb, h1, h2, h3, h4, h5⟩ := ha (by omega)
    exact ⟨b, hb, by simp [Env.sub, h2, hr.1, hr.2], lt_of_get h3, h5⟩
  | ref m r wd vw v h' hs h => intro hm; rcases hm with rfl | ⟨_, _, rfl, _⟩ <;> rcases h' with h | ⟨_, _, h⟩ <;> cases h
  | ptr m r wd i j v h' hs h => intro hm; rcases hm with rfl | ⟨_, _, rfl, _⟩ <;> rcases h' with h | ⟨_, _, h⟩ <;> cases h
  | fptr m wd xs i j a us h' hw ha h ih => intro hm; rcases hm with rfl | ⟨_, _, rfl, _⟩ <;> rcases h' with h | ⟨_, _, h⟩ <;> cases h

theorem RootRel.seen_ow {cl : Bool} {ins : List Nat} {r : Nat} {R : Root} (h : RootRel E w r R) (hv : R.fz = true ∨ cl = false) (hi : idx r 0 ins = none) (h0 : 0 < R.n) : (E.sub cl ins).ow (E.adr r).block = .fz := by
  have h1 := (h.shp h0).2.1
  rw [h.st] at h1
  cases hf : R.fz with
  | true => simp [hf] at h1; simp [Env.sub, h1]
  | false =>
    simp [hf] at h1
    have hc : cl = false := hv.resolve_left (by simp [hf])
    simp [Env.sub, h1, hi, hc]

/-- A root, as a slice that is only read. -/
theorem RootRel.seen {cl : Bool} {ins : List Nat} {r : Nat} {R : Root} (h : RootRel E w r R) (hv : R.fz = true ∨ cl = false) (hbox : R.box = false) (hi : idx r 0 ins = none) {lo n cap : Nat} {A : Option Addr} (hn : lo + n ≤ R.n) (hc : n ≤ cap) (hA : 0 < cap → A = some ((E.adr r).add (lo * R.w))) {xs : List D} (he : erL ((R.xs.drop lo).take n) = erL xs) :
    Rep (E.sub cl ins) w .slot (.list false R.w n xs) (.slice A n cap) := by
  have hlen : ((R.xs.drop lo).take n).length = n := by simp [h.n]; omega
  have h0 : ∃ us : Nat → Nat → Value, ∀ (i j : Nat) x c, ((R.xs.drop lo).take n)[i]? = some x → x.cells[j]? = some c → w.cell? ((E.adr r).add ((lo + i) * R.w + j)) = some (us i j) ∧ Rep E w (R.md r (lo + i) j) c (us i j) := by
    refine ⟨fun i j => (w.cell? ((E.adr r).add ((lo + i) * R.w + j))).getD undef, fun i j x c hx hj => ?_⟩
    obtain ⟨u, hu, hr⟩ := h.cell (lo + i) j x c (take_drop_get hx).1 hj
    refine ⟨by simp [hu], ?_⟩
    simp only [hu, Option.getD_some]
    exact hr
  obtain ⟨us, hus⟩ := h0
  have hsl : Rep (E.sub cl ins) w .fz (.list false R.w n ((R.xs.drop lo).take n)) (.slice A n cap) := by
    refine .flist _ _ _ _ _ _ _ us (.inr (.inl rfl)) hlen hc (fun x hx => h.wd x (List.mem_of_mem_drop (List.mem_of_mem_take hx))) (fun h0 => ?_) (fun i j x c hx hj => (hus i j x c hx hj).2.seen ?_)
    · refine ⟨_, hA (by omega), ?_, ?_, fun i j x c hx hj => ?_⟩
      · rw [add_block]
        exact h.seen_ow hv hi (by omega)
      · rw [add_block]
        obtain ⟨_, _, cs, ty, hh, _⟩ := h.shp (by omega)
        exact lt_of_get hh
      · rw [add_add, show lo * R.w + (i * R.w + j) = (lo + i) * R.w + j by rw [Nat.add_mul]; omega]
        exact (hus i j x c hx hj).1
    · unfold Root.md
      split
      · exact .inl rfl
      · rename_i hfz
        rw [hbox]
        exact .inr ⟨r, _, rfl, hi, hv.resolve_left hfz⟩
  exact (hsl.er rfl (.list false R.w n xs) (by simp [D.er, he])).lift (.inl rfl)

end
end Go.Proofs.Ytlniejjcejackaa.Ab

namespace Go.Proofs.Ytlniejjcejackaa.Ab

section
variable {E : Env} {w : World} {g : Nat → Option Root} {cl : Bool} {ins : List Nat}

theorem Rep.fzc {d : D} {v : Value} (h : Rep E w .slot d v) (hd : d.fzc = true) : Rep E w .fz d v := by
  cases h with
  | int m k n => exact .int _ _ _
  | bool m b => exact .bool _ _
  | str m s => exact .str _ _
  | nil m => exact .nil _
  | flist m o wd n xs A cap us hm hn hc hw ha h => exact .flist _ _ _ _ _ _ _ us (.inr (.inl rfl)) hn hc hw ha h
  | olist m r p wd n xs A cap us hm hn hc hw ha h => rcases hm with h | h <;> cases h
  | _ => simp [D.fzc] at hd

theorem sub_at (cl : Bool) {k r : Nat} (h : ins[k]? = some r) : (E.sub cl ins).adr k = E.adr r ∧ (E.sub cl ins).len k = E.len r ∧ (E.sub cl ins).st k = .own := by
  simp [Env.sub, h]

theorem sub_shp (hd : distinct ins = true) {k r : Nat} (h : ins[k]? = some r) (hst : E.st r = .own) {N : Nat} (hs : Shp E w r N) : Shp (E.sub cl ins) w k N := by
  obtain ⟨h1, h2, h3⟩ := sub_at (E := E) cl h
  obtain ⟨s1, s2, cs, ty, s3, s4⟩ := hs
  unfold Shp
  rw [h1, h3, if_pos rfl]
  rw [hst, if_pos rfl] at s2
  refine ⟨s1, ?_, cs, ty, s3, s4⟩
  simp only [Env.sub, s2, idx_of hd h]
  simp

/-- A cell of what is lent. -/
theorem Rep.lent {m : Md} {d : D} {v : Value} (h : Rep E w m d v) (hd : distinct ins = true) {k r : Nat} (hk : ins[k]? = some r) : ∀ {m' : Md}, (m = .fz ∧ m' = .fz) ∨ (∃ p, m = .own r p ∧ m' = .own k p) ∨ (∃ p, m = .box r p ∧ m' = .box k p ∧ d.fzc = true) → Rep (E.sub cl ins) w m' d v := by
  induction h with
  | int m k n => intro m' _; exact .int _ _ _
  | bool m b => intro m' _; exact .bool _ _
  | str m s => intro m' _; exact .str _ _
  | nil m => intro m' _; exact .nil _
  | undef m v h =>
    intro m' hm
    rcases hm with ⟨rfl, _⟩ | ⟨_, rfl, _⟩ | ⟨_, _, _, hf⟩
    · rcases h with h | ⟨_, _, h⟩ <;> cases h
    · rcases h with h | ⟨_, _, h⟩ <;> cases h
    · simp [D.fzc] at hf
  | hid m v _ _ h =>
    intro m' hm
    rcases hm with ⟨rfl, _⟩ | ⟨_, rfl, _⟩ | ⟨_, _, _, hf⟩
    · rcases h with h | ⟨_, _, h⟩ <;> cases h
    · rcases h with h | ⟨_, _, h⟩ <;> cases h
    · simp [D.fzc] at hf
  | anyb b => intro m' hm; rcases hm with ⟨hm, _⟩ | ⟨_, hm, _⟩ | ⟨_, hm, _⟩ <;> cases hm
  | fn f caps vs hl h ih => intro m' hm; rcases hm with ⟨hm, _⟩ | ⟨_, hm, _⟩ | ⟨_, hm, _⟩ <;> cases hm
  | agg cs vs hl h ih => intro m' hm; rcases hm with ⟨hm, _⟩ | ⟨_, hm, _⟩ | ⟨_, hm, _⟩ <;> cases hm
  | tup cs vs hl h ih => intro m' hm; rcases hm with ⟨hm, _⟩ | ⟨_, hm, _⟩ | ⟨_, hm, _⟩ <;> cases hm
  | flist m o wd n xs A cap us hm' hn hc hw ha h ih =>
    intro m' hm
    refine .flist _ _ _ _ _ _ _ us ?_ hn hc hw (fun h0 => ?_) (fun i j x c hx hj => ih i j x c hx hj (.inl ⟨rfl, rfl⟩))
    · rcases hm' with rfl | rfl | rfl
      · rcases hm with ⟨hm, _⟩ | ⟨_, hm, _⟩ | ⟨_, hm, _⟩ <;> cases hm
      · rcases hm with ⟨_, rfl⟩ | ⟨_, hm, _⟩ | ⟨_, hm, _⟩
        · exact .inr (.inl rfl)
        · cases hm
        · cases hm
      · exact .inr (.inr rfl)
    · obtain ⟨b, hb, h1, h2, h3⟩ := ha h0
      exact ⟨b, hb, by simp [Env.sub, h1], h2, h3⟩
  | olist m r0 p wd n xs A cap us hm' hn hc hw ha h ih =>
    intro m' hm
    have key : r0 = r ∧ (m' = .own k p ∨ m' = .box k p) := by
      rcases hm with ⟨rfl, _⟩ | ⟨p0, rfl, rfl⟩ | ⟨p0, rfl, rfl, _⟩
      · rcases hm' with h | h <;> cases h
      · rcases hm' with h | h <;> cases h
        exact ⟨rfl, .inl rfl⟩
      · rcases hm' with h | h <;> cases h
        exact ⟨rfl, .inr rfl⟩
    obtain ⟨rfl, hm2⟩ := key
    refine .olist _ k p _ _ _ _ _ us hm2 hn hc hw (fun h0 => ?_) (fun i j x c hx hj => ih i j x c hx hj (.inr (.inl ⟨_, rfl, rfl⟩)))
    obtain ⟨a, cs, ty, rfl, hsp, ho, hh, hz, hcell⟩ := ha h0
    exact ⟨a, cs, ty, rfl, hsp, by simp [Env.sub, ho, idx_of hd hk], hh, hz, hcell⟩
  | ref m r wd vw v h' hs h => intro m' hm; rcases hm with ⟨rfl, _⟩ | ⟨_, rfl, _⟩ | ⟨_, _, _, hf⟩ <;> first | (rcases h' with h | ⟨_, _, h⟩ <;> cases h; done) | simp [D.fzc] at hf
  | ptr m r wd i j v h' hs h => intro m' hm; rcases hm with ⟨rfl, _⟩ | ⟨_, rfl, _⟩ | ⟨_, _, _, hf⟩ <;> first | (rcases h' with h | ⟨_, _, h⟩ <;> cases h; done) | simp [D.fzc] at hf
  | fptr m wd xs i j a us h' hw ha h ih => intro m' hm; rcases hm with ⟨rfl, _⟩ | ⟨_, rfl, _⟩ | ⟨_, _, _, hf⟩ <;> first | (rcases h' with h | ⟨_, _, h⟩ <;> cases h; done) | simp [D.fzc] at hf

/-- A pointer into rows that are only read. -/
theorem fptr_seen {wd : Nat} {xs xs' : List D} {i j : Nat} {v : Value} (h : Rep E w .slot (.fptr wd xs i j) v) (he : erL xs = erL xs') : Rep (E.sub cl ins) w .slot (.fptr wd xs' i j) v := by
  cases h with
  | fptr m wd xs i j a us hm hw ha h =>
    obtain ⟨h1, h2, h3⟩ := ha
    refine .fptr _ _ _ _ _ _ us (.inl rfl) (er_widths he hw) ⟨by simp [Env.sub, h1], h2, fun i j y c hy hc => ?_⟩ (fun i j y c hy hc => ?_)
    · obtain ⟨x, hx, hxe⟩ := er_get he hy
      obtain ⟨c0, hc0, _⟩ := er_get (er_cells hxe) hc
      exact h3 i j x c0 hx hc0
    · obtain ⟨x, hx, hxe⟩ := er_get he hy
      obtain ⟨c0, hc0, hce⟩ := er_get (er_cells hxe) hc
      exact ((h i j x c0 hx hc0).seen (.inl rfl)).er rfl c hce

theorem list_seen {o : Bool} {wd n : Nat} {xs xs' : List D} {v : Value} (h : Rep E w .slot (.list o wd n xs) v) (he : erL xs = erL xs') : Rep (E.sub cl ins) w .slot (.list false wd n xs') v := by
  have h1 : Rep E w .fz (.list o wd n xs) v := h.fzc rfl
  exact ((h1.seen (.inl rfl)).er rfl (.list false wd n xs') (by simp [D.er, he])).lift (.inl rfl)

/-- A pointer to a root, as a pointer to what is only read. -/
theorem ptr_seen {r : Nat} {R : Root} (h : RootRel E w r R) (hv : R.fz = true ∨ cl = false) (h0 : 0 < R.n) (hi : idx r 0 ins = none) {xs : List D} (hw : ∀ x ∈ xs, x.cells.length = R.w)
    (hx : ∀ (i j : Nat) y c, xs[i]? = some y → y.cells[j]? = some c → ∃ u, w.cell? ((E.adr r).add (i * R.w + j)) = some u ∧ Rep (E.sub cl ins) w .fz c u) (i j : Nat) :
    Rep (E.sub cl ins) w .slot (.fptr R.w xs i j) (.pointer (some ((E.adr r).add (i * R.w + j)))) := by
  have h1 : ∃ us : Nat → Nat → Value, ∀ (i j : Nat) x c, xs[i]? = some x → x.cells[j]? = some c → w.cell? ((E.adr r).add (i * R.w + j)) = some (us i j) ∧ Rep (E.sub cl ins) w .fz c (us i j) := by
    refine ⟨fun i j => (w.cell? ((E.adr r).add (i * R.w + j))).getD undef, fun i j x c hx' hj => ?_⟩
    obtain ⟨u, hu, hr⟩ := hx i j x c hx' hj
    refine ⟨by simp [hu], ?_⟩
    simp only [hu, Option.getD_some]
    exact hr
  obtain ⟨us, hus⟩ := h1
  obtain ⟨_, how, cs, ty, hh, _⟩ := h.shp h0
  exact .fptr _ _ _ _ _ _ us (.inl rfl) hw ⟨h.seen_ow hv hi h0, lt_of_get hh, fun i j x c hx' hj => (hus i j x c hx' hj).1⟩ (fun i j x c hx' hj => (hus i j x c hx' hj).2)

theorem arr_seen {r : Nat} {R : Root} (h : RootRel E w r R) (hv : R.fz = true ∨ cl = false) (hbox : R.box = false) (hi : idx r 0 ins = none) {xs : List D} (he : erL R.xs = erL xs) : ∀ (i j : Nat) y c, xs[i]? = some y → y.cells[j]? = some c →
    ∃ u, w.cell? ((E.adr r).add (i * R.w + j)) = some u ∧ Rep (E.sub cl ins) w .fz c u := fun i j y c hy hc => by
  obtain ⟨x, hx, hxe⟩ := er_get he hy
  obtain ⟨c0, hc0, hce⟩ := er_get (er_cells hxe) hc
  obtain ⟨u, hu, hr⟩ := h.cell i j x c0 hx hc0
  refine ⟨u, hu, (hr.seen ?_).er rfl c hce⟩
  unfold Root.md
  split
  · exact .inl rfl
  · rename_i hfz
    rw [hbox]
    exact .inr ⟨r, _, rfl, hi, hv.resolve_left hfz⟩

theorem lend_ok (hd : distinct ins = true) (hins : ∀ (k : Nat) r, ins[k]? = some r → E.st r = .own) (hg : ∀ r R, g r = some R → RootRel E w r R) : ∀ fuel : Nat,
    (∀ d d' ps v, lend cl g ins fuel d d' = some ps → AllP ps → Rep E w .slot d v → Rep (E.sub cl ins) w .slot d' v) ∧
    (∀ ds ds' ps, lendL cl g ins fuel ds ds' = some ps → AllP ps → ds.length = ds'.length ∧ ∀ (i : Nat) d d' v, ds[i]? = some d → ds'[i]? = some d' → Rep E w .slot d v → Rep (E.sub cl ins) w .slot d' v) := by
  intro fuel
  induction fuel with
  | zero =>
    refine ⟨fun d d' ps v h => by simp [lend] at h, fun ds ds' ps h hp => ?_⟩
    cases ds <;> cases ds' <;> simp [lendL] at h
    exact ⟨rfl, fun i d d' v h => by simp at h⟩
  | succ fuel ih =>
    obtain ⟨ih1, ih2⟩ := ih
    refine ⟨fun d d' ps v h hp hr => ?_, fun ds ds' ps h hp => ?_⟩
    · have noidx : ∀ {r w1 w2 : Nat}, ¬ (ins.any (Nat.beq r) || !Nat.beq w1 w2) = true → idx r 0 ins = none ∧ w1 = w2 := fun hn => by
        simp only [Bool.or_eq_true, Bool.not_eq_true', not_or, Bool.not_eq_true, Bool.not_eq_false] at hn
        exact ⟨idx_none hn.1, Nat.eq_of_beq_eq_true hn.2⟩
      have see : ∀ {R : Root}, ¬ (cl && !R.fz) = true → R.fz = true ∨ cl = false := fun {R} hn => by
        cases hc : cl <;> cases hf : R.fz <;> simp [hc, hf] at hn ⊢
      unfold lend at h
      split at h
      · -- a slice that is lent
        split at h
        · rename_i r' hr'
          split at h
          · rename_i hb
            simp only [Bool.and_eq_true] at hb
            cases h
            obtain ⟨rfl, _⟩ := hp
            have e1 := Nat.eq_of_beq_eq_true hb.1
            have e2 := Nat.eq_of_beq_eq_true hb.2
            subst e1 e2
            have hst := hins _ _ hr'
            obtain ⟨s1, s2, s3⟩ := sub_at (E := E) cl hr'
            obtain ⟨_, _, hal⟩ := hr.ref_inv
            obtain ⟨A, cap, rfl, hcap, hlen, hA⟩ := hal (.inl hst)
            have hV : ∀ vw, Vw (E.sub cl ins) _ vw = Vw E _ vw := fun vw => by cases vw with
              | none => exact congrArg (Prod.mk 0) s2
              | some x => rfl
            refine .ref _ _ _ _ _ (.inl rfl) (by rw [s3]; simp) fun _ => ⟨A, cap, by rw [hV], by rw [hV]; exact hcap, by rw [hV, s2]; exact hlen, fun h0 => ?_⟩
            rw [hV, s1]
            exact ⟨(hA h0).1, sub_shp hd hr' hst (hA h0).2⟩
          · cases h
        · cases h
      · -- a pointer that is lent
        split at h
        · rename_i r' hr'
          split at h
          · rename_i hb
            simp only [Bool.and_eq_true] at hb
            cases h
            obtain ⟨rfl, rfl, _⟩ := hp
            have e1 := Nat.eq_of_beq_eq_true hb.1
            have e2 := Nat.eq_of_beq_eq_true hb.2
            subst e1 e2
            have hst := hins _ _ hr'
            obtain ⟨s1, s2, s3⟩ := sub_at (E := E) cl hr'
            obtain ⟨_, _, hal⟩ := hr.ptr_inv
            refine .ptr _ _ _ _ _ _ (.inl rfl) (by rw [s3]; simp) fun _ => ?_
            rw [s1]
            exact hal (.inl hst)
          · cases h
        · cases h
      · split at h
        · cases h
        · rename_i hn
          obtain ⟨hi, rfl⟩ := noidx hn
          split at h
          · rename_i R hgw
            obtain ⟨hg', hRw⟩ := gw_some hgw
            split at h
            · cases h
            · rename_i hbox
              simp only [Bool.or_eq_true, not_or] at hbox
              obtain ⟨hbox, hsee⟩ := hbox
              cases h
              obtain ⟨rfl, he, _⟩ := hp
              have hR := hg _ _ hg'
              obtain ⟨_, _, hal⟩ := hr.ref_inv
              obtain ⟨A, cap, rfl, hcap, hlen, hA⟩ := hal hR.alive
              rw [vw_eq hR none] at *
              simp only [vlo, vln] at *
              subst hRw
              refine hR.seen (lo := 0) (see hsee) (by simpa using hbox) hi (by omega) hcap (fun h0 => (hA h0).1) ?_
              rw [List.drop_zero, List.take_of_length_le (by rw [hR.n]; exact Nat.le_refl _)]
              exact he
          · cases h
      · split at h
        · cases h
        · rename_i hn
          obtain ⟨hi, rfl⟩ := noidx hn
          split at h
          · rename_i R hgw
            obtain ⟨hg', hRw⟩ := gw_some hgw
            split at h
            · cases h
            · rename_i hbox
              simp only [Bool.or_eq_true, not_or] at hbox
              obtain ⟨hbox, hsee⟩ := hbox
              cases h
              obtain ⟨rfl, he, _⟩ := hp
              have hR := hg _ _ hg'
              obtain ⟨_, _, hal⟩ := hr.ref_inv
              obtain ⟨A, cap, rfl, hcap, hlen, hA⟩ := hal hR.alive
              simp only [Vw] at *
              subst hRw
              exact hR.seen (see hsee) (by simpa using hbox) hi (by rw [← hR.len]; exact hlen) hcap (fun h0 => (hA h0).1) he
          · cases h
      · split at h
        · cases h
        · rename_i hn
          obtain ⟨hi, rfl⟩ := noidx hn
          split at h
          · rename_i R hgw
            obtain ⟨hg', hRw⟩ := gw_some hgw
            have hR := hg _ _ hg'
            have hv := hr.ptr_inv.2.2 hR.alive
            subst hv hRw
            split at h
            · cases h
            rename_i hsee
            split at h
            · rename_i hbox
              split at h
              · rename_i cs cs' hxs
                split at h
                · rename_i hfz
                  simp only [Bool.and_eq_true] at hfz
                  split at h
                  · rename_i qs hq
                    cases h
                    obtain ⟨hp1, hp2⟩ := AllP_append hp
                    obtain ⟨rfl, rfl, _⟩ := hp1
                    obtain ⟨hl, hcells⟩ := ih2 _ _ _ hq hp2
                    have hn1 : R.n = 1 := by rw [← hR.n, hxs]; rfl
                    have hwd : cs.length = R.w := hR.wd (.agg cs) (by rw [hxs]; exact List.mem_singleton.2 rfl)
                    refine ptr_seen hR (see hsee) (by omega) hi (fun x hx => by simp only [List.mem_cons, List.not_mem_nil, or_false] at hx; subst hx; simp only [D.cells]; omega) (fun i j y c hy hc => ?_) _ _
                    cases i with
                    | succ i => simp at hy
                    | zero =>
                      simp only [List.getElem?_cons_zero, Option.some.injEq] at hy
                      subst hy
                      simp only [D.cells] at hc
                      have hlt : j < cs.length := by rw [hl]; exact (List.getElem?_eq_some_iff.1 hc).1
                      have hc0 : cs[j]? = some cs[j] := List.getElem?_eq_getElem hlt
                      obtain ⟨u, hu, hr'⟩ := hR.cell 0 j (.agg cs) _ (by rw [hxs]; rfl) hc0
                      exact ⟨u, hu, (hcells j _ c u hc0 hc (hr'.lift (.inr (List.all_eq_true.1 hfz.1 _ (List.mem_of_getElem? hc0))))).fzc (List.all_eq_true.1 hfz.2 _ (List.mem_of_getElem? hc))⟩
                  · cases h
                · cases h
              · cases h
            · rename_i hbox
              cases h
              obtain ⟨h0, he, rfl, rfl, _⟩ := hp
              exact ptr_seen hR (see hsee) h0 hi (er_widths he hR.wd) (arr_seen hR (see hsee) (by simpa using hbox) hi he) _ _
          · cases h
      · split at h
        · rename_i hb
          cases h
          obtain ⟨he, rfl, rfl, _⟩ := hp
          have := Nat.eq_of_beq_eq_true hb
          subst this
          exact fptr_seen hr he
        · cases h
      · split at h
        · rename_i hb
          have := Nat.eq_of_beq_eq_true hb
          subst this
          obtain ⟨hl, hcells⟩ := ih2 _ _ _ h hp
          cases hr with
          | fn f caps vs hl' h' =>
            refine .fn _ _ _ (by omega) (fun i c u hc hu => ?_)
            have hlt := (List.getElem?_eq_some_iff.1 hc).1
            rw [← hl] at hlt
            exact hcells i _ c u (List.getElem?_eq_getElem hlt) hc (h' i _ u (List.getElem?_eq_getElem hlt) hu)
        · cases h
      · obtain ⟨hl, hcells⟩ := ih2 _ _ _ h hp
        cases hr with
        | agg cs vs hl' h' =>
          refine .agg _ _ (by omega) (fun i c u hc hu => ?_)
          have hlt := (List.getElem?_eq_some_iff.1 hc).1
          rw [← hl] at hlt
          exact hcells i _ c u (List.getElem?_eq_getElem hlt) hc (h' i _ u (List.getElem?_eq_getElem hlt) hu)
      · split at h
        · rename_i hb
          cases h
          obtain ⟨rfl, he, _⟩ := hp
          have := Nat.eq_of_beq_eq_true hb
          subst this
          exact list_seen hr he
        · cases h
      · cases h
        obtain ⟨rfl, rfl, _⟩ := hp
        rw [hr.nil_inv]
        exact .flist _ _ _ _ _ _ _ (fun _ _ => undef) (.inl rfl) rfl (Nat.le_refl _) (by simp) (fun h => by omega) (fun i j x c h => by simp at h)
      · split at h
        · rename_i hk
          cases h
          obtain ⟨rfl, _⟩ := hp
          subst hk
          rw [hr.int_inv]
          exact .int _ _ _
        · cases h
      · cases h
        obtain ⟨rfl, _⟩ := hp
        rw [hr.bool_inv]
        exact .bool _ _
      · cases h
        obtain ⟨rfl, _⟩ := hp
        rw [hr.str_inv]
        exact .str _ _
      · cases h
        rw [hr.nil_inv]
        exact .nil _
      · split at h
        · rename_i ho
          exact .hid _ _ (okc_one hr hg ho) (okc_cells hr hg ho) (.inl rfl)
        · cases h
      · cases h
        exact .undef _ _ (.inl rfl)
      · cases h
    · cases ds <;> cases ds' <;> simp [lendL] at h
      · subst h
        exact ⟨rfl, fun i d d' v h => by simp at h⟩
      · rename_i d r d' r'
        split at h
        · rename_i p q h1 h2
          cases h
          obtain ⟨hp1, hp2⟩ := AllP_append hp
          obtain ⟨hl, hc⟩ := ih2 _ _ _ h2 hp2
          refine ⟨by simp [hl], fun i x x' v hx hx' hr => ?_⟩
          cases i with
          | zero =>
            simp only [List.getElem?_cons_zero, Option.some.injEq] at hx hx'
            subst hx hx'
            exact ih1 _ _ _ v h1 hp1 hr
          | succ i => exact hc i x x' v (by simpa using hx) (by simpa using hx') hr
        · cases h

theorem idx_any {r : Nat} : ∀ {ins : List Nat} {b : Nat}, idx r b ins = none → ins.any (Nat.beq r) = false
  | [], b, _ => rfl
  | x :: xs, b, h => by
    simp only [idx] at h
    split at h
    · cases h
    · rename_i hne
      rw [List.any_cons, idx_any h, Bool.or_false]
      cases hb : Nat.beq r x with
      | false => rfl
      | true => exact absurd (by rw [Nat.eq_of_beq_eq_true hb]; exact Nat.beq_refl x) hne

theorem lendC_ok : ∀ fuel : Nat, (∀ d d', lendC cl g ins fuel d = some d' → ∃ ps, lend cl g ins fuel d d' = some ps ∧ AllP ps) ∧ (∀ ds ds', lendCL cl g ins fuel ds = some ds' → ∃ ps, lendL cl g ins fuel ds ds' = some ps ∧ AllP ps) := by
  intro fuel
  induction fuel with
  | zero =>
    refine ⟨fun d d' h => by simp [lendC] at h, fun ds ds' h => ?_⟩
    cases ds with
    | nil => simp only [lendCL, Option.some.injEq] at h; subst h; exact ⟨[], rfl, trivial⟩
    | cons d r => simp [lendCL] at h
  | succ fuel ih =>
    obtain ⟨ih1, ih2⟩ := ih
    refine ⟨fun d d' h => ?_, fun ds ds' h => ?_⟩
    · unfold lendC at h
      split at h
      · rename_i r wd vw
        split at h
        · rename_i k hk
          cases h
          obtain ⟨i, rfl, hi⟩ := idx_some hk
          rw [Nat.zero_add] at *
          exact ⟨[vw = vw], by simp [lend, hi], rfl, trivial⟩
        · rename_i hk
          have ha := idx_any hk
          split at h
          · rename_i R hg
            split at h
            · cases h
            · rename_i hc
              split at h
              · cases h
                exact ⟨[R.n = R.n, erL R.xs = erL R.xs], by simp [lend, ha, hg, hc], rfl, rfl, trivial⟩
              · rename_i lo n
                cases h
                exact ⟨[n = n, erL ((R.xs.drop lo).take n) = erL ((R.xs.drop lo).take n)], by simp [lend, ha, hg, hc], rfl, rfl, trivial⟩
          · cases h
      · rename_i r wd i j
        split at h
        · rename_i k hk
          cases h
          obtain ⟨q, rfl, hi⟩ := idx_some hk
          rw [Nat.zero_add] at *
          exact ⟨[i = i, j = j], by simp [lend, hi], rfl, rfl, trivial⟩
        · rename_i hk
          have ha := idx_any hk
          split at h
          · rename_i R hg
            split at h
            · cases h
            · rename_i hc
              split at h
              · rename_i hb
                split at h
                · rename_i cs hxs
                  split at h
                  · rename_i hld
                    split at h
                    · rename_i cs' hcs
                      split at h
                      · rename_i hfz
                        cases h
                        obtain ⟨ps, h1, h2⟩ := ih2 _ _ hcs
                        exact ⟨[i = i, j = j] ++ ps, by simp [lend, ha, hg, hc, hb, hxs, hld, hfz, h1], rfl, rfl, h2⟩
                      · cases h
                    · cases h
                  · cases h
                · cases h
              · cases h
          · cases h
      · rename_i wd xs i j
        cases h
        exact ⟨[erL xs = erL xs, i = i, j = j], by simp [lend], rfl, rfl, rfl, trivial⟩
      · rename_i f caps
        split at h
        · rename_i cs hcs
          cases h
          obtain ⟨ps, h1, h2⟩ := ih2 _ _ hcs
          exact ⟨ps, by simp [lend, h1], h2⟩
        · cases h
      · rename_i cs
        split at h
        · rename_i cs' hcs
          cases h
          obtain ⟨ps, h1, h2⟩ := ih2 _ _ hcs
          exact ⟨ps, by simp [lend, h1], h2⟩
        · cases h
      · rename_i o wd n xs
        cases h
        exact ⟨[n = n, erL xs = erL xs], by simp [lend], rfl, rfl, trivial⟩
      · rename_i k n
        cases h
        exact ⟨[n = n], by simp [lend], rfl, trivial⟩
      · rename_i b
        cases h
        exact ⟨[b = b], by simp [lend], rfl, trivial⟩
      · rename_i s
        cases h
        exact ⟨[s = s], by simp [lend], rfl, trivial⟩
      · cases h
        exact ⟨[], by simp [lend], trivial⟩
      · cases h
    · cases ds with
      | nil => simp only [lendCL, Option.some.injEq] at h; subst h; exact ⟨[], rfl, trivial⟩
      | cons d r =>
        simp only [lendCL] at h
        split at h
        · rename_i p q hp hq
          cases h
          obtain ⟨ps, h1, h2⟩ := ih1 _ _ hp
          obtain ⟨qs, h3, h4⟩ := ih2 _ _ hq
          exact ⟨ps ++ qs, by simp [lendL, h1, h3], AllP_app h2 h4⟩
        · cases h

theorem argsC_ok {c : CallH} {args as : List D} {ps : List Prop} (h : argsC c g args = some (ps, as)) (hp : AllP ps) : ∃ qs, lendL c.cl g c.ins 60 args as = some qs ∧ AllP qs := by
  unfold argsC at h
  split at h
  · split at h
    · rename_i as' ha
      cases h
      exact (lendC_ok 60).2 _ _ ha
    · cases h
  · split at h
    · rename_i qs hq
      cases h
      exact ⟨_, hq, hp⟩
    · cases h

end
end Go.Proofs.Ytlniejjcejackaa.Ab

namespace Go.Proofs.Ytlniejjcejackaa.Ab

/-! ### The books after a call -/
def newAt (nid : Nat) (cs : List D) (vs : List Value) (r : Nat) : Option (Addr × Nat) :=
  if nid ≤ r then match cs[r - nid]?, vs[r - nid]? with
    | some (.list true _ _ _), some (.slice A n _) => some (A.getD ⟨0, 0, none⟩, n)
    | _, _ => none
  else none
def bring (ins : List Nat) (nid : Nat) (cs : List D) : Bk → Bk
  | .own k p => match ins[k]? with
    | some r => .own r p
    | none => if k = ins.length then (match p with
      | (q, 0) :: p' => (match cs[q]? with
        | some (.list true _ _ _) => .own (nid + q) p'
        | _ => .far)
      | _ => .far) else .far
  | x => x
/-- Was r lent, and not given back? -/
def gone (ins : List Nat) (G' : List Root) (r : Nat) : Bool := match idx r 0 ins with
  | some k => (match G'[k]? with
    | some R => R.dead
    | none => false)
  | none => false
def Env.back (E E' : Env) (w : World) (ins : List Nat) (G' : List Root) (nid : Nat) (cs : List D) (vs : List Value) : Env :=
  { adr := fun r => match newAt nid cs vs r with | some x => x.1 | none => E.adr r
    len := fun r => match newAt nid cs vs r with | some x => x.2 | none => E.len r
    ow := fun b => if b < w.heap.size then (match E.ow b with
      | .own r p => (match idx r 0 ins with | none => .own r p | some _ => bring ins nid cs (E'.ow b))
      | x => x) else bring ins nid cs (E'.ow b)
    st := fun r => match newAt nid cs vs r with | some _ => .own | none => if gone ins G' r then .dead else E.st r }

section
variable {E E' E2 : Env} {w w' : World}

theorem nfL_mem : ∀ {xs : List D}, nfL xs → ∀ x ∈ xs, x.nf
  | [], _, x, hx => by cases hx
  | y :: ys, h, x, hx => by
    simp only [nfL] at h
    rcases List.mem_cons.1 hx with rfl | hx
    · exact h.1
    · exact nfL_mem h.2 x hx

theorem nf_cells {x c : D} (h : x.nf) (hc : c ∈ x.cells) : c.nf := by
  cases x <;> simp [D.cells] at hc <;> first | (subst hc; exact h) | skip
  simp only [D.nf] at h
  exact nfL_mem h c hc

theorem Rep.back {cl : Prop} (hfz : cl → ∀ b, b < w.heap.size → E.ow b = .fz → E2.ow b = .fz) : ∀ {m : Md} {d : D} {v : Value}, Rep E w m d v → ∀ {m' : Md},
    (m = .fz ∧ m' = .fz ∧ cl) ∨ (∃ k p r p', m = .own k p ∧ m' = .own r p' ∧ Lab E w E2 w k p r p' ∧ (cl ∨ d.nf)) ∨ (∃ k p r p', m = .box k p ∧ m' = .box r p' ∧ Lab E w E2 w k p r p' ∧ (cl ∨ d.nf) ∧ d.fzc = true) → Rep E2 w m' d v := by
  intro m d v h
  induction h with
  | int m k n => intro m' _; exact .int _ _ _
  | bool m b => intro m' _; exact .bool _ _
  | str m s => intro m' _; exact .str _ _
  | nil m => intro m' _; exact .nil _
  | undef m v h =>
    intro m' hm
    rcases hm with ⟨rfl, _⟩ | ⟨_, _, _, _, rfl, _⟩ | ⟨_, _, _, _, _, _, _, _, hf⟩
    · rcases h with h | ⟨_, _, h⟩ <;> cases h
    · rcases h with h | ⟨_, _, h⟩ <;> cases h
    · simp [D.fzc] at hf
  | hid m v _ _ h =>
    intro m' hm
    rcases hm with ⟨rfl, _⟩ | ⟨_, _, _, _, rfl, _⟩ | ⟨_, _, _, _, _, _, _, _, hf⟩
    · rcases h with h | ⟨_, _, h⟩ <;> cases h
    · rcases h with h | ⟨_, _, h⟩ <;> cases h
    · simp [D.fzc] at hf
  | anyb b => intro m' hm; rcases hm with ⟨hm, _⟩ | ⟨_, _, _, _, hm, _⟩ | ⟨_, _, _, _, hm, _⟩ <;> cases hm
  | fn f caps vs hl h ih => intro m' hm; rcases hm with ⟨hm, _⟩ | ⟨_, _, _, _, hm, _⟩ | ⟨_, _, _, _, hm, _⟩ <;> cases hm
  | agg cs vs hl h ih => intro m' hm; rcases hm with ⟨hm, _⟩ | ⟨_, _, _, _, hm, _⟩ | ⟨_, _, _, _, hm, _⟩ <;> cases hm
  | tup cs vs hl h ih => intro m' hm; rcases hm with ⟨hm, _⟩ | ⟨_, _, _, _, hm, _⟩ | ⟨_, _, _, _, hm, _⟩ <;> cases hm
  | flist m o wd n xs A cap us hm' hn hc hw ha h ih =>
    intro m' hm
    have hcl : cl := by
      rcases hm with ⟨_, _, h⟩ | ⟨_, _, _, _, rfl, _, _, h⟩ | ⟨_, _, _, _, rfl, _, _, h, _⟩
      · exact h
      · rcases hm' with h' | h' | rfl
        · cases h'
        · cases h'
        · rcases h with h | h
          · exact h
          · simp [D.nf] at h
      · rcases hm' with h' | h' | rfl
        · cases h'
        · cases h'
        · rcases h with h | h
          · exact h
          · simp [D.nf] at h
    refine .flist _ _ _ _ _ _ _ us ?_ hn hc hw (fun h0 => ?_) (fun i j x c hx hj => ih i j x c hx hj (.inl ⟨rfl, rfl, hcl⟩))
    · rcases hm with ⟨_, rfl, _⟩ | ⟨_, _, _, _, rfl, _⟩ | ⟨_, _, _, _, rfl, _⟩
      · exact .inr (.inl rfl)
      · rcases hm' with h' | h' | rfl
        · cases h'
        · cases h'
        · exact .inr (.inr rfl)
      · rcases hm' with h' | h' | rfl
        · cases h'
        · cases h'
        · exact .inr (.inr rfl)
    · obtain ⟨b, hb, h1, h2, h3⟩ := ha h0
      exact ⟨b, hb, hfz hcl _ h2 h1, h2, h3⟩
  | olist m k p wd n xs A cap us hm' hn hc hw ha h ih =>
    intro m' hm
    have key : ∃ r p', (m' = .own r p' ∨ m' = .box r p') ∧ Lab E w E2 w k p r p' ∧ (cl ∨ nfL xs) := by
      rcases hm with ⟨rfl, _⟩ | ⟨k', p0, r, p', rfl, rfl, hL, hc⟩ | ⟨k', p0, r, p', rfl, rfl, hL, hc, _⟩
      · rcases hm' with h | h <;> cases h
      · rcases hm' with h | h <;> cases h
        exact ⟨_, _, .inl rfl, hL, hc.imp id (fun h => by simpa [D.nf] using h)⟩
      · rcases hm' with h | h <;> cases h
        exact ⟨_, _, .inr rfl, hL, hc.imp id (fun h => by simpa [D.nf] using h)⟩
    obtain ⟨r, p', hm2, hL, hcl⟩ := key
    refine .olist _ r p' _ _ _ _ _ us hm2 hn hc hw (fun h0 => ?_) (fun i j x c hx hj => ih i j x c hx hj (.inr (.inl ⟨_, _, _, _, rfl, rfl, hL.kid _, hcl.imp id fun h => nf_cells (nfL_mem h x (List.mem_of_getElem? hx)) (List.mem_of_getElem? hj)⟩)))
    obtain ⟨a, cs, ty, rfl, hsp, ho, hh, hz, hcell⟩ := ha h0
    exact ⟨a, cs, ty, rfl, hsp, by simpa using (hL a.block [] (lt_of_get hh) (by simpa using ho)).2, hh, hz, hcell⟩
  | ref m r wd vw v h' hs h => intro m' hm; rcases hm with ⟨rfl, _⟩ | ⟨_, _, _, _, rfl, _⟩ | ⟨_, _, _, _, _, _, _, _, hf⟩ <;> first | (rcases h' with h | ⟨_, _, h⟩ <;> cases h; done) | simp [D.fzc] at hf
  | ptr m r wd i j v h' hs h => intro m' hm; rcases hm with ⟨rfl, _⟩ | ⟨_, _, _, _, rfl, _⟩ | ⟨_, _, _, _, _, _, _, _, hf⟩ <;> first | (rcases h' with h | ⟨_, _, h⟩ <;> cases h; done) | simp [D.fzc] at hf
  | fptr m wd xs i j a us h' hw ha h ih => intro m' hm; rcases hm with ⟨rfl, _⟩ | ⟨_, _, _, _, rfl, _⟩ | ⟨_, _, _, _, _, _, _, _, hf⟩ <;> first | (rcases h' with h | ⟨_, _, h⟩ <;> cases h; done) | simp [D.fzc] at hf

/-! ### The results, cell by cell -/
def flatV : List D → List Value → List Value
  | .agg _ :: ds, .agg vs :: us => vs.toList ++ flatV ds us
  | _ :: ds, u :: us => u :: flatV ds us
  | _, _ => []

theorem ResAll.flat {M : Nat} : ∀ {res : List D} {us : List Value} {q : Nat}, ResAll E w M q res us → (flatV res us).length = (res.flatMap D.cells).length ∧
    ∀ (j : Nat) c x, (res.flatMap D.cells)[j]? = some c → (flatV res us)[j]? = some x → Rep E w (.own M [(q + j, 0)]) c x
  | [], [], q, _ => ⟨rfl, fun j c x h => by simp at h⟩
  | [], _ :: _, q, h => h.elim
  | _ :: _, [], q, h => h.elim
  | d :: ds, u :: us, q, h => by
    obtain ⟨h1, h2⟩ := h
    obtain ⟨hl, hr⟩ := ResAll.flat h2
    by_cases hd : ∃ cs, d = .agg cs
    · obtain ⟨cs, rfl⟩ := hd
      obtain ⟨vs, rfl, hvl, hv⟩ := h1
      simp only [flatV, List.flatMap_cons, D.cells] at *
      refine ⟨by simp [hl, hvl], fun j c x hc hx => ?_⟩
      by_cases hj : j < cs.length
      · rw [List.getElem?_append_left hj] at hc
        rw [List.getElem?_append_left (by simp; omega)] at hx
        exact hv j c x hc (by simpa using hx)
      · rw [List.getElem?_append_right (by omega)] at hc
        rw [List.getElem?_append_right (by simp; omega)] at hx
        have := hr (j - cs.length) c x hc (by rw [hvl]; simpa using hx)
        rwa [show q + cs.length + (j - cs.length) = q + j by omega] at this
    · have e1 : d.cells = [d] := by cases d <;> first | rfl | exact absurd ⟨_, rfl⟩ hd
      have e2 : flatV (d :: ds) (u :: us) = u :: flatV ds us := by cases d <;> first | rfl | exact absurd ⟨_, rfl⟩ hd
      have e3 : Rep E w (.own M [(q, 0)]) d u := by cases d <;> first | exact h1 | exact absurd ⟨_, rfl⟩ hd
      rw [e1] at hr
      rw [e2, List.flatMap_cons, e1]
      refine ⟨by simp [hl], fun j c x hc hx => ?_⟩
      cases j with
      | zero =>
        simp only [List.cons_append, List.getElem?_cons_zero, Option.some.injEq] at hc hx
        subst hc hx
        exact e3
      | succ j =>
        have := hr j c x (by simpa using hc) (by simpa using hx)
        rwa [show q + [d].length + j = q + (j + 1) by simp; omega] at this

theorem takeL_get : ∀ {cs : List D} {id j : Nat} {d : D}, (takeL id cs)[j]? = some d → ∃ c, cs[j]? = some c ∧ d = take1 (id + j) c
  | [], id, j, d, h => by simp [takeL] at h
  | c :: cs, id, j, d, h => by
    cases j with
    | zero =>
      simp only [takeL, List.getElem?_cons_zero, Option.some.injEq] at h
      exact ⟨c, rfl, h.symm⟩
    | succ j =>
      simp only [takeL, List.getElem?_cons_succ] at h
      obtain ⟨c', h1, h2⟩ := takeL_get h
      exact ⟨c', by simpa using h1, by rw [h2]; congr 1; omega⟩

theorem takeL_len : ∀ (cs : List D) (id : Nat), (takeL id cs).length = cs.length
  | [], _ => rfl
  | c :: cs, id => by simp [takeL, takeL_len cs]

theorem ResAll.take {M : Nat} : ∀ {res : List D} {us : List Value} {q id : Nat}, ResAll E w M q res us →
    (∀ (j : Nat) c x, (res.flatMap D.cells)[j]? = some c → (flatV res us)[j]? = some x → Rep E2 w' .slot (take1 (id + j) c) x) →
    us.length = (takeVs id res).length ∧ ∀ (i : Nat) d u, (takeVs id res)[i]? = some d → us[i]? = some u → Rep E2 w' .slot d u
  | [], [], q, id, _, _ => ⟨rfl, fun j c x h => by simp [takeVs] at h⟩
  | [], _ :: _, q, id, h, _ => h.elim
  | _ :: _, [], q, id, h, _ => h.elim
  | d :: ds, u :: us, q, id, h, hr => by
    obtain ⟨h1, h2⟩ := h
    by_cases hd : ∃ cs, d = .agg cs
    · obtain ⟨cs, rfl⟩ := hd
      obtain ⟨vs, rfl, hvl, hv⟩ := h1
      simp only [flatV, List.flatMap_cons, D.cells] at hr
      obtain ⟨hl, hh⟩ := ResAll.take (id := id + cs.length) h2 (fun j c x hc hx => by
        have := hr (cs.length + j) c x (by rw [List.getElem?_append_right (by omega)]; simpa using hc) (by rw [List.getElem?_append_right (by simp; omega)]; simpa [hvl] using hx)
        rwa [← Nat.add_assoc] at this)
      refine ⟨by simp [takeVs, hl, D.cells], fun i d' u' hd' hu' => ?_⟩
      cases i with
      | zero =>
        simp only [takeVs, takeV, List.getElem?_cons_zero, Option.some.injEq] at hd' hu'
        subst hd' hu'
        refine .agg _ _ (by rw [takeL_len]; exact hvl) (fun j c x hc hx => ?_)
        obtain ⟨c', hc', rfl⟩ := takeL_get hc
        have hlt := (List.getElem?_eq_some_iff.1 hc').1
        exact hr j c' x (by rw [List.getElem?_append_left hlt]; exact hc') (by rw [List.getElem?_append_left (by simp; omega)]; simpa using hx)
      | succ i => exact hh i d' u' (by simpa [takeVs, D.cells] using hd') (by simpa using hu')
    · have e1 : d.cells = [d] := by cases d <;> first | rfl | exact absurd ⟨_, rfl⟩ hd
      have e2 : flatV (d :: ds) (u :: us) = u :: flatV ds us := by cases d <;> first | rfl | exact absurd ⟨_, rfl⟩ hd
      have e4 : takeV id d = take1 id d := by cases d <;> first | rfl | exact absurd ⟨_, rfl⟩ hd
      rw [e2, List.flatMap_cons, e1] at hr
      obtain ⟨hl, hh⟩ := ResAll.take (id := id + 1) h2 (fun j c x hc hx => by
        have := hr (j + 1) c x (by simpa using hc) (by simpa using hx)
        rwa [show id + (j + 1) = id + 1 + j by omega] at this)
      refine ⟨by simp [takeVs, e1, hl], fun i d' u' hd' hu' => ?_⟩
      cases i with
      | zero =>
        simp only [takeVs, e4, List.getElem?_cons_zero, Option.some.injEq] at hd' hu'
        subst hd' hu'
        exact hr 0 d u rfl rfl
      | succ i => exact hh i d' u' (by simpa [takeVs, e1] using hd') (by simpa using hu')

theorem pack_rep {ds : List D} {us : List Value} (hl : us.length = ds.length) (h : ∀ (i : Nat) d u, ds[i]? = some d → us[i]? = some u → Rep E w .slot d u) : Rep E w .slot (oneOrTup ds) (pack us) := by
  match ds, us, hl with
  | [], [], _ => exact .tup _ _ rfl (fun i c u hc => by simp at hc)
  | [d], [u], _ => exact h 0 d u rfl rfl
  | d :: d' :: ds, u :: u' :: us, hl =>
    refine .tup _ _ (by simp at hl ⊢; omega) (fun i c x hc hx => h i c x hc (by simpa using hx))

/-! ### What is lent and what comes back, in lists -/
theorem rootsOf_ok {g : Nat → Option Root} : ∀ {ins : List Nat} {G : List Root}, rootsOf g ins = some G → G.length = ins.length ∧ ∀ (k : Nat) r, ins[k]? = some r → ∃ R, g r = some R ∧ G[k]? = some R ∧ R.fz = false ∧ rless R = true
  | [], G, h => by
    simp only [rootsOf, Option.some.injEq] at h
    subst h
    exact ⟨rfl, fun k r h => by simp at h⟩
  | r :: rs, G, h => by
    simp only [rootsOf] at h
    split at h
    · rename_i R Rs h1 h2
      split at h
      · cases h
      · rename_i hc
        cases h
        simp only [Bool.or_eq_true, Bool.not_eq_true', not_or, Bool.not_eq_true, Bool.not_eq_false] at hc
        obtain ⟨hl, hh⟩ := rootsOf_ok h2
        refine ⟨by simp [hl], fun k r' hk => ?_⟩
        cases k with
        | zero =>
          simp only [List.getElem?_cons_zero, Option.some.injEq] at hk
          subst hk
          exact ⟨R, h1, rfl, hc.1, hc.2⟩
        | succ k => simpa using hh k r' (by simpa using hk)
    · cases h

theorem sameB_eq {a b : Bool} (h : sameB a b = true) : a = b := by cases a <;> cases b <;> simp [sameB] at h <;> rfl

theorem updAt_ok : ∀ {ins : List Nat} {G G' : List Root} {ps : List Prop} {us : List (Nat × Option Root)}, updAt ins G G' = some (ps, us) → AllP ps → G'.length = ins.length ∧
    (∀ (k : Nat) r, ins[k]? = some r → ∃ R R', G[k]? = some R ∧ G'[k]? = some R' ∧ (R'.dead = true ∧ (r, none) ∈ us ∨ R'.dead = false ∧ R'.n = R.n ∧ R.w = R'.w ∧ R.box = R'.box ∧ R'.fz = false ∧ rless R' = true ∧ (r, some R') ∈ us)) ∧
    ∀ u ∈ us, ∃ (k : Nat) (R' : Root), ins[k]? = some u.1 ∧ G'[k]? = some R' ∧ (R'.dead = true ∧ u.2 = none ∨ R'.dead = false ∧ u.2 = some R')
  | [], [], [], ps, us, h, hp => by
    simp only [updAt, Option.some.injEq, Prod.mk.injEq] at h
    obtain ⟨rfl, rfl⟩ := h
    exact ⟨rfl, fun k r h => by simp at h, fun u h => by cases h⟩
  | r :: rs, R :: Rs, R' :: Rs', ps, us, h, hp => by
    simp only [updAt] at h
    split at h
    · rename_i ps' u' hu
      split at h
      · rename_i hdead
        cases h
        obtain ⟨hl, h1, h2⟩ := updAt_ok hu hp
        refine ⟨by simp [hl], fun k r' hk => ?_, fun u hu' => ?_⟩
        · cases k with
          | zero =>
            simp only [List.getElem?_cons_zero, Option.some.injEq] at hk
            subst hk
            exact ⟨R, R', rfl, rfl, .inl ⟨hdead, List.mem_cons_self ..⟩⟩
          | succ k =>
            obtain ⟨R1, R1', a1, a2, a3⟩ := h1 k r' (by simpa using hk)
            refine ⟨R1, R1', by simpa using a1, by simpa using a2, ?_⟩
            rcases a3 with ⟨b1, b2⟩ | ⟨b0, b1, b2, b3, b4, b5, b6⟩
            · exact .inl ⟨b1, List.mem_cons_of_mem _ b2⟩
            · exact .inr ⟨b0, b1, b2, b3, b4, b5, List.mem_cons_of_mem _ b6⟩
        · rcases List.mem_cons.1 hu' with rfl | hu'
          · exact ⟨0, R', rfl, rfl, .inl ⟨hdead, rfl⟩⟩
          · obtain ⟨k, R1, a1, a2, a3⟩ := h2 u hu'
            exact ⟨k + 1, R1, by simpa using a1, by simpa using a2, a3⟩
      rename_i hdead
      split at h
      · rename_i hc
        cases h
        simp only [Bool.and_eq_true, Bool.not_eq_true'] at hc
        obtain ⟨⟨⟨hw, hb⟩, hf⟩, hr⟩ := hc
        have hdead : R'.dead = false := by simpa using hdead
        obtain ⟨hl, h1, h2⟩ := updAt_ok hu hp.2
        refine ⟨by simp [hl], fun k r' hk => ?_, fun u hu' => ?_⟩
        · cases k with
          | zero =>
            simp only [List.getElem?_cons_zero, Option.some.injEq] at hk
            subst hk
            exact ⟨R, R', rfl, rfl, .inr ⟨hdead, hp.1, Nat.eq_of_beq_eq_true hw, sameB_eq hb, hf, hr, List.mem_cons_self ..⟩⟩
          | succ k =>
            obtain ⟨R1, R1', a1, a2, a3⟩ := h1 k r' (by simpa using hk)
            refine ⟨R1, R1', by simpa using a1, by simpa using a2, ?_⟩
            rcases a3 with ⟨b1, b2⟩ | ⟨b0, b1, b2, b3, b4, b5, b6⟩
            · exact .inl ⟨b1, List.mem_cons_of_mem _ b2⟩
            · exact .inr ⟨b0, b1, b2, b3, b4, b5, List.mem_cons_of_mem _ b6⟩
        · rcases List.mem_cons.1 hu' with rfl | hu'
          · exact ⟨0, R', rfl, rfl, .inr ⟨hdead, rfl⟩⟩
          · obtain ⟨k, R1, a1, a2, a3⟩ := h2 u hu'
            exact ⟨k + 1, R1, by simpa using a1, by simpa using a2, a3⟩
      · cases h
    · cases h
  | [], [], _ :: _, _, _, h, _ => by simp [updAt] at h
  | [], _ :: _, _, _, _, h, _ => by simp [updAt] at h
  | _ :: _, [], _, _, _, h, _ => by simp [updAt] at h
  | _ :: _, _ :: _, [], _, _, h, _ => by simp [updAt] at h

theorem news_mem : ∀ {cs : List D} {id : Nat} {u : Nat × Option Root}, u ∈ news id cs → ∃ j wd n xs, cs[j]? = some (.list true wd n xs) ∧ u = (id + j, some ⟨false, false, wd, n, xs⟩)
  | [], id, u, h => by simp [news] at h
  | c :: cs, id, u, h => by
    simp only [news] at h
    have tail : u ∈ news (id + 1) cs → ∃ j wd n xs, (c :: cs)[j]? = some (.list true wd n xs) ∧ u = (id + j, some ⟨false, false, wd, n, xs⟩) := fun h => by
      obtain ⟨j, wd, n, xs, h1, rfl⟩ := news_mem h
      exact ⟨j + 1, wd, n, xs, by simpa using h1, by congr 1; omega⟩
    split at h
    · rename_i R hR
      rcases List.mem_cons.1 h with rfl | h
      · unfold newR at hR
        split at hR
        · cases hR
          exact ⟨0, _, _, _, rfl, rfl⟩
        · cases hR
      · exact tail h
    · exact tail h

theorem mem_news : ∀ {cs : List D} {id j wd n : Nat} {xs : List D}, cs[j]? = some (.list true wd n xs) → (id + j, some ⟨false, false, wd, n, xs⟩) ∈ news id cs
  | [], id, j, wd, n, xs, h => by simp at h
  | c :: cs, id, j, wd, n, xs, h => by
    cases j with
    | zero =>
      simp only [List.getElem?_cons_zero, Option.some.injEq] at h
      subst h
      simp only [news, newR]
      exact List.mem_cons_self ..
    | succ j =>
      have h1 := mem_news (id := id + 1) (by simpa using h : cs[j]? = some (.list true wd n xs))
      rw [show id + 1 + j = id + (j + 1) by omega] at h1
      simp only [news]
      split
      · exact List.mem_cons_of_mem _ h1
      · exact h1

end
end Go.Proofs.Ytlniejjcejackaa.Ab

namespace Go.Proofs.Ytlniejjcejackaa.Ab

section
variable {X : Ctx} {o : Oper} {E E' Ec : Env} {w w' : World} {a : Act} {ρ : Operand → Option D} {g : Nat → Option Root} {nid : Nat}

theorem newAt_some {cs : List D} {vs : List Value} {r : Nat} {x : Addr × Nat} (h : newAt nid cs vs r = some x) : ∃ j wd n xs A m cap, r = nid + j ∧ cs[j]? = some (.list true wd n xs) ∧ vs[j]? = some (.slice A m cap) ∧ x = (A.getD ⟨0, 0, none⟩, m) := by
  unfold newAt at h
  split at h
  · rename_i hle
    split at h
    · rename_i wd n xs A m cap h1 h2
      cases h
      exact ⟨r - nid, wd, n, xs, A, m, cap, by omega, h1, h2, rfl⟩
    · cases h
  · cases h

theorem newAt_at {cs : List D} {vs : List Value} {j wd n m cap : Nat} {xs : List D} {A : Option Addr} (h : cs[j]? = some (.list true wd n xs)) (h' : vs[j]? = some (.slice A m cap)) : newAt nid cs vs (nid + j) = some (A.getD ⟨0, 0, none⟩, m) := by
  unfold newAt
  rw [if_pos (by omega), show nid + j - nid = j by omega, h, h']

theorem nfG_mem : ∀ {G : List Root}, nfG G → ∀ R ∈ G, nfL R.xs
  | [], _, R, h => by cases h
  | R' :: G, h, R, hm => by
    simp only [nfG] at h
    rcases List.mem_cons.1 hm with rfl | hm
    · exact h.1
    · exact nfG_mem h.2 R hm

theorem ext_back {cl : Bool} {ins : List Nat} {G G' : List Root} {res : List D} {qs : List Prop} {us : List (Nat × Option Root)} {rv : List Value}
    (hd : distinct ins = true) (hg : ∀ r R, g r = some R → RootRel E w r R) (hlt : ∀ r R, g r = some R → r < nid) (hG : rootsOf g ins = some G) (hU : updAt ins G G' = some (qs, us)) (hqs : AllP qs)
    (hnf : cl = true ∨ nfL (res.flatMap D.cells) ∧ nfG G') (hfresh : ∀ u ∈ us ++ news nid (res.flatMap D.cells), nid ≤ u.1 → E.st u.1 = .fresh) (hres : res.all resOk = true)
    (hF : Frm G.length (E.sub cl ins) w E' w') (hRR : ∀ (k : Nat) R, G'[k]? = some R → R.dead = false → RootRel E' w' k R) (hRes : ResAll E' w' G.length 0 res rv) :
    ∃ E2, Ext E w E2 w' (us ++ news nid (res.flatMap D.cells)) ∧ Rep E2 w' .slot (oneOrTup (takeVs nid res)) (pack rv) := by
  obtain ⟨hGl, hGr⟩ := rootsOf_ok hG
  obtain ⟨hGl', hUr, hUu⟩ := updAt_ok hU hqs
  obtain ⟨hfl, hflat⟩ := hRes.flat
  generalize hcs : res.flatMap D.cells = cs at *
  generalize hvs : flatV res rv = vs at *
  have hE2 : ∃ E2, E2 = E.back E' w ins G' nid cs vs := ⟨_, rfl⟩
  obtain ⟨E2, hE2⟩ := hE2
  -- lent roots are owned
  have hown : ∀ (k : Nat) r, ins[k]? = some r → E.st r = .own := fun k r hk => by
    obtain ⟨R, h1, _, h3, _⟩ := hGr k r hk
    have := (hg _ _ h1).st
    rw [h3] at this
    exact this
  have hinlt : ∀ (k : Nat) r, ins[k]? = some r → r < nid := fun k r hk => by
    obtain ⟨R, h1, _⟩ := hGr k r hk
    exact hlt _ _ h1
  -- the new ones
  have hnewf : ∀ r x, newAt nid cs vs r = some x → E.st r = .fresh := fun r x h => by
    obtain ⟨j, wd, n, xs, A, m, cap, rfl, h1, _⟩ := newAt_some h
    exact hfresh _ (List.mem_append_right _ (mem_news h1)) (by simp)
  have hst0 : ∀ r, newAt nid cs vs r = none → E2.adr r = E.adr r ∧ E2.len r = E.len r := fun r h => by
    subst hE2
    simp [Env.back, h]
  have hst : ∀ r, newAt nid cs vs r = none → gone ins G' r = false → E2.st r = E.st r ∧ E2.adr r = E.adr r ∧ E2.len r = E.len r := fun r h hg => by
    subst hE2
    simp [Env.back, h, hg]
  have hstD : ∀ r, newAt nid cs vs r = none → gone ins G' r = true → E2.st r = .dead := fun r h hg => by
    subst hE2
    simp [Env.back, h, hg]
  -- a root that was given back
  have hlive : ∀ (k : Nat) r R', ins[k]? = some r → G'[k]? = some R' → R'.dead = false → gone ins G' r = false := fun k r R' hk hR' hd' => by
    simp only [gone, idx_of hd hk, Nat.zero_add, hR']
    exact hd'
  have hlive' : ∀ (k : Nat) r, ins[k]? = some r → gone ins G' r = false → ∃ R', G'[k]? = some R' ∧ R'.dead = false := fun k r hk hg' => by
    obtain ⟨R, R', h1, h2, _⟩ := hUr k r hk
    refine ⟨R', h2, ?_⟩
    simp only [gone, idx_of hd hk, Nat.zero_add, h2] at hg'
    exact hg'
  have hold : ∀ r, E.st r ≠ .fresh → newAt nid cs vs r = none := fun r h => by
    cases hn : newAt nid cs vs r with
    | none => rfl
    | some x => exact absurd (hnewf _ _ hn) h
  -- blocks
  have how_in : ∀ b r p k, b < w.heap.size → E.ow b = .own r p → idx r 0 ins = some k → E2.ow b = bring ins nid cs (E'.ow b) := fun b r p k hb h1 h2 => by
    subst hE2
    simp [Env.back, hb, h1, h2]
  have how_out : ∀ b r p, b < w.heap.size → E.ow b = .own r p → idx r 0 ins = none → E2.ow b = .own r p := fun b r p hb h1 h2 => by
    subst hE2
    simp [Env.back, hb, h1, h2]
  have how_new : ∀ b, ¬ b < w.heap.size → E2.ow b = bring ins nid cs (E'.ow b) := fun b hb => by
    subst hE2
    simp [Env.back, hb]
  have how_fz : ∀ b, b < w.heap.size → E.ow b = .fz → w'.heap[b]? = w.heap[b]? ∧ E'.ow b = .fz ∧ E2.ow b = .fz := fun b hb h => by
    obtain ⟨h1, h2⟩ := hF.fz b hb (by simp [Env.sub, h])
    refine ⟨h1, h2, ?_⟩
    subst hE2
    simp [Env.back, hb, h]
  have how_far : ∀ b, b < w.heap.size → E.ow b = .far → w'.heap[b]? = w.heap[b]? ∧ E'.ow b = .far ∧ E2.ow b = .far := fun b hb h => by
    obtain ⟨h1, h2⟩ := hF.far b hb (by simp [Env.sub, h])
    refine ⟨h1, h2, ?_⟩
    subst hE2
    simp [Env.back, hb, h]
  have how_own : ∀ b r p, b < w.heap.size → E.ow b = .own r p → idx r 0 ins = none → w'.heap[b]? = w.heap[b]? ∧ E'.ow b = (if cl then .far else .fz) := fun b r p hb h hi => by
    cases cl with
    | true => exact hF.far b hb (by simp [Env.sub, h, hi])
    | false => exact hF.fz b hb (by simp [Env.sub, h, hi])
  -- what the callee owns, at the end
  have hbring : ∀ b k p, E'.ow b = .own k p → E2.ow b = bring ins nid cs (.own k p) := fun b k p h => by
    by_cases hb : b < w.heap.size
    · cases ho : E.ow b with
      | fz => have := (how_fz b hb ho).2.1; rw [h] at this; cases this
      | far => have := (how_far b hb ho).2.1; rw [h] at this; cases this
      | own r p0 =>
        cases hi : idx r 0 ins with
        | none => have := (how_own b r p0 hb ho hi).2; rw [h] at this; split at this <;> cases this
        | some k0 => rw [how_in b r p0 k0 hb ho hi, h]
    · rw [how_new b hb, h]
  have hLab : ∀ (k : Nat) r p, ins[k]? = some r → Lab E' w' E2 w' k p r p := fun k r p hk b q hb ho => ⟨rfl, by rw [hbring b k _ ho]; simp [bring, hk]⟩
  have hLabM : ∀ (q wd n : Nat) xs, cs[q]? = some (.list true wd n xs) → Lab E' w' E2 w' G.length [(q, 0)] (nid + q) [] := fun q wd n xs hq b p hb ho => ⟨rfl, by
    rw [hbring b _ _ ho]
    have h1 : ins[G.length]? = none := List.getElem?_eq_none (by omega)
    simp [bring, h1, hGl, hq]⟩
  have hfzc : cl = true → ∀ b, b < w'.heap.size → E'.ow b = .fz → E2.ow b = .fz := fun hc b _ h => by
    by_cases hb : b < w.heap.size
    · cases ho : E.ow b with
      | fz => exact (how_fz b hb ho).2.2
      | far => have := (how_far b hb ho).2.1; rw [h] at this; cases this
      | own r p0 =>
        cases hi : idx r 0 ins with
        | none => have := (how_own b r p0 hb ho hi).2; rw [h, hc] at this; cases this
        | some k0 => rw [how_in b r p0 k0 hb ho hi, h]; rfl
    · rw [how_new b hb, h]; rfl
  -- addresses of what was lent
  have hadr : ∀ (k : Nat) r, ins[k]? = some r → E'.adr k = E.adr r := fun k r hk => by
    have hlt' : k < G.length := by rw [hGl]; exact (List.getElem?_eq_some_iff.1 hk).1
    rw [hF.adr k hlt']
    exact (sub_at cl hk).1
  have hst' : ∀ (k : Nat) r, ins[k]? = some r → gone ins G' r = false → E'.st k = .own := fun k r hk hgn => by
    obtain ⟨R1', e1, e2⟩ := hlive' k r hk hgn
    obtain ⟨R, R', _, h2, h3⟩ := hUr k r hk
    obtain rfl := Option.some.inj (e1.symm.trans h2)
    rcases h3 with ⟨h3, _⟩ | ⟨_, _, _, _, hf, _⟩
    · rw [e2] at h3; cases h3
    have := (hRR k R1' h2 e2).st
    rw [hf] at this
    exact this
  have hshpin : ∀ (k : Nat) r N, ins[k]? = some r → gone ins G' r = false → Shp E' w' k N → Shp E2 w' r N := fun k r N hk hgn h => by
    obtain ⟨s1, s2, ds, ty, s3, s4⟩ := h
    rw [hst' k r hk hgn, if_pos rfl] at s2
    rw [hadr k r hk] at s1 s2 s3 s4
    have hr := hst r (hold r (by rw [hown k r hk]; simp)) hgn
    unfold Shp
    rw [hr.2.1, hr.1, hown k r hk, if_pos rfl]
    exact ⟨s1, by rw [hbring _ _ _ s2]; simp [bring, hk], ds, ty, s3, s4⟩
  have hM : Mv E w E2 w' := by
    refine ⟨hF.sz, fun b hb h => ⟨(how_fz b hb h).1, (how_fz b hb h).2.2⟩, fun r h => ?_, fun r h hal => ?_⟩
    · cases hgn : gone ins G' r with
      | false => rw [(hst r (hold r h) hgn).1]; exact h
      | true => rw [hstD r (hold r h) hgn]; simp
    · have hgn : gone ins G' r = false := by
        cases hgn : gone ins G' r with
        | false => rfl
        | true =>
          unfold Alive at hal
          rw [hstD r (hold r h) hgn] at hal
          rcases hal with h | h <;> cases h
      obtain ⟨h1, h2, h3⟩ := hst r (hold r h) hgn
      refine ⟨?_, h2, h3, fun N hs => ?_⟩
      · unfold Alive at *
        rw [h1] at hal
        exact hal
      · cases hi : idx r 0 ins with
        | some k =>
          obtain ⟨i, rfl, hk⟩ := idx_some hi
          simp only [Nat.zero_add] at hi
          refine hshpin i r N hk hgn ?_
          exact (hF.shp i (by rw [hGl]; exact (List.getElem?_eq_some_iff.1 hk).1) (hst' i r hk hgn)).2 N (sub_shp hd hk (hown i r hk) hs)
        | none =>
          obtain ⟨s1, s2, ds, ty, s3, s4⟩ := hs
          have hb := lt_of_get s3
          unfold Shp
          rw [h2, h1]
          cases hs : E.st r with
          | own =>
            rw [hs, if_pos rfl] at s2
            exact ⟨s1, how_out _ _ _ hb s2 hi, ds, ty, (how_own _ _ _ hb s2 hi).1.trans s3, s4⟩
          | fz =>
            simp only [hs] at s2
            exact ⟨s1, (how_fz _ hb (by simpa using s2)).2.2, ds, ty, (how_fz _ hb (by simpa using s2)).1.trans s3, s4⟩
          | dead =>
            simp only [hs] at s2
            exact ⟨s1, (how_fz _ hb (by simpa using s2)).2.2, ds, ty, (how_fz _ hb (by simpa using s2)).1.trans s3, s4⟩
          | fresh => exact absurd hs h
  have hcellin : ∀ u ∈ us, u.1 < nid := fun u hu => by
    obtain ⟨k, R', h1, _⟩ := hUu u hu
    exact hinlt k _ h1
  -- a result
  have hone : ∀ (j : Nat) c x, cs[j]? = some c → vs[j]? = some x → Rep E2 w' .slot (take1 (nid + j) c) x ∧ ∀ wd n xs, c = .list true wd n xs → RootRel E2 w' (nid + j) ⟨false, false, wd, n, xs⟩ := fun j c x hc hx => by
    have hr := hflat j c x hc hx
    rw [Nat.zero_add] at hr
    have hok : resOk1 c = true := by
      have hm := List.mem_of_getElem? hc
      rw [← hcs] at hm
      obtain ⟨d, hd1, hd2⟩ := List.mem_flatMap.1 hm
      have hr := List.all_eq_true.1 hres d hd1
      cases d <;> simp [resOk, resOk1] at hr <;> simp [D.cells] at hd2 <;> first | (subst hd2; rfl) | exact hr c hd2
    have hnfc : cl = true ∨ c.nf := hnf.imp id fun h => nfL_mem h.1 c (List.mem_of_getElem? hc)
    by_cases hl : ∃ wd n xs, c = .list true wd n xs
    · obtain ⟨wd, n, xs, rfl⟩ := hl
      have hL := hLabM j wd n xs hc
      have hr2 : Rep E2 w' (.own (nid + j) []) (.list true wd n xs) x := hr.back (cl := cl = true) hfzc (.inr (.inl ⟨_, _, _, _, rfl, rfl, hL, hnfc⟩))
      generalize hm : Md.own (nid + j) [] = m at hr2
      cases hr2 with
      | flist m o wd n xs A cap us0 hm' hn hcp hw ha h => subst hm; rcases hm' with h | h | h <;> cases h
      | olist m r p wd n xs A cap us0 hm' hn hcp hw ha h =>
        rcases hm' with h' | h' <;> rw [← hm] at h' <;> cases h'
        have hnew := newAt_at (nid := nid) hc hx
        have hE : E2.st (nid + j) = .own ∧ E2.adr (nid + j) = A.getD ⟨0, 0, none⟩ ∧ E2.len (nid + j) = n := by
          subst hE2
          simp [Env.back, hnew]
        obtain ⟨e1, e2, e3⟩ := hE
        have hshp : 0 < cap → A = some (E2.adr (nid + j)) ∧ Shp E2 w' (nid + j) (cap * wd) := fun h0 => by
          obtain ⟨b, ds, ty, rfl, s1, s2, s3, s4, s5⟩ := ha h0
          rw [e2]
          refine ⟨rfl, ?_⟩
          unfold Shp
          rw [e2, e1, if_pos rfl]
          exact ⟨s1, s2, ds, ty, s3, s4⟩
        refine ⟨.ref _ _ _ _ _ (.inl rfl) (by rw [e1]; simp) fun _ => ⟨A, cap, by simp [Vw, e3], by simpa [Vw, e3] using hcp, by simp [Vw, e3], fun h0 => ?_⟩, fun wd' n' xs' he => ?_⟩
        · obtain ⟨rfl, hs⟩ := hshp h0
          exact ⟨by simp [Vw, Addr.add], by simpa [Vw] using hs⟩
        · cases he
          refine ⟨by simp [e1], by simp [e3], hn, hw, (fun h => by cases h), fun h0 => ?_, fun i j' x c hx' hj' => ?_⟩
          · simp only at h0
            obtain ⟨_, s1, s2, ds, ty, s3, s4⟩ := hshp (by omega)
            exact ⟨s1, s2, ds, ty, s3, Nat.le_trans (Nat.add_le_add_left (Nat.mul_le_mul_right _ hcp) _) s4⟩
          · have hpos : 0 < n := by
              rw [← hn]
              exact Nat.lt_of_le_of_lt (Nat.zero_le _) (List.getElem?_eq_some_iff.1 hx').1
            obtain ⟨b, ds, ty, rfl, s1, s2, s3, s4, s5⟩ := ha (by omega)
            refine ⟨us0 i j', by rw [e2]; exact s5 i j' x c hx' hj', ?_⟩
            simpa [Root.md] using h i j' x c hx' hj'
    · refine ⟨?_, fun wd n xs he => absurd ⟨wd, n, xs, he⟩ hl⟩
      have e1 : take1 (nid + j) c = c := by
        cases c <;> first | rfl | skip
        rename_i o wd n xs
        cases o
        · rfl
        · exact absurd ⟨_, _, _, rfl⟩ hl
      rw [e1]
      cases hr with
      | int m k n => exact .int _ _ _
      | bool m b => exact .bool _ _
      | str m s => exact .str _ _
      | nil m => exact .nil _
      | flist m o wd n xs A cap us0 hm' hn hcp hw ha h =>
        rcases hm' with h' | h' | rfl
        · cases h'
        · cases h'
        · have hcl : cl = true := hnfc.resolve_right (by simp [D.nf])
          refine .flist _ _ _ _ _ _ _ us0 (.inl rfl) hn hcp hw (fun h0 => ?_) (fun i j x c hx hj => (h i j x c hx hj).back (cl := cl = true) hfzc (.inl ⟨rfl, rfl, hcl⟩))
          obtain ⟨b, hb, s1, s2, s3⟩ := ha h0
          exact ⟨b, hb, hfzc hcl _ s2 s1, s2, s3⟩
      | olist m r p wd n xs A cap us0 hm' hn hcp hw ha h => exact absurd ⟨_, _, _, rfl⟩ hl
      | _ => simp [resOk1] at hok
  refine ⟨E2, ⟨hF.sz, hF.os, hF.tape, hF.output, fun b hb h => ⟨(how_fz b hb h).1, (how_fz b hb h).2.2⟩, fun b hb h => ⟨(how_far b hb h).1, (how_far b hb h).2.2⟩, fun r h => (hst0 r (hold r h)).1, fun d v h => h.mv hM trivial, fun r R hr h => ?_, fun r R hmem => ?_, fun r hr h => ?_, hF.shape, fun r N hr hr' h => ?_, fun r h => ?_⟩, ?_⟩
  · have hne : E.st r ≠ .fresh := by rw [h.st]; split <;> simp
    have hi : idx r 0 ins = none := by
      cases hi : idx r 0 ins with
      | none => rfl
      | some k =>
        obtain ⟨i, _, hk⟩ := idx_some hi
        obtain ⟨_, R', _, _, hmem⟩ := hUr i r hk
        rcases hmem with ⟨_, hmem⟩ | ⟨_, _, _, _, _, _, hmem⟩
        · exact absurd rfl (hr _ (List.mem_append_left _ hmem))
        · exact absurd rfl (hr _ (List.mem_append_left _ hmem))
    refine h.mv hM (hst r (hold r hne) (by unfold gone; rw [hi])).1 (fun b q hb ho => ?_)
    exact ⟨(how_own b r _ hb ho hi).1, how_out b r _ hb ho hi⟩
  · rcases List.mem_append.1 hmem with hmem | hmem
    · obtain ⟨k, R', hk, hR', he⟩ := hUu _ hmem
      simp only [Option.some.injEq] at he hk
      obtain ⟨hdd, he⟩ : R'.dead = false ∧ R' = R := by
        rcases he with ⟨_, he⟩ | ⟨h1, he⟩
        · cases he
        · exact ⟨h1, he.symm⟩
      subst he
      obtain ⟨R0, R1, h1, h2, h3⟩ := hUr k r hk
      rw [hR'] at h2
      cases h2
      obtain ⟨_, h3, h4, h5, h6, h7, _⟩ := h3.resolve_left (fun h => by rw [hdd] at h; cases h.1)
      have hRk := hRR k R' hR' hdd
      obtain ⟨R0', hg0, hG0, hf0, _⟩ := hGr k r hk
      rw [h1] at hG0
      cases hG0
      have hgn := hlive k r R' hk hR' hdd
      have hr := hst r (hold r (by rw [hown k r hk]; simp)) hgn
      refine ⟨by rw [hr.1, hown k r hk, h6]; rfl, by rw [hr.2.2, (hg _ _ hg0).len]; exact h3.symm, hRk.n, hRk.wd, hRk.nobox, fun h0 => hshpin k r _ hk hgn (hRk.shp h0), fun i j x c hx hj => ?_⟩
      obtain ⟨u, hu, hrep⟩ := hRk.cell i j x c hx hj
      refine ⟨u, by rw [hr.2.1, ← hadr k r hk]; exact hu, ?_⟩
      have hnfc : cl = true ∨ c.nf := hnf.imp id fun h => nf_cells (nfL_mem (nfG_mem h.2 R' (List.mem_of_getElem? hR')) x (List.mem_of_getElem? hx)) (List.mem_of_getElem? hj)
      unfold Root.md at hrep ⊢
      rw [h6] at hrep ⊢
      simp only [Bool.false_eq_true, if_false] at hrep ⊢
      split at hrep
      · rename_i hbox
        rw [if_pos hbox]
        refine hrep.back (cl := cl = true) hfzc (.inr (.inr ⟨_, _, _, _, rfl, rfl, hLab k r _ hk, hnfc, ?_⟩))
        unfold rless at h7
        rw [if_pos hbox] at h7
        split at h7
        · rename_i ds hds
          rw [hds] at hx
          cases i with
          | zero =>
            simp only [List.getElem?_cons_zero, Option.some.injEq] at hx
            subst hx
            exact List.all_eq_true.1 h7 c (List.mem_of_getElem? hj)
          | succ i => simp at hx
        · cases h7
      · rename_i hbox
        rw [if_neg hbox]
        exact hrep.back (cl := cl = true) hfzc (.inr (.inl ⟨_, _, _, _, rfl, rfl, hLab k r _ hk, hnfc⟩))
    · obtain ⟨j, wd, n, xs, hc, he⟩ := news_mem hmem
      simp only [Prod.mk.injEq, Option.some.injEq] at he
      obtain ⟨rfl, rfl⟩ := he
      have hlt' : j < vs.length := by rw [hfl]; exact (List.getElem?_eq_some_iff.1 hc).1
      exact (hone j _ _ hc (List.getElem?_eq_getElem hlt')).2 wd n xs rfl
  · cases hn : newAt nid cs vs r with
    | none =>
      have hgn : gone ins G' r = false := by
        cases hgn : gone ins G' r with
        | false => rfl
        | true =>
          unfold gone at hgn
          split at hgn
          · rename_i k hi
            obtain ⟨i, _, hk⟩ := idx_some hi
            obtain ⟨_, R', _, _, hmem⟩ := hUr i r hk
            rcases hmem with ⟨_, hmem⟩ | ⟨_, _, _, _, _, _, hmem⟩
            · exact absurd rfl (hr _ (List.mem_append_left _ hmem))
            · exact absurd rfl (hr _ (List.mem_append_left _ hmem))
          · cases hgn
      rw [(hst r hn hgn).1]; exact h
    | some x =>
      obtain ⟨j, wd, n, xs, A, m, cap, rfl, h1, _⟩ := newAt_some hn
      exact absurd rfl (hr _ (List.mem_append_right _ (mem_news h1)))
  · exact (hM.ref r (by rw [hr]; simp) (.inl hr')).2.2.2 N h
  · cases hn : newAt nid cs vs r with
    | none =>
      cases hgn : gone ins G' r with
      | false => rw [(hst r hn hgn).1] at h; exact .inr h
      | true => rw [hstD r hn hgn] at h; cases h
    | some x => exact .inl (hnewf _ _ hn)
  · obtain ⟨h1, h2⟩ := hRes.take (E2 := E2) (w' := w') (id := nid) (fun j c x hc hx => (hone j c x (by rw [← hcs]; exact hc) (by rw [← hvs]; exact hx)).1)
    exact pack_rep h1 h2

end
end Go.Proofs.Ytlniejjcejackaa.Ab

namespace Go.Proofs.Ytlniejjcejackaa.Ab

section
variable {X : Ctx} {o : Oper} {E E' Ec : Env} {w w' : World} {a : Act} {ρ : Operand → Option D} {g : Nat → Option Root} {nid : Nat}

theorem nfL_scal : ∀ {ds : List D}, ds.all D.scal = true → nfL (ds.flatMap D.cells)
  | [], _ => trivial
  | d :: ds, h => by
    simp only [List.all_cons, Bool.and_eq_true] at h
    have h2 := nfL_scal h.2
    cases d <;> simp [D.scal] at h <;> simp [D.cells, nfL, D.nf, h2]

theorem run_callFunc_enter {P : Program} {f : FuncId} (h : Ent P f) (vs : Array Value) : (callFunc f vs).run P w = .ok (.enter f vs) w := by
  obtain ⟨fn, h1, h2, h3⟩ := h
  have h4 : fn.body ≠ none := fun e => by simp [e] at h2
  have h5 : ¬ fn.name = "runtime.NumGoroutine" := fun e => by simp [e] at h3
  simp [callFunc, h1, h5, h4]

theorem does_call (H : Hyp X E w a ρ g nid) {c : Call} {f : Operand} {k : FuncId} {caps as : List D} {h : Hint} {out : Out} (hf : ∀ u ∈ out.us, nid ≤ u.1 → E.st u.1 = .fresh) (ho : o.op = .call c) (hc : c.callee = .value f) (hfn : ρ f = some (.fn k caps)) (hvals : vals ρ c.args.toList = some as)
    (hs : callD X k (as ++ caps) g nid h = some out) (hp : AllP out.ps) : Does X o E w a out := by
  unfold callD at hs
  split at hs
  · cases hs
  · rename_i ch _
    split at hs
    · rename_i G ps cas hG hl0
      split at hs
      · rename_i qs us hU
        split at hs
        · rename_i hchk
          simp only [Bool.and_eq_true] at hchk
          cases hs
          simp only at hf hp
          obtain ⟨hp0, hp2⟩ := AllP_append hp
          obtain ⟨qs0, hl, hp1⟩ := argsC_ok hl0 hp0
          obtain ⟨hp2, hp3⟩ := AllP_append hp2
          obtain ⟨hp3, hp4⟩ := AllP_append hp3
          obtain ⟨hCt, _⟩ := hp4
          obtain ⟨hEnt, hCt⟩ := hCt
          obtain ⟨hGl, hGr⟩ := rootsOf_ok hG
          obtain ⟨hGl', hUr, _⟩ := updAt_ok hU hp2
          have hnf : ch.cl = true ∨ nfL (ch.res.flatMap D.cells) ∧ nfG ch.G' := by
            split at hp3
            · rename_i hcl
              simp only [Bool.or_eq_true, Bool.and_eq_true] at hcl
              rcases hcl with hcl | ⟨h1, h2⟩
              · exact .inl hcl
              · refine .inr ⟨nfL_scal h1, ?_⟩
                have h3 : ch.ins = [] := by simpa using h2
                rw [h3] at hGl'
                have h4 : ch.G' = [] := List.length_eq_zero_iff.1 (by simpa using hGl')
                rw [h4]
                trivial
            · exact .inr ⟨hp3.1, hp3.2.1⟩
          obtain ⟨hal, har⟩ := vals_ok H hvals
          have hal : as.length = c.args.size := by simpa using hal
          have hrf := H.op _ _ hfn
          generalize hv : a.eval f = v at hrf
          cases hrf with
          | fn _ _ vs hcl hcr =>
          have hown : ∀ (k : Nat) r, ch.ins[k]? = some r → E.st r = .own := fun k r hk => by
            obtain ⟨R, h1, _, h3, _⟩ := hGr k r hk
            have := (H.rt _ _ h1).st
            rw [h3] at this
            exact this
          obtain ⟨hlen, hlr⟩ := (lend_ok (w := w) hchk.1 hown H.rt 60).2 _ _ _ hl hp1
          have hargs : (c.args.map a.eval ++ vs).size = cas.length := by
            rw [← hlen]
            simp [hal, hcl]
          have hrep : ∀ (i : Nat) d u, cas[i]? = some d → (c.args.map a.eval ++ vs)[i]? = some u → Rep (E.sub ch.cl ch.ins) w .slot d u := fun i d u hd hu => by
            have hlt : i < (as ++ caps).length := by rw [hlen]; exact (List.getElem?_eq_some_iff.1 hd).1
            refine hlr i _ d u (List.getElem?_eq_getElem hlt) hd ?_
            by_cases hi : i < as.length
            · rw [List.getElem_append_left hi]
              rw [Array.getElem?_append_left (by simp; omega), Array.getElem?_map, Option.map_eq_some_iff] at hu
              obtain ⟨x, hx, rfl⟩ := hu
              exact har i _ x (List.getElem?_eq_getElem hi) (by simpa using hx)
            · rw [List.getElem_append_right (by omega)]
              rw [Array.getElem?_append_right (by simp; omega)] at hu
              simp only [Array.size_map] at hu
              have : c.args.size = as.length := hal.symm
              rw [this] at hu
              exact hcr (i - as.length) _ u (List.getElem?_eq_getElem (by simp at hlt; omega)) hu
          have hCalls := hCt (E.sub ch.cl ch.ins) w (c.args.map a.eval ++ vs)
            (fun x hx => by
              obtain ⟨⟨wd, xs, i, j, he⟩, hr⟩ := H.gl x hx
              refine ⟨⟨wd, xs, i, j, he⟩, ?_⟩
              rw [he] at hr ⊢
              exact fptr_seen hr rfl)
            hargs hrep
            (fun k' R hk' => by
              have hlt : k' < ch.ins.length := by rw [← hGl]; exact (List.getElem?_eq_some_iff.1 hk').1
              have hk := List.getElem?_eq_getElem hlt
              obtain ⟨R0, h1, h2, h3, h4⟩ := hGr k' _ hk
              rw [h2] at hk'
              cases hk'
              have hR := H.rt _ _ h1
              obtain ⟨s1, s2, s3⟩ := sub_at (E := E) ch.cl hk
              refine ⟨by rw [s3, h3]; rfl, by rw [s2]; exact hR.len, hR.n, hR.wd, hR.nobox, fun h0 => sub_shp hchk.1 hk (hown _ _ hk) (hR.shp h0), fun i j x c hx hj => ?_⟩
              obtain ⟨u, hu, hr⟩ := hR.cell i j x c hx hj
              refine ⟨u, by rw [s1]; exact hu, hr.lent hchk.1 hk ?_⟩
              unfold Root.md
              rw [h3]
              simp only [Bool.false_eq_true, if_false]
              split
              · rename_i hb
                refine .inr (.inr ⟨_, rfl, rfl, ?_⟩)
                unfold rless at h4
                rw [if_pos hb] at h4
                split at h4
                · rename_i ds hds
                  rw [hds] at hx
                  cases i with
                  | zero =>
                    simp only [List.getElem?_cons_zero, Option.some.injEq] at hx
                    subst hx
                    exact List.all_eq_true.1 h4 c (List.mem_of_getElem? hj)
                  | succ i => simp at hx
                · cases h4
              · exact .inr (.inl ⟨_, rfl, rfl⟩))
            (fun k' hk' => by
              have : ch.ins[k']? = none := List.getElem?_eq_none (by omega)
              simp [Env.sub, this])
          intro K Q kk
          unfold Oper.wp
          have hrun : (execOp a.eval o).run X.P w = .ok (.enter k (c.args.map a.eval ++ vs)) w := by
            simp [execOp, ho, resolve, hc, hv, Deferred.ofValue, invoke, run_callFunc_enter hEnt]
          rw [hrun, Oper.upon_enter]
          refine hCalls.mono (fun e w' hpost => ?_)
          obtain ⟨E', rv, rfl, hF, hGl2, hRR, hRes⟩ := hpost
          obtain ⟨E2, hE2, hr2⟩ := ext_back hchk.1 H.rt H.lt hG hU hp2 hnf hf hchk.2 hF hRR hRes
          exact kk E2 w' (pack rv) hE2 hr2
        · cases hs
      · cases hs
    · cases hs

end
end Go.Proofs.Ytlniejjcejackaa.Ab

namespace Go.Proofs.Ytlniejjcejackaa.Ab

section
variable {X : Ctx} {o : Oper} {E E' Ec : Env} {w w' : World} {a : Act} {ρ : Operand → Option D} {g : Nat → Option Root} {nid : Nat}

theorem Does.ps {ps qs : List Prop} {v : D} {us : List (Nat × Option Root)} (h : Does X o E w a ⟨ps, v, us⟩) : Does X o E w a ⟨qs, v, us⟩ := fun K Q k => h K Q k

theorem kAt_look {T : Tab} {t : Nat} {ti : TI} {k : TK} (h : look t T = some ti) (hk : ti.k = k) : kAt T t = some k := by simp [kAt, h, hk]

theorem stepOp_ok (H : Hyp X E w a ρ g nid) {h : Hint} {out : Out} (hf : ∀ u ∈ out.us, nid ≤ u.1 → E.st u.1 = .fresh) (hs : stepOp X o ρ g nid h = some out) (hp : AllP out.ps) : Does X o E w a out := by
  unfold stepOp at hs
  have hfn : ∀ R, (nid, some R) ∈ out.us → E.st nid = .fresh := fun R h => hf _ h (Nat.le_refl _)
  split at hs
  · -- move
    rename_i x ho
    split at hs <;> cases hs
    rename_i d hx
    exact does_move H (.inl ho) hx
  · rename_i x ho
    split at hs <;> cases hs
    rename_i d hx
    exact does_move H (.inr ho) hx
  · -- pick
    rename_i c x y ho
    split at hs
    · rename_i t hc
      cases t with
      | true => simp only at hs
                split at hs <;> cases hs
                rename_i d hx
                exact does_pick H (t := true) ho hc hx
      | false => simp only at hs
                 split at hs <;> cases hs
                 rename_i d hx
                 exact does_pick H (t := false) ho hc hx
    · cases hs
  · -- nilCheck
    rename_i x ho
    split at hs
    · rename_i r wd i j hx
      split at hs <;> cases hs
      rename_i R hg
      exact does_nilCheck_ptr H ho hx hg
    · rename_i wd xs i j hx
      cases hs
      exact does_nilCheck_fptr H ho hx
    · cases hs
  · -- alloc
    rename_i t ho
    split at hs
    · rename_i ti ht
      dsimp only at hs
      split at hs
      · rename_i hc
        simp only [Bool.and_eq_true] at hc
        cases hs
        exact does_alloc H (hfn _ (List.mem_singleton.2 rfl)) ho ht hc.1 hc.2
      · cases hs
    · cases hs
  · -- box
    rename_i t x ho
    split at hs
    · rename_i d hx
      dsimp only at hs
      split at hs
      · rename_i hc
        simp only [Bool.and_eq_true] at hc
        cases hs
        exact does_box H (hfn _ (List.mem_singleton.2 rfl)) ho hx hc.1 hc.2
      · cases hs
    · cases hs
  · -- build
    rename_i t parts ho
    split at hs
    · rename_i ht
      split at hs
      · rename_i cs hcs
        cases hs
        exact does_build H ho ht rfl rfl hcs
      · cases hs
    · cases hs
  · -- literal
    rename_i t len parts ho
    split at hs
    · rename_i ht
      split at hs
      · rename_i te hte
        split at hs
        · rename_i ds hds
          dsimp only at hs
          split at hs
          · rename_i hc
            simp only [Bool.and_eq_true] at hc
            cases hs
            refine does_lit (box := false) H (hfn _ (List.mem_singleton.2 rfl)) ho (kAt_look ht rfl) hte hds hc.1.1.1 hc.1.1.2 ?_
            simpa using hc.1.2
          · split at hs
            · rename_i hc
              simp only [Bool.and_eq_true] at hc
              cases hs
              refine does_lit (box := true) H (hfn _ (List.mem_singleton.2 rfl)) ho (kAt_look ht rfl) hte hds hc.1.1.1 hc.1.1.2 ?_
              refine List.all_eq_true.2 fun x hx => List.all_eq_true.2 fun c hc' => ?_
              have h1 := List.all_eq_true.1 (List.all_eq_true.1 hc.1.2 x hx) c hc'
              simp [okc_boxy h1]
            · cases hs
        · cases hs
      · cases hs
    · cases hs
  · -- load
    rename_i t x ho
    split at hs
    · rename_i ti ht
      split at hs
      · rename_i r wd i j hx
        split at hs
        · rename_i R hg
          split at hs
          · rename_i hc
            simp only [Bool.and_eq_true] at hc
            split at hs
            · rename_i d hd
              cases hs
              exact does_load_ptr H ho hx hg ht hc.1.1 hc.1.2 hc.2 hd hp.1
            · cases hs
          · cases hs
        · cases hs
      · rename_i wd xs i j hx
        split at hs
        · rename_i hc
          simp only [Bool.and_eq_true] at hc
          split at hs
          · rename_i d hd
            cases hs
            exact does_load_fptr H ho hx ht hc.1 hc.2 hd hp.1
          · cases hs
        · cases hs
      · cases hs
    · cases hs
  · -- store
    rename_i t x y ho
    split at hs
    · rename_i ti ht
      split at hs
      · rename_i r wd i j d hx hy
        dsimp only at hs
        split at hs
        · rename_i R hg
          split at hs
          · rename_i hc
            simp only [Bool.and_eq_true, Bool.not_eq_true'] at hc
            obtain ⟨⟨⟨⟨hfz, hw⟩, hn⟩, hj⟩, h0⟩ := hc
            split at hs
            · rename_i hb
              split at hs
              · split at hs
                · rename_i hc2
                  cases hs
                  exact (does_store H ho ht hx hy hg hfz hw hn hj hp.1 (.inl ⟨hb, hc2⟩) hp.2.1 h0 (qs := [])).ps
                · cases hs
              · split at hs
                · rename_i hc2
                  simp only [Bool.and_eq_true] at hc2
                  cases hs
                  have hi : i < R.n := by have := hc2.2; simp [Nat.blt] at this; omega
                  exact does_store H ho ht hx hy hg hfz hw hn hj hi (.inl ⟨hb, hc2.1⟩) rfl h0
                · cases hs
            · split at hs
              · rename_i hc2
                cases hs
                have hn2 := hp.2.2.1
                have := does_store H ho ht hx hy hg hfz hw hn hj hp.1 (.inr hc2) hp.2.1 h0 (qs := [])
                rw [← hn2]
                exact this.ps
              · split at hs
                · rename_i hc2
                  cases hs
                  obtain ⟨hg1, hRw⟩ := gw_some hg
                  have H1 : Hyp X E w a ρ (fun k => if k = r then some { R with box := true } else g k) nid := by
                    refine ⟨H.T, H.op, fun k K hK => ?_, fun k K hK => ?_, H.gl⟩
                    · split at hK
                      · rename_i e
                        subst e
                        cases hK
                        exact (H.rt k R hg1).boxed hfz
                      · exact H.rt k K hK
                    · split at hK
                      · rename_i e
                        subst e
                        exact H.lt k R hg1
                      · exact H.lt k K hK
                  have hok : ∀ c, okc g c = okc (fun k => if k = r then some { R with box := true } else g k) c := fun c => by
                    cases c <;> simp only [okc] <;> split <;> simp_all
                  have hwh : whole (fun k => if k = r then some { R with box := true } else g k) d = true := by
                    cases d <;> simp only [whole] at hw ⊢ <;> first | rfl | (rw [← hok]; exact hw)
                  refine (does_store H1 ho ht hx hy (R := { R with box := true }) ?_ hfz hwh hn hj hp.1 (.inl ⟨rfl, ?_⟩) hp.2.1 h0 (qs := [])).ps
                  · simp [gw, hRw]
                  · exact (congrArg (fun f => (d.cells.map D.fl).all f) (funext fun c => (hok c).symm)).trans hc2
                · cases hs
          · cases hs
        · cases hs
      · cases hs
    · cases hs
  · -- binary
    rename_i op t x y t' ho
    split at hs
    · rename_i o' w' n xs hx hy
      split at hs <;> first | (cases hs; done) | skip
      rename_i e' hk
      have hu := kind_slice (kAt_kind H.T hk)
      have hq := H.op _ _ hy
      have hq' : a.eval y = .slice none 0 0 := hq.nil_inv
      obtain ⟨A, c, hv, hA⟩ : ∃ A c, a.eval x = .slice A n c ∧ (0 < n → A ≠ none) := (H.op _ _ hx).list_addr
      have hrun : (do eqGuard .eql t x y (a.eval x) (a.eval y); binOp .eql t (a.eval x) (a.eval y)).run X.P w = .ok (.bool A.isNone) w := by
        rw [hq', hv, Sem.run_bind, guard_plain (by rintro (⟨_, _, h, _⟩ | ⟨h, _⟩) <;> cases h)]
        simp only [Result.andThen_ok]
        simp only [binOp]
        simp [Op.equal, Op.maxDepth, eqNil_run hu 9999 A n c]
      split at hs
      · cases hs
        simp only [AllP, and_true] at hp
        refine does_bin H ho hx hy hrun ?_
        cases A with
        | none => exact absurd rfl (hA hp)
        | some a => exact .bool _ _
      · cases hs
        exact does_bin H ho hx hy hrun (.anyb _)
    · rename_i d e _ hx hy
      split at hs
      · rename_i ps v hb
        cases hs
        obtain ⟨u, h1, h2⟩ := bin_run H (x := x) (y := y) hb hp (H.op _ _ hx) (H.op _ _ hy)
        exact does_bin H ho hx hy h1 h2
      · cases hs
    · cases hs
  · -- unary
    rename_i op t x ho
    split at hs
    · rename_i d hx
      split at hs
      · rename_i v hu
        cases hs
        exact does_un H ho hx hu
      · cases hs
    · cases hs
  · -- convert
    rename_i s t x ho
    split at hs
    · rename_i ks k k0 n h1 h2 h3
      cases hs
      exact does_conv_int H ho h1 h2 h3
    · rename_i ks v h1 h2 h3
      cases hs
      exact does_conv_str H ho h1 h2 h3
    · rename_i e d h1 h2 h3
      split at hs
      · rename_i oo wd n xs he
        split at hs
        · rename_i hw
          cases hs
          have := Nat.eq_of_beq_eq_true hw
          subst this
          exact does_conv_bytes_list H ho h1 he h2 h3 hp.1
        · cases hs
      · rename_i r wd he
        split at hs
        · rename_i R hg
          split at hs
          · rename_i hc
            simp only [Bool.and_eq_true] at hc
            cases hs
            have := Nat.eq_of_beq_eq_true hc.1
            subst this
            refine does_conv_bytes_ref H ho h1 he h2 h3 hg ?_
            have hR := (H.rt _ _ (gw_some hg).1).n
            simp only [vlo, vln, List.drop_zero]
            rw [List.take_of_length_le (by omega)]
            exact hp.1
          · cases hs
        · cases hs
      · rename_i r wd lo n he
        split at hs
        · rename_i R hg
          split at hs
          · rename_i hc
            simp only [Bool.and_eq_true] at hc
            cases hs
            have := Nat.eq_of_beq_eq_true hc.1
            subst this
            exact does_conv_bytes_ref H ho h1 he h2 h3 hg hp.1
          · cases hs
        · cases hs
      · cases hs
    · cases hs
  · -- makeFunc
    rename_i f first caps ho
    split at hs
    · rename_i cs h1 h2
      cases hs
      exact does_makeFunc H ho h1 h2
    · cases hs
  · -- makeSlice
    rename_i t l c ho
    split at hs
    · rename_i ht
      split at hs
      · rename_i te k n k' m hte hl hc
        split at hs
        · rename_i hk
          simp only [Bool.and_eq_true] at hk
          cases hs
          obtain ⟨h1, h2, h3, h4, h5, _⟩ := hp
          subst h1
          exact does_make H (hfn _ (List.mem_singleton.2 rfl)) ho (kAt_look ht rfl) hte hl hc hk.1.1.1 hk.1.1.2 hk.1.2 hk.2 h2 h3 h4 h5
        · cases hs
      · cases hs
    · cases hs
  · -- slice
    rename_i t x lo hi ho
    split at hs
    · rename_i l u s hl hu hk hx
      split at hs
      · rename_i A B ps hc
        cases hs
        exact does_cut_str H ho hl hu hx hk hc hp
      · cases hs
    · rename_i l u e d hl hu hk hx
      split at hs
      · rename_i te hte
        split at hs
        · rename_i oo wd n xs
          split at hs
          · cases hs
          · rename_i hw
            split at hs
            · rename_i A B ps hc
              cases hs
              obtain ⟨h1, h2⟩ := AllP_append hp
              exact does_cut_list H ho hl hu hx hk hte (by simpa using hw) hc h1 h2.1 h2.2.1
            · cases hs
        · rename_i r wd
          split at hs
          · cases hs
          · rename_i hw
            split at hs
            · rename_i R hg
              split at hs
              · rename_i A B ps hc
                cases hs
                have := does_cut_ref H ho hl hu hx hk hte (by simpa using hw) hg (by simpa [vln] using hc) hp (qs := ps)
                simpa [vlo] using this
              · cases hs
            · cases hs
        · rename_i r wd k n
          split at hs
          · cases hs
          · rename_i hw
            split at hs
            · rename_i R hg
              split at hs
              · rename_i A B ps hc
                cases hs
                have := does_cut_ref H ho hl hu hx hk hte (by simpa using hw) hg (by simpa [vln] using hc) hp (qs := ps)
                simpa [vlo] using this
              · cases hs
            · cases hs
        · cases hs
      · cases hs
    · cases hs
  · -- fieldAddr
    rename_i s x f ho
    split at hs
    · rename_i hk
      split at hs
      · rename_i fi r wd i j hf1 hx
        split at hs
        · rename_i R hg
          split at hs
          · rename_i h0
            cases hs
            exact does_fieldAddr_ptr H ho hk rfl hf1 hx hg h0
          · cases hs
        · cases hs
      · rename_i fi wd xs i j hf1 hx
        split at hs
        · rename_i h0
          cases hs
          exact does_fieldAddr_fptr H ho hk rfl hf1 hx h0
        · cases hs
      · cases hs
    · cases hs
  · -- field
    rename_i t x f ho
    split at hs
    · rename_i hk
      split at hs
      · rename_i fi cs hf1 hx
        split at hs
        · rename_i hle
          split at hs
          · rename_i d hd
            cases hs
            exact does_field H ho hk rfl hf1 hx hle hd
          · cases hs
        · cases hs
      · cases hs
    · cases hs
  · -- indexAddr
    rename_i t x i ho
    split at hs
    · rename_i hk hx hi
      split at hs
      · rename_i te hte
        split at hs
        · rename_i oo wd n xs
          split at hs
          · rename_i hw
            cases hs
            exact does_index_list H ho (kAt_look hk rfl) hte hx hi hw hp.1 hp.2.1
          · cases hs
        · rename_i r wd
          split at hs
          · rename_i R hg
            split at hs
            · rename_i hw
              cases hs
              have := does_index_ref H ho (kAt_look hk rfl) hte hx hi hg hw hp.1 (by simpa [vln] using hp.2.1) (qs := [])
              refine Does.ps (ps := []) ?_
              simpa [vlo] using this
            · cases hs
          · cases hs
        · rename_i r wd lo n
          split at hs
          · rename_i R hg
            split at hs
            · rename_i hw
              cases hs
              have := does_index_ref H ho (kAt_look hk rfl) hte hx hi hg hw hp.1 (by simpa [vln] using hp.2.1) (qs := [])
              refine Does.ps (ps := []) ?_
              simpa [vlo] using this
            · cases hs
          · cases hs
        · cases hs
      · cases hs
    · rename_i hk hx hi
      split at hs
      · rename_i te hte
        split at hs
        · rename_i hn
          cases hs
          exact does_index_arr H ho (kAt_look hk rfl) hte hx hi hn hp.1 hp.2.1
        · cases hs
      · cases hs
    · cases hs
  · -- index
    rename_i t x i ho
    split at hs
    · rename_i s kk k hk hx hi
      cases hs
      obtain ⟨h1, h2⟩ := AllP_append hp
      exact does_index_str H ho hk hx hi h1.1 h1.2.1 h2.1
    · cases hs
  · -- extract
    rename_i t k ho
    split at hs
    · rename_i vs hx
      split at hs
      · rename_i d hd
        cases hs
        exact does_extract H ho hx hd
      · cases hs
    · cases hs
  · -- call
    rename_i c ho
    split at hs
    · rename_i f hc
      split at hs
      · rename_i k caps as hk has
        exact does_call H hf ho hc hk has hs hp
      · cases hs
    · -- len
      rename_i hc
      split at hs
      · rename_i ti x hti hx
        obtain ⟨t, ht, hlook⟩ := Option.bind_eq_some_iff.1 hti
        split at hs
        · rename_i s hk hxs
          cases hs
          exact does_len H ho hc ht hx (kAt_look hlook hk) (.inl ⟨rfl, s, hxs, rfl⟩)
        · rename_i e oo wd n xs hk hxs
          cases hs
          obtain ⟨A, cap, us, hv, _⟩ := (H.op _ _ hxs).list_inv (.inl rfl)
          exact does_len H ho hc ht hx (kAt_look hlook hk) (.inr ⟨⟨e, rfl⟩, A, cap, hv⟩)
        · rename_i e hk hxs
          cases hs
          exact does_len H ho hc ht hx (kAt_look hlook hk) (.inr ⟨⟨e, rfl⟩, none, 0, (H.op _ _ hxs).nil_inv⟩)
        · rename_i e r wd hk hxs
          split at hs
          · rename_i R hg
            cases hs
            have hR := H.rt _ _ (gw_some hg).1
            obtain ⟨_, hst, hal⟩ := (H.op _ _ hxs).ref_inv
            obtain ⟨A, cap, hv, _⟩ := hal hR.alive
            rw [vw_eq hR] at hv
            exact does_len H ho hc ht hx (kAt_look hlook hk) (.inr ⟨⟨e, rfl⟩, A, cap, hv⟩)
          · cases hs
        · rename_i e r wd lo n hk hxs
          split at hs
          · rename_i R hg
            cases hs
            have hR := H.rt _ _ (gw_some hg).1
            obtain ⟨_, hst, hal⟩ := (H.op _ _ hxs).ref_inv
            obtain ⟨A, cap, hv, _⟩ := hal hR.alive
            rw [vw_eq hR] at hv
            exact does_len H ho hc ht hx (kAt_look hlook hk) (.inr ⟨⟨e, rfl⟩, A, cap, hv⟩)
          · cases hs
        · cases hs
      · cases hs
    · -- append
      rename_i hc
      split at hs
      · rename_i t t' s x hts has
        split at hs
        · rename_i e _ _ _ k' hl hk'
          split at hs
          · rename_i te ds dx hte hds hdx
            have hfr : E.st nid = .fresh := by
              have hs' := hs
              unfold appD at hs'
              split at hs'
              · cases hs'
              · split at hs'
                · split at hs'
                  · cases hs'
                  · cases hs'
                    exact hfn _ (List.mem_append_right _ (List.mem_append_right _ (List.mem_singleton.2 rfl)))
                · cases hs'
            exact does_append H hfr ho hc hts has (kAt_look hl rfl) hk' hte hds hdx hs hp
          · cases hs
        · cases hs
      · cases hs
    · rename_i hc
      exact does_minmax (mn := true) H ho hc hs
    · rename_i hc
      exact does_minmax (mn := false) H ho hc hs
    · cases hs
  · cases hs

end
end Go.Proofs.Ytlniejjcejackaa.Ab
