/- The steps of functions on plain data, part 4: no condition. -/
import Derived.Test.YtfnhclmdobdkbaaDoorAb3
import Derived.ChangeArms
import Derived.ChangeShapes
import Derived.ChangeOld
import Derived.DataReads
import Derived.WalkKit
import Derived.ProofKit
import Derived.OpenShut
import Derived.ShutString
import Derived.SizedLaws
import Derived.Carry
import Derived.Handed
import Derived.LaidHandle
import Derived.LaidMore
import Derived.LaidSub
import Derived.ChangeVars
set_option linter.unusedVariables false
set_option linter.unusedSimpArgs false
namespace Go.Proofs.YtfnhclmdobdkbaaDoor.Ab

/-! ### Who is given, and as what -/
def give1q (q : Nat) : D → D → List (Nat × Nat)
  | .ref r _ none, .list true _ _ _ => [(r, q)]
  | _, _ => []
def giveLq (q : Nat) : List D → List D → List (Nat × Nat)
  | d :: r, d' :: r' => give1q q d d' ++ giveLq (q + 1) r r'
  | _, _ => []
def giveVq (q : Nat) : D → D → List (Nat × Nat)
  | .agg cs, .agg cs' => giveLq q cs cs'
  | d, d' => give1q q d d'
def giveVsq (q : Nat) : List D → List D → List (Nat × Nat)
  | d :: r, d' :: r' => giveVq q d d' ++ giveVsq (q + d'.cells.length) r r'
  | _, _ => []

theorem give1_ids {g : Nat → Option Root} {M : Nat} {d d' : D} {ps : List Prop} {ids : List Nat} (h : give1 g M d d' = some (ps, ids)) (q : Nat) : (give1q q d d').map Prod.fst = ids ∧ ∀ r ∈ ids, M ≤ r ∧ ∃ R, g r = some R ∧ R.fz = false := by
  unfold give1 at h
  split at h
  · split at h <;> cases h; exact ⟨rfl, by simp⟩
  · cases h; exact ⟨rfl, by simp⟩
  · cases h; exact ⟨rfl, by simp⟩
  · cases h; exact ⟨rfl, by simp⟩
  · cases h; exact ⟨rfl, by simp⟩
  · split at h <;> cases h; exact ⟨rfl, by simp⟩
  · split at h
    · rename_i R hg
      split at h
      · rename_i hc
        simp only [Bool.and_eq_true, Bool.not_eq_true'] at hc
        cases h
        refine ⟨rfl, fun r hr => ?_⟩
        simp only [List.mem_cons, List.not_mem_nil, or_false] at hr
        subst hr
        exact ⟨Nat.le_of_ble_eq_true hc.1.1.2, R, (gw_some hg).1, hc.1.2⟩
      · cases h
    · cases h
  · split at h
    · split at h
      · cases h; exact ⟨rfl, by simp⟩
      · cases h
    · cases h
  · cases h

theorem giveL_ids {g : Nat → Option Root} {M : Nat} : ∀ {ds ds' : List D} {ps : List Prop} {ids : List Nat}, giveL g M ds ds' = some (ps, ids) → ∀ q, (giveLq q ds ds').map Prod.fst = ids ∧ ∀ r ∈ ids, M ≤ r ∧ ∃ R, g r = some R ∧ R.fz = false
  | [], [], ps, ids, h, q => by cases h; exact ⟨rfl, by simp⟩
  | [], _ :: _, _, _, h, _ => by simp [giveL] at h
  | _ :: _, [], _, _, h, _ => by simp [giveL] at h
  | d :: ds, d' :: ds', ps, ids, h, q => by
    simp only [giveL] at h
    split at h
    · rename_i a b h1 h2
      cases h
      obtain ⟨e1, f1⟩ := give1_ids (ids := a.2) (ps := a.1) h1 q
      obtain ⟨e2, f2⟩ := giveL_ids (ids := b.2) (ps := b.1) h2 (q + 1)
      refine ⟨by simp [giveLq, e1, e2], fun r hr => ?_⟩
      rcases List.mem_append.1 hr with hr | hr
      · exact f1 r hr
      · exact f2 r hr
    · cases h

theorem giveV_ids {g : Nat → Option Root} {M : Nat} {d d' : D} {ps : List Prop} {ids : List Nat} (h : giveV g M d d' = some (ps, ids)) (q : Nat) : (giveVq q d d').map Prod.fst = ids ∧ ∀ r ∈ ids, M ≤ r ∧ ∃ R, g r = some R ∧ R.fz = false := by
  unfold giveV at h
  unfold giveVq
  split at h
  · exact giveL_ids h q
  · rename_i hne
    split
    · exact (hne _ _ rfl rfl).elim
    · exact give1_ids h q

theorem giveVs_ids {g : Nat → Option Root} {M : Nat} : ∀ {ds ds' : List D} {ps : List Prop} {ids : List Nat}, giveVs g M ds ds' = some (ps, ids) → ∀ q, (giveVsq q ds ds').map Prod.fst = ids ∧ ∀ r ∈ ids, M ≤ r ∧ ∃ R, g r = some R ∧ R.fz = false
  | [], [], ps, ids, h, q => by cases h; exact ⟨rfl, by simp⟩
  | [], _ :: _, _, _, h, _ => by simp [giveVs] at h
  | _ :: _, [], _, _, h, _ => by simp [giveVs] at h
  | d :: ds, d' :: ds', ps, ids, h, q => by
    simp only [giveVs] at h
    split at h
    · rename_i a b h1 h2
      cases h
      obtain ⟨e1, f1⟩ := giveV_ids (ids := a.2) (ps := a.1) h1 q
      obtain ⟨e2, f2⟩ := giveVs_ids (ids := b.2) (ps := b.1) h2 (q + d'.cells.length)
      refine ⟨by simp [giveVsq, e1, e2], fun r hr => ?_⟩
      rcases List.mem_append.1 hr with hr | hr
      · exact f1 r hr
      · exact f2 r hr
    · cases h

def lk (r : Nat) : List (Nat × Nat) → Option Nat
  | [] => none
  | x :: xs => if x.1 = r then some x.2 else lk r xs

theorem lk_of : ∀ {ps : List (Nat × Nat)} {r q : Nat}, distinct (ps.map Prod.fst) = true → (r, q) ∈ ps → lk r ps = some q
  | [], r, q, _, h => by cases h
  | x :: ps, r, q, hd, h => by
    simp only [List.map_cons, distinct, Bool.and_eq_true, Bool.not_eq_true'] at hd
    simp only [lk]
    rcases List.mem_cons.1 h with rfl | h
    · simp
    · have hne : ¬ x.1 = r := fun e => distinct_any hd.1 (e ▸ List.mem_map.2 ⟨(r, q), h, rfl⟩)
      rw [if_neg hne]
      exact lk_of hd.2 h

theorem lk_mem : ∀ {ps : List (Nat × Nat)} {r q : Nat}, lk r ps = some q → r ∈ ps.map Prod.fst
  | [], r, q, h => by simp [lk] at h
  | x :: ps, r, q, h => by
    simp only [lk] at h
    split at h
    · rename_i hx
      exact hx ▸ List.mem_cons_self ..
    · exact List.mem_cons_of_mem _ (lk_mem h)

def Env.give (E : Env) (M : Nat) (ps : List (Nat × Nat)) : Env :=
  { E with
    ow := fun b => match E.ow b with
      | .own r p => (match lk r ps with | some q => .own M ((q, 0) :: p) | none => .own r p)
      | x => x
    st := fun r => match lk r ps with | some _ => .dead | none => E.st r }

section
variable {X : Ctx} {f : FuncId} {M : Nat} {k k' : List Item} {σ σ' : St} {res res' : List D} {G' : List Root} {E0 E : Env} {w0 w : World} {a : Act} {R : Ending → World → Prop} {qs : List (Nat × Nat)}

theorem give_none {r : Nat} (h : lk r qs = none) : (E.give M qs).st r = E.st r := by simp [Env.give, h]

theorem mv_give : Mv E w (E.give M qs) w := by
  refine ⟨Nat.le_refl _, fun b hb ho => ⟨rfl, by simp [Env.give, ho]⟩, fun r hr => ?_, fun r hr hal => ?_⟩
  · simp only [Env.give]
    split
    · simp
    · exact hr
  · cases hl : lk r qs with
    | some q =>
      unfold Alive at hal
      simp [Env.give, hl] at hal
    | none =>
      refine ⟨by unfold Alive at *; rwa [give_none hl] at hal, rfl, rfl, fun N hs => ?_⟩
      obtain ⟨s1, s2, cs, ty, s3, s4⟩ := hs
      unfold Shp
      rw [give_none hl]
      refine ⟨s1, ?_, cs, ty, s3, s4⟩
      by_cases ho : E.st r = .own
      · rw [ho, if_pos rfl] at s2 ⊢
        simp [Env.give, s2, hl]
      · rw [if_neg ho] at s2 ⊢
        simp [Env.give, s2]

theorem give1_rep (hrt : ∀ r R, getR σ.G r = some R → RootRel E w r R) (hd : distinct (qs.map Prod.fst) = true) {d d' : D} {ps : List Prop} {ids : List Nat} {u : Value} {q : Nat} (h : give1 (getR σ.G) M d d' = some (ps, ids)) (hp : AllP ps)
    (hq : ∀ x ∈ give1q q d d', x ∈ qs) (hr : Rep E w .slot d u) : Rep (E.give M qs) w (.own M [(q, 0)]) d' u := by
  have hmv : Mv E w (E.give M qs) w := mv_give
  unfold give1 at h
  split at h
  · split at h <;> cases h
    rename_i hk
    subst hk
    rw [hr.int_inv, hp.1]
    exact .int _ _ _
  · cases h
    rw [hr.bool_inv, hp.1]
    exact .bool _ _
  · cases h
    rw [hr.str_inv, hp.1]
    exact .str _ _
  · rw [hr.nil_inv]
    exact .nil _
  · rename_i o wd n xs
    cases h
    obtain ⟨rfl, rfl, _⟩ := hp
    rw [hr.nil_inv]
    cases o with
    | true => exact .olist _ M [(q, 0)] _ _ _ _ _ (fun _ _ => undef) (.inl rfl) rfl (Nat.le_refl _) (by simp) (fun h => by omega) (fun i j x c h => by simp at h)
    | false => exact .flist _ _ _ _ _ _ _ (fun _ _ => undef) (.inr (.inr rfl)) rfl (Nat.le_refl _) (by simp) (fun h => by omega) (fun i j x c h => by simp at h)
  · rename_i oo wd n xs wd' n' xs'
    split at h
    · rename_i hw
      cases h
      have := Nat.eq_of_beq_eq_true hw
      subst this
      obtain ⟨rfl, rfl, _⟩ := hp
      obtain ⟨A, cap, us, rfl, hlen, hcap, hwd, ha, hrr⟩ := hr.list_inv (.inl rfl)
      refine .flist _ _ _ _ _ _ _ us (.inr (.inr rfl)) hlen hcap hwd (fun h0 => ?_) (fun i j x c hx hj => (hrr i j x c hx hj).mv hmv (m' := .fz) trivial)
      obtain ⟨b, hb, h1, h2, h3⟩ := ha h0
      exact ⟨b, hb, by simp [Env.give, h1], h2, h3⟩
    · cases h
  · rename_i r wd wd' n' xs'
    split at h
    · rename_i R hg
      split at h
      · rename_i hc
        simp only [Bool.and_eq_true, Bool.not_eq_true'] at hc
        obtain ⟨⟨⟨hw, hM⟩, hfz⟩, hbox⟩ := hc
        cases h
        have := Nat.eq_of_beq_eq_true hw
        subst this
        obtain ⟨rfl, rfl, _⟩ := hp
        obtain ⟨hg', rfl⟩ := gw_some hg
        have hR := hrt _ _ hg'
        have hst : E.st r = .own := by rw [hR.st, hfz]; rfl
        have hlk : lk r qs = some q := lk_of hd (hq _ (by simp [give1q]))
        obtain ⟨_, _, hal⟩ := hr.ref_inv
        obtain ⟨A, cap, rfl, hcap, hlen, hA⟩ := hal hR.alive
        rw [vw_eq hR none] at hcap hlen hA ⊢
        simp only [vlo, vln, Nat.zero_mul, Nat.zero_add] at hcap hlen hA ⊢
        have hadd : (E.adr r).add 0 = E.adr r := by simp [Addr.add]
        rw [hadd] at hA
        have hcell : ∃ us : Nat → Nat → Value, ∀ (i j : Nat) x c, R.xs[i]? = some x → x.cells[j]? = some c → w.cell? ((E.adr r).add (i * R.w + j)) = some (us i j) ∧ Rep E w (R.md r i j) c (us i j) := by
          refine ⟨fun i j => (w.cell? ((E.adr r).add (i * R.w + j))).getD undef, fun i j x c hx hj => ?_⟩
          obtain ⟨u, hu, hr⟩ := hR.cell i j x c hx hj
          refine ⟨by simp [hu], ?_⟩
          simp only [hu, Option.getD_some]
          exact hr
        obtain ⟨us, hus⟩ := hcell
        refine .olist _ M [(q, 0)] _ _ _ _ _ us (.inl rfl) hR.n hcap hR.wd (fun h0 => ?_) (fun i j x c hx hj => ?_)
        · obtain ⟨rfl, s1, s2, cs, ty, s3, s4⟩ := hA h0
          rw [hst, if_pos rfl] at s2
          exact ⟨_, cs, ty, rfl, s1, by simp [Env.give, s2, hlk], s3, s4, fun i j x c hx hj => (hus i j x c hx hj).1⟩
        · have := (hus i j x c hx hj).2
          unfold Root.md at this
          rw [hfz, hbox] at this
          simp only [Bool.false_eq_true, if_false] at this
          refine this.mv hmv (m' := .own M ([(q, 0)] ++ [(i, j)])) (fun b p hb ho => ⟨rfl, ?_⟩)
          simp [Env.give, ho, hlk]
      · cases h
    · cases h
  · rename_i r wd wd' n' xs'
    split at h
    · rename_i R hg
      split at h
      · rename_i hc
        simp only [Bool.and_eq_true] at hc
        obtain ⟨hw, hfz⟩ := hc
        cases h
        have := Nat.eq_of_beq_eq_true hw
        subst this
        obtain ⟨rfl, rfl, _⟩ := hp
        obtain ⟨hg', rfl⟩ := gw_some hg
        have hR := hrt _ _ hg'
        have hst : E.st r = .fz := by rw [hR.st, hfz]; rfl
        obtain ⟨_, _, hal⟩ := hr.ref_inv
        obtain ⟨A, cap, rfl, hcap, hlen, hA⟩ := hal hR.alive
        rw [vw_eq hR none] at hcap hlen hA ⊢
        simp only [vlo, vln, Nat.zero_mul, Nat.zero_add] at hcap hlen hA ⊢
        have hadd : (E.adr r).add 0 = E.adr r := by simp [Addr.add]
        rw [hadd] at hA
        have hcell : ∃ us : Nat → Nat → Value, ∀ (i j : Nat) x c, R.xs[i]? = some x → x.cells[j]? = some c → w.cell? ((E.adr r).add (i * R.w + j)) = some (us i j) ∧ Rep E w (R.md r i j) c (us i j) := by
          refine ⟨fun i j => (w.cell? ((E.adr r).add (i * R.w + j))).getD undef, fun i j x c hx hj => ?_⟩
          obtain ⟨u, hu, hr⟩ := hR.cell i j x c hx hj
          refine ⟨by simp [hu], ?_⟩
          simp only [hu, Option.getD_some]
          exact hr
        obtain ⟨us, hus⟩ := hcell
        refine .flist _ _ _ _ _ _ _ us (.inr (.inr rfl)) hR.n hcap hR.wd (fun h0 => ?_) (fun i j x c hx hj => ?_)
        · obtain ⟨rfl, s1, s2, cs, ty, s3, s4⟩ := hA (by omega)
          rw [hst] at s2
          exact ⟨_, rfl, by simp [Env.give, s2], lt_of_get s3, fun i j x c hx hj => (hus i j x c hx hj).1⟩
        · have := (hus i j x c hx hj).2
          unfold Root.md at this
          rw [hfz] at this
          simp only [if_true] at this
          exact this.mv hmv (m' := .fz) trivial
      · cases h
    · cases h
  · cases h

theorem giveL_rep (hrt : ∀ r R, getR σ.G r = some R → RootRel E w r R) (hd : distinct (qs.map Prod.fst) = true) : ∀ {ds ds' : List D} {ps : List Prop} {ids : List Nat} {q : Nat}, giveL (getR σ.G) M ds ds' = some (ps, ids) → AllP ps → (∀ x ∈ giveLq q ds ds', x ∈ qs) →
    ds'.length = ds.length ∧ ∀ (i : Nat) d d' u, ds[i]? = some d → ds'[i]? = some d' → Rep E w .slot d u → Rep (E.give M qs) w (.own M [(q + i, 0)]) d' u
  | [], [], ps, ids, q, h, hp, _ => ⟨rfl, fun i d d' u h => by simp at h⟩
  | [], _ :: _, _, _, _, h, _, _ => by simp [giveL] at h
  | _ :: _, [], _, _, _, h, _, _ => by simp [giveL] at h
  | d :: ds, d' :: ds', ps, ids, q, h, hp, hq => by
    simp only [giveL] at h
    split at h
    · rename_i a b h1 h2
      cases h
      obtain ⟨hp1, hp2⟩ := AllP_append hp
      obtain ⟨hl, hr⟩ := giveL_rep hrt hd (q := q + 1) (ps := b.1) (ids := b.2) h2 hp2 fun x hx => hq x (List.mem_append_right _ hx)
      refine ⟨by simp [hl], fun i c c' u hc hc' hcr => ?_⟩
      cases i with
      | zero =>
        simp only [List.getElem?_cons_zero, Option.some.injEq] at hc hc'
        subst hc hc'
        exact give1_rep hrt hd (ps := a.1) (ids := a.2) h1 hp1 (fun x hx => hq x (List.mem_append_left _ hx)) hcr
      | succ i =>
        have := hr i c c' u (by simpa using hc) (by simpa using hc') hcr
        rwa [show q + 1 + i = q + (i + 1) by omega] at this
    · cases h

theorem giveVs_rep (hrt : ∀ r R, getR σ.G r = some R → RootRel E w r R) (hd : distinct (qs.map Prod.fst) = true) : ∀ {ds ds' : List D} {us : List Value} {ps : List Prop} {ids : List Nat} {q : Nat}, giveVs (getR σ.G) M ds ds' = some (ps, ids) → AllP ps → (∀ x ∈ giveVsq q ds ds', x ∈ qs) →
    us.length = ds.length → (∀ (i : Nat) d u, ds[i]? = some d → us[i]? = some u → Rep E w .slot d u) → ResAll (E.give M qs) w M q ds' us
  | [], [], us, ps, ids, q, h, hp, _, hl, _ => by
    obtain rfl : us = [] := List.eq_nil_of_length_eq_zero (by simpa using hl)
    trivial
  | [], _ :: _, _, _, _, _, h, _, _, _, _ => by simp [giveVs] at h
  | _ :: _, [], _, _, _, _, h, _, _, _, _ => by simp [giveVs] at h
  | d :: ds, d' :: ds', [], ps, ids, q, h, hp, hq, hl, _ => by simp at hl
  | d :: ds, d' :: ds', u :: us, ps, ids, q, h, hp, hq, hl, hr => by
    simp only [giveVs] at h
    split at h
    · rename_i a b h1 h2
      cases h
      obtain ⟨hp1, hp2⟩ := AllP_append hp
      refine ⟨?_, giveVs_rep hrt hd (ps := b.1) (ids := b.2) h2 hp2 (fun x hx => hq x (List.mem_append_right _ hx)) (by simpa using hl) fun i d u hd hu => hr (i + 1) d u (by simpa using hd) (by simpa using hu)⟩
      have hr0 := hr 0 d u rfl rfl
      have hq0 : ∀ x ∈ giveVq q d d', x ∈ qs := fun x hx => hq x (List.mem_append_left _ hx)
      unfold giveV at h1
      split at h1
      · rename_i cs cs'
        obtain ⟨vs, rfl, hvl, hv⟩ := hr0.agg_inv
        obtain ⟨hl2, hr2⟩ := giveL_rep hrt hd (q := q) (ps := a.1) (ids := a.2) h1 hp1 hq0
        refine ⟨vs, rfl, by omega, fun j c x hc hx => ?_⟩
        have hlt : j < cs.length := by rw [← hl2]; exact (List.getElem?_eq_some_iff.1 hc).1
        exact hr2 j _ c x (List.getElem?_eq_getElem hlt) hc (hv j _ x (List.getElem?_eq_getElem hlt) hx)
      · rename_i hne
        have hnd : ∀ cs', d' ≠ .agg cs' := fun cs' e => by
          subst e
          cases d <;> simp [give1] at h1
        have e : ResRep (E.give M qs) w M q d' u = Rep (E.give M qs) w (.own M [(q, 0)]) d' u := by
          cases d' <;> first | rfl | exact absurd rfl (hnd _)
        rw [e]
        refine give1_rep hrt hd (ps := a.1) (ids := a.2) h1 hp1 (fun x hx => hq0 x ?_) hr0
        cases d' <;> first | exact absurd rfl (hnd _) | (cases d <;> exact hx)
    · cases h

theorem rootsEq_ok : ∀ {G : List (Option Root)} {G' : List Root} {ps : List Prop}, rootsEq G G' = some ps → AllP ps → ∀ (k : Nat) R, G'[k]? = some R → R.dead = false → getR G k = some R ∧ R.fz = false
  | _, [], ps, h, hp, k, R, hk, _ => by simp at hk
  | [], _ :: _, ps, h, hp, k, R, hk, _ => by simp [rootsEq] at h
  | none :: G, R' :: G', ps, h, hp, k, R, hk, hdd => by
    simp only [rootsEq] at h
    split at h
    · rename_i ps' h1
      split at h
      · rename_i hdead
        cases h
        cases k with
        | zero =>
          simp only [List.getElem?_cons_zero, Option.some.injEq] at hk
          subst hk
          rw [hdead] at hdd
          cases hdd
        | succ k => exact rootsEq_ok h1 hp k R (by simpa using hk) hdd
      · cases h
    · cases h
  | some R0 :: G, R' :: G', ps, h, hp, k, R, hk, hdd => by
    simp only [rootsEq] at h
    split at h
    · rename_i ps' h1
      split at h
      · cases h
      · rename_i hfz
        cases h
        obtain ⟨rfl, hp⟩ := hp
        cases k with
        | zero =>
          simp only [List.getElem?_cons_zero, Option.some.injEq] at hk
          subst hk
          exact ⟨rfl, by simpa using hfz⟩
        | succ k => exact rootsEq_ok h1 hp k R (by simpa using hk) hdd
    · cases h

def resVal (tmps : Array Value) (x : ResultVar) : Sem Value :=
  match x with
  | .tmp t => pure (tmps.getD t undef)
  | .cell a t => do loadVar t (← asAddr (tmps.getD a undef))

theorem resD_ok (hm : TabOK X.P X.T) (hS : SR X M E0 w0 σ a w E) : ∀ {rv : List ResultVar} {ds : List D}, resD X σ rv = some ds → ∃ us : List Value,
    (rv.mapM (resVal a.tmps)).run X.P w = .ok us w ∧ us.length = ds.length ∧ ∀ (i : Nat) d u, ds[i]? = some d → us[i]? = some u → Rep E w .slot d u
  | [], ds, h => by
    simp only [resD, Option.some.injEq] at h
    subst h
    exact ⟨[], by simp, rfl, fun i d u h => by simp at h⟩
  | .tmp t :: rv, ds, h => by
    simp only [resD] at h
    split at h
    · rename_i d ds' h1 h2
      cases h
      obtain ⟨us, hrun, hl, hr⟩ := resD_ok hm hS h2
      refine ⟨a.tmps.getD t undef :: us, by simp [List.mapM_cons, resVal, hrun], by simp [hl], fun i d' u hd hu => ?_⟩
      cases i with
      | zero =>
        simp only [List.getElem?_cons_zero, Option.some.injEq] at hd hu
        subst hd hu
        exact hS.sl t _ h1
      | succ i => exact hr i d' u (by simpa using hd) (by simpa using hu)
    · cases h
  | .cell t ty :: rv, ds, h => by
    simp only [resD] at h
    split at h
    · rename_i k w1 ti ds' h1 h2 h3
      split at h
      · rename_i fz wd n cs hg
        split at h
        · rename_i hc
          simp only [Bool.and_eq_true] at hc
          obtain ⟨⟨⟨hw, hload⟩, hn⟩, h0⟩ := hc
          have h0 : 0 < ti.size := by simp [Nat.blt] at h0; omega
          split at h
          · rename_i d hd
            cases h
            have hw := Nat.eq_of_beq_eq_true hw
            have hn := Nat.eq_of_beq_eq_true hn
            obtain ⟨us, hrun, hl, hr⟩ := resD_ok hm hS h3
            obtain ⟨hg', hRw⟩ := gw_some hg
            simp only at hRw
            have hR := hS.rt _ _ hg'
            obtain ⟨inf, z, hT⟩ := tyOK hm h2
            have hv := (hS.sl t _ h1).ptr_inv.2.2 hR.alive
            simp only [Nat.zero_mul, Nat.add_zero] at hv
            have hcells : ∃ vs : List Value, vs.length = cs.length ∧ (∀ (j : Nat) u, vs[j]? = some u → w.cell? ((E.adr k).add j) = some u) ∧ ∀ (j : Nat) c u, cs[j]? = some c → vs[j]? = some u → Rep E w .slot c u := by
              refine ⟨(List.range cs.length).map fun j => (w.cell? ((E.adr k).add j)).getD undef, by simp, fun j u hu => ?_, fun j c u hc hu => ?_⟩
              · have hlt : j < cs.length := by simpa using (List.getElem?_eq_some_iff.1 hu).1
                obtain ⟨u0, hu0, _⟩ := hR.cell 0 j (.agg cs) _ rfl (List.getElem?_eq_getElem hlt)
                simp only [Nat.zero_mul, Nat.zero_add] at hu0
                simp [hlt, hu0] at hu
                rw [hu0, hu]
              · have hlt : j < cs.length := (List.getElem?_eq_some_iff.1 hc).1
                obtain ⟨u0, hu0, hr0⟩ := hR.cell 0 j (.agg cs) c rfl hc
                simp only [Nat.zero_mul, Nat.zero_add] at hu0
                simp [hlt, hu0] at hu
                subst hu
                exact hr0.lift (.inr (List.all_eq_true.1 hload c (List.mem_of_getElem? hc)))
            obtain ⟨vs, hvl, hvc, hvr⟩ := hcells
            have hone := asOne_ok hd (us := vs) hvl hvr
            have hload' : ∃ u, (loadVar ty (E.adr k)).run X.P w = .ok u w ∧ Rep E w .slot d u := by
              cases ha : ti.k.agg with
              | true =>
                simp only [ha, if_true] at hone
                exact ⟨_, run_load_cells hT (w := w) (b := E.adr k) (us := vs) (v := .agg vs.toArray) (by omega) h0 hvc (by simp [ha]), hone⟩
              | false =>
                simp only [ha, Bool.false_eq_true, if_false] at hone
                obtain ⟨u, rfl, hru⟩ := hone
                exact ⟨u, run_load_cells hT (w := w) (b := E.adr k) (us := [u]) (v := u) (by omega) h0 hvc (by simp [ha]), hru⟩
            obtain ⟨u, hu, hru⟩ := hload'
            have hev : a.tmps.getD t undef = .pointer (some (E.adr k)) := by
              have : (E.adr k).add 0 = E.adr k := by simp [Addr.add]
              rw [this] at hv
              exact hv
            refine ⟨u :: us, ?_, by simp [hl], fun i d' u' hd' hu' => ?_⟩
            · rw [List.mapM_cons]
              simp only [resVal, hev, asAddr, Sem.run_bind, Sem.run_pure, Result.andThen_ok]
              rw [hu]
              simp only [Result.andThen_ok]
              rw [hrun]
              simp
            · cases i with
              | zero =>
                simp only [List.getElem?_cons_zero, Option.some.injEq] at hd' hu'
                subst hd' hu'
                exact hru
              | succ i => exact hr i d' u' (by simpa using hd') (by simpa using hu')
          · cases h
        · cases h
      · cases h
    · cases h

theorem results_run {P : Program} {fn : Func} {tmps : Array Value} {us : List Value} (h : (fn.results.toList.mapM (resVal tmps)).run P w = .ok us w) : (results fn tmps).run P w = .ok (pack us) w := by
  have e : results fn tmps = (do let vs ← fn.results.mapM (resVal tmps); pure (if h : vs.size = 1 then vs[0] else .tuple vs)) := rfl
  rw [e, Array.mapM_eq_mapM_toList]
  simp only [Sem.run_bind, Sem.run_map, h, Result.andThen_ok, Sem.run_pure]
  match us with
  | [] => rfl
  | [u] => rfl
  | u :: u' :: us => simp [pack]

/-- The end of a function. -/
theorem fin_ok (hm : TabOK X.P X.T) {fn : Func} (hf : X.P.funcs[f]? = some fn) {ps : List Prop} (h : fin X M fn.results.toList k σ res G' = some ps) (hp : AllP ps) : Wc X f M k σ res G' := by
  intro G E0 w0 a w E hG hS
  have key : ∃ ds ps' ids ps2, resD X σ fn.results.toList = some ds ∧ giveVs (getR σ.G) M ds res = some (ps', ids) ∧ rootsEq σ.G G' = some ps2 ∧ distinct ids = true ∧ G'.length = M ∧ AllP ps' ∧ AllP ps2 ∧ ((∃ r, k = .code .ret :: r) ∨ k = []) := by
    unfold fin at h
    split at h
    · split at h
      · rename_i ds hds
        split at h
        · rename_i ps' ids ps2 h1 h2
          split at h
          · rename_i hc
            simp only [Bool.and_eq_true] at hc
            cases h
            obtain ⟨hp1, hp2⟩ := AllP_append hp
            exact ⟨ds, ps', ids, ps2, hds, h1, h2, hc.1, Nat.eq_of_beq_eq_true hc.2, hp1, hp2, .inl ⟨_, rfl⟩⟩
          · cases h
        · cases h
      · cases h
    · split at h
      · rename_i ds hds
        split at h
        · rename_i ps' ids ps2 h1 h2
          split at h
          · rename_i hc
            simp only [Bool.and_eq_true] at hc
            cases h
            obtain ⟨hp1, hp2⟩ := AllP_append hp
            exact ⟨ds, ps', ids, ps2, hds, h1, h2, hc.1, Nat.eq_of_beq_eq_true hc.2, hp1, hp2, .inr rfl⟩
          · cases h
        · cases h
      · cases h
    · cases h
  obtain ⟨ds, ps', ids, ps2, hds, hg, hre, hd, hl, hp1, hp2, hk⟩ := key
  obtain ⟨us, hrun, hul, hr⟩ := resD_ok hm hS hds
  obtain ⟨hids, hlow⟩ := giveVs_ids hg 0
  have hv := results_run hrun
  have hlk : ∀ r, r < M → lk r (giveVsq 0 ds res) = none := fun r hr => by
    cases hx : lk r (giveVsq 0 ds res) with
    | none => rfl
    | some q =>
      have := lk_mem hx
      rw [hids] at this
      have := (hlow r this).1
      omega
  have hmv : Mv E w (E.give M (giveVsq 0 ds res)) w := mv_give
  have hPost : Post E0 w0 G res G' (.returned (pack us)) w := by
    refine ⟨E.give M (giveVsq 0 ds res), us, rfl, ?_, by rw [hl, hG], fun k R hk hdd => ?_, ?_⟩
    · rw [hG]
      refine ⟨hS.frm.sz, hS.frm.os, hS.frm.tape, hS.frm.output, fun b hb ho => ?_, fun b hb ho => ?_, fun r hr => ?_, hS.frm.shape, fun r hr hst => ?_⟩
      · obtain ⟨h1, h2⟩ := hS.frm.fz b hb ho
        exact ⟨h1, by simp [Env.give, h2]⟩
      · obtain ⟨h1, h2⟩ := hS.frm.far b hb ho
        exact ⟨h1, by simp [Env.give, h2]⟩
      · exact hS.frm.adr r hr
      · rw [give_none (hlk r hr)] at hst
        obtain ⟨h1, h2⟩ := hS.frm.shp r hr hst
        refine ⟨h1, fun N hN => ?_⟩
        exact (hmv.ref r (by rw [hst]; simp) (.inl (by rw [give_none (hlk r hr)]; exact hst))).2.2.2 N (h2 N hN)
    · obtain ⟨h1, h2⟩ := rootsEq_ok hre hp2 k R hk hdd
      have hklt : k < M := by rw [← hl]; exact (List.getElem?_eq_some_iff.1 hk).1
      have hR := hS.rt k R h1
      exact hR.mv hmv (give_none (hlk k hklt)) fun b q hb ho => ⟨rfl, by simp [Env.give, ho, hlk k hklt]⟩
    · rw [hG]
      exact giveVs_rep hS.rt (by rw [hids]; exact hd) hg hp1 (fun x hx => hx) hul hr
  rcases hk with ⟨r, rfl⟩ | rfl
  · exact .ret hf hS.df hv hPost
  · exact .done hf hS.df hv hPost

theorem give1C_ok {g : Nat → Option Root} {d d' c : D} {ids : List Nat} (h : give1C g M d d' = some (c, ids)) : ∃ ps, give1 g M d c = some (ps, ids) ∧ AllP ps := by
  unfold give1C at h
  split at h
  · rename_i k n _ _; cases h; exact ⟨[n = n], by simp [give1], rfl, trivial⟩
  · rename_i b _; cases h; exact ⟨[b = b], rfl, rfl, trivial⟩
  · rename_i s _; cases h; exact ⟨[s = s], rfl, rfl, trivial⟩
  · cases h; exact ⟨[], rfl, trivial⟩
  · cases h; exact ⟨[(0 : Nat) = 0, ([] : List D) = []], rfl, rfl, rfl, trivial⟩
  · rename_i w n xs w' _ _
    split at h
    · cases h; exact ⟨[n = n, xs = xs], by simp [give1], rfl, rfl, trivial⟩
    · cases h
  · split at h
    · rename_i R hg
      split at h
      · rename_i hc
        cases h
        simp only [Bool.and_eq_true] at hc
        exact ⟨[R.n = R.n, R.xs = R.xs], by simp only [give1, hg, Nat.beq_refl, hc.1.1.2, hc.1.2, hc.2, Bool.and_self, if_true], rfl, rfl, trivial⟩
      · cases h
    · cases h
  · split at h
    · rename_i R hg
      split at h
      · rename_i hc
        cases h
        simp only [Bool.and_eq_true] at hc
        exact ⟨[R.n = R.n, R.xs = R.xs], by simp only [give1, hg, Nat.beq_refl, hc.2, Bool.and_self, if_true], rfl, rfl, trivial⟩
      · cases h
    · cases h
  · cases h

theorem giveLC_ok {g : Nat → Option Root} : ∀ {ds ds' cs : List D} {ids : List Nat}, giveLC g M ds ds' = some (cs, ids) → ∃ ps, giveL g M ds cs = some (ps, ids) ∧ AllP ps
  | [], [], cs, ids, h => by cases h; exact ⟨_, rfl, trivial⟩
  | d :: r, d' :: r', cs, ids, h => by
    simp only [giveLC] at h
    split at h
    · rename_i a b ha hb
      cases h
      obtain ⟨ps, h1, h2⟩ := give1C_ok (M := M) (c := a.1) (ids := a.2) ha
      obtain ⟨qs, h3, h4⟩ := giveLC_ok (cs := b.1) (ids := b.2) hb
      exact ⟨ps ++ qs, by simp [giveL, h1, h3], AllP_app h2 h4⟩
    · cases h
  | [], _ :: _, cs, ids, h => by cases h
  | _ :: _, [], cs, ids, h => by cases h

theorem giveVC_ok {g : Nat → Option Root} {d d' c : D} {ids : List Nat} (h : giveVC g M d d' = some (c, ids)) : ∃ ps, giveV g M d c = some (ps, ids) ∧ AllP ps := by
  unfold giveVC at h
  split at h
  · rename_i cs cs'
    split at h
    · rename_i c' ids' hc
      cases h
      exact giveLC_ok hc
    · cases h
  · obtain ⟨ps, h1, h2⟩ := give1C_ok h
    cases d with
    | agg cs => simp [give1C] at h
    | _ => exact ⟨ps, h1, h2⟩

theorem giveVsC_ok {g : Nat → Option Root} : ∀ {ds ds' cs : List D} {ids : List Nat}, giveVsC g M ds ds' = some (cs, ids) → ∃ ps, giveVs g M ds cs = some (ps, ids) ∧ AllP ps
  | [], [], cs, ids, h => by cases h; exact ⟨_, rfl, trivial⟩
  | d :: r, d' :: r', cs, ids, h => by
    simp only [giveVsC] at h
    split at h
    · rename_i a b ha hb
      cases h
      obtain ⟨ps, h1, h2⟩ := giveVC_ok (M := M) (c := a.1) (ids := a.2) ha
      obtain ⟨qs, h3, h4⟩ := giveVsC_ok (cs := b.1) (ids := b.2) hb
      exact ⟨ps ++ qs, by simp [giveVs, h1, h3], AllP_app h2 h4⟩
    · cases h
  | [], _ :: _, cs, ids, h => by cases h
  | _ :: _, [], cs, ids, h => by cases h

theorem rootsC_ok : ∀ {n : Nat} {G : List (Option Root)} {Rs : List Root}, rootsC n G = some Rs → (∃ ps, rootsEq G Rs = some ps ∧ AllP ps) ∧ Rs.length = n
  | 0, G, Rs, h => by
    cases h
    refine ⟨⟨[], ?_, trivial⟩, rfl⟩
    cases G <;> rfl
  | n + 1, some R :: G, Rs, h => by
    simp only [rootsC] at h
    split at h
    · rename_i Rs' hR
      split at h
      · cases h
      · rename_i hf
        cases h
        obtain ⟨⟨ps, h1, h2⟩, h3⟩ := rootsC_ok hR
        exact ⟨⟨(R = R) :: ps, by simp [rootsEq, h1, hf], rfl, h2⟩, by simp [h3]⟩
    · cases h
  | n + 1, [], Rs, h => by cases h
  | n + 1, none :: G, Rs, h => by
    simp only [rootsC] at h
    split at h
    · rename_i Rs' hR
      cases h
      obtain ⟨⟨ps, h1, h2⟩, h3⟩ := rootsC_ok hR
      exact ⟨⟨ps, by simp [rootsEq, h1, deadR, Root.dead], h2⟩, by simp [h3]⟩
    · cases h

theorem finC_ok (hm : TabOK X.P X.T) {fn : Func} (hf : X.P.funcs[f]? = some fn) (h : finC X M fn.results.toList k σ res = some (res', G')) : Wc X f M k σ res' G' := by
  unfold finC at h
  have key : ∀ {ds c Rs ids}, resD X σ fn.results.toList = some ds → giveVsC (getR σ.G) M ds res = some (c, ids) → rootsC M σ.G = some Rs → distinct ids = true → ∃ ps, (match giveVs (getR σ.G) M ds c, rootsEq σ.G Rs with
      | some (ps, ids), some qs => if distinct ids && Nat.beq Rs.length M then some (ps ++ qs) else none
      | _, _ => none) = some ps ∧ AllP ps := fun h1 h2 h3 h4 => by
    obtain ⟨ps, h5, h6⟩ := giveVsC_ok h2
    obtain ⟨⟨qs, h7, h8⟩, h9⟩ := rootsC_ok h3
    exact ⟨ps ++ qs, by simp [h5, h7, h4, h9, Nat.beq_refl], AllP_app h6 h8⟩
  split at h
  · split at h
    · rename_i ds hds
      split at h
      · rename_i c ids Rs hg hR
        split at h
        · rename_i hd
          cases h
          obtain ⟨ps, h1, h2⟩ := key hds hg hR hd
          exact fin_ok hm hf (ps := ps) (by simp only [fin, hds]; exact h1) h2
        · cases h
      · cases h
    · cases h
  · split at h
    · rename_i ds hds
      split at h
      · rename_i c ids Rs hg hR
        split at h
        · rename_i hd
          cases h
          obtain ⟨ps, h1, h2⟩ := key hds hg hR hd
          exact fin_ok hm hf (ps := ps) (by simp only [fin, hds]; exact h1) h2
        · cases h
      · cases h
    · cases h
  · cases h

theorem runFinC_ok (hm : TabOK X.P X.T) (hmix : X.P.follows .mixedOrders = true) {fn : Func} (hf : X.P.funcs[f]? = some fn) {cmds : List Cmd} {ps : List Prop}
    (h : runFinC X M cmds k σ fn.results.toList res = some (ps, res', G')) (hp : AllP ps) : Wc X f M k σ res' G' := by
  unfold runFinC at h
  split at h
  · rename_i ps1 k' σ' hr
    split at h
    · rename_i c Rs hc
      cases h
      exact run_ok hm hmix hr hp (finC_ok hm hf hc)
    · cases h
  · cases h

/-- A function. -/
theorem Ct.of {fn : Func} {c : Code} {args : List D} {G : List Root} (hf : X.P.funcs[f]? = some fn) (hb : fn.body = some c) (hn : (fn.name == "runtime.NumGoroutine") = false)
    (h : Wc X f G.length [.code c] ⟨args ++ List.replicate (fn.ntmps - args.length) .undef, G.map some⟩ res G') : Ct X.P X.gl f args G res G' := by
  refine ⟨⟨fn, hf, by rw [hb]; rfl, hn⟩, fun E w vs hgl hvs hargs hroots hfresh => ?_⟩
  refine W.calls hf hb (h G E w _ w E rfl ⟨.refl _ _ _, fun r hr => ?_, hgl, rfl, by simp [hvs], fun t d hd => ?_, fun r R hR => ?_, fun r hr => hfresh r (by simpa using hr)⟩)
  · have := (hroots r _ (List.getElem?_eq_getElem hr)).alive
    unfold Alive at this
    rcases this with h | h <;> rw [h] <;> simp
  · by_cases ht : t < args.length
    · rw [List.getElem?_append_left ht] at hd
      have hlt : t < vs.size := by omega
      have : (({ tmps := vs ++ Array.replicate (fn.ntmps - vs.size) undef, defers := [] } : Act).eval (.tmp t)) = vs[t] := by
        have hlt2 : t < (vs ++ Array.replicate (fn.ntmps - vs.size) undef).size := by simp; omega
        simp only [Act.eval, Array.getD_eq_getD_getElem?, Array.getElem?_eq_getElem hlt2, Option.getD_some]
        exact Array.getElem_append_left hlt
      rw [this]
      exact hargs t d _ hd (Array.getElem?_eq_getElem hlt)
    · rw [List.getElem?_append_right (by omega)] at hd
      have := List.mem_replicate.1 (List.mem_of_getElem? hd)
      rw [this.2]
      exact .undef _ _ (.inl rfl)
  · have e : G.map some = G.map (fun x => some x) := rfl
    simp only [getR_map, Option.bind_eq_some_iff, Option.some.injEq, exists_eq_right] at hR
    exact hroots r R hR

end
end Go.Proofs.YtfnhclmdobdkbaaDoor.Ab

namespace Go.Proofs.YtfnhclmdobdkbaaDoor.Ab

def sl {α : Type} (w : Nat) (f : α → D) (l : List α) : D := .list false w (List.length l) (List.map f l)
def ow {α : Type} (w : Nat) (f : α → D) (l : List α) : D := .list true w (List.length l) (List.map f l)

theorem getCells_map {α : Type} {f : α → D} {l : List α} {k j n : Nat} {x : α} {cs : List D} (hx : l[k]? = some x)
    (h : (if j + n ≤ (f x).cells.length then some (((f x).cells.drop j).take n) else none) = some cs) : getCells (List.map f l) k j n = some cs := by
  unfold getCells
  rw [List.getElem?_map, hx]
  exact h

theorem lt_of_at {α : Type} {l : List α} {k : Nat} {x : α} (hx : l[k]? = some x) : k < List.length l := (List.getElem?_eq_some_iff.1 hx).1

theorem int_lt_of_at {α : Type} {l : List α} {k : Int} {x : α} (h0 : 0 ≤ k) (hx : l[k.toNat]? = some x) : k < (List.length l : Int) := by
  have := lt_of_at hx
  omega

theorem beqT {α : Type} [BEq α] [LawfulBEq α] {a b : α} (h : a = b) : (a == b) = true := by simp [h]
theorem beqF {α : Type} [BEq α] [LawfulBEq α] {a b : α} (h : ¬ a = b) : (a == b) = false := by simp [h]
theorem bneT {α : Type} [BEq α] [LawfulBEq α] {a b : α} (h : ¬ a = b) : (a != b) = true := by simp [h]
theorem bneF {α : Type} [BEq α] [LawfulBEq α] {a b : α} (h : a = b) : (a != b) = false := by simp [h]
theorem nbeqT {α : Type} [BEq α] [LawfulBEq α] {a b : α} (h : ¬ a = b) : (!(a == b)) = true := by simp [h]
theorem nbeqF {α : Type} [BEq α] [LawfulBEq α] {a b : α} (h : a = b) : (!(a == b)) = false := by simp [h]

theorem setCells_map {α : Type} {f : α → D} {l : List α} {k j : Nat} {x x' : α} {cs : List D} (hx : l[k]? = some x) (h : setCells [f x] 0 j cs = [f x']) : setCells (List.map f l) k j cs = List.map f (List.set l k x') := by
  have hm : (List.map f l)[k]? = some (f x) := by rw [List.getElem?_map, hx]; rfl
  have hset : List.map f (List.set l k x') = List.set (List.map f l) k (f x') := List.map_set
  unfold setCells at h ⊢
  rw [hm, hset]
  simp only [List.getElem?_cons_zero] at h
  generalize hfx : f x = y at *
  have same : List.set (List.map f l) k y = List.map f l := by
    refine List.ext_getElem? fun i => ?_
    rw [List.getElem?_set]
    split
    · rename_i e
      subst e
      rw [hm]
      simp [lt_of_at hx]
    · rfl
  cases y with
  | agg old =>
    simp only [List.set_cons_zero, List.cons.injEq, and_true] at h
    simp only [h]
  | _ =>
    match cs, h with
    | [c], h =>
      simp only [List.set_cons_zero, List.cons.injEq, and_true] at h
      simp only [h]
    | [], h =>
      simp only [List.cons.injEq, and_true] at h
      simp only [← h, same]
    | c :: c' :: r, h =>
      simp only [List.cons.injEq, and_true] at h
      simp only [← h, same]

theorem nfL_map {α : Type} {f : α → D} (h : ∀ x, (f x).nf) : ∀ l : List α, nfL (List.map f l)
  | [] => trivial
  | x :: l => ⟨h x, nfL_map h l⟩

def runFin (X : Ctx) (M : Nat) (cmds : List Cmd) (k : List Item) (σ : St) (rv : List ResultVar) (res : List D) (G' : List Root) : Option (List Prop) :=
  match run X M cmds k σ with
  | some (ps, k', σ') => match fin X M rv k' σ' res G' with
    | some qs => some (ps ++ qs)
    | none => none
  | none => none

theorem runFin_ok {X : Ctx} {f : FuncId} {M : Nat} {k : List Item} {σ : St} {res : List D} {G' : List Root} (hm : TabOK X.P X.T) (hmix : X.P.follows .mixedOrders = true) {fn : Func} (hf : X.P.funcs[f]? = some fn) {cmds : List Cmd} {ps : List Prop}
    (h : runFin X M cmds k σ fn.results.toList res G' = some ps) (hp : AllP ps) : Wc X f M k σ res G' := by
  unfold runFin at h
  split at h
  · rename_i ps1 k' σ' hr
    split at h
    · rename_i qs hq
      cases h
      obtain ⟨h1, h2⟩ := AllP_append hp
      exact run_ok hm hmix hr h1 (fin_ok hm hf hq h2)
    · cases h
  · cases h

theorem allFl_map {α : Type} {f : α → D} (h : ∀ x c, c ∈ (f x).cells → c.plain = true) (l : List α) : AllFl (List.map f l) := fun y hy c hc => by
  obtain ⟨x, _, rfl⟩ := List.mem_map.1 hy
  exact h x c hc

def byteAt (s : ByteArray) (i : Nat) : Nat := match s.data.toList[i]? with
  | some b => b.toNat
  | none => 0
theorem byteAt_ok {s : ByteArray} {i : Nat} (h : i < s.size) : (s.data.toList[i]?.map fun b => (b.toNat : Int)) = some ((byteAt s i : Nat) : Int) := by
  unfold byteAt
  have : i < s.data.toList.length := by simpa using h
  rw [List.getElem?_eq_getElem this]
  rfl

/-- A boolean of which nothing is known: both ways. -/
theorem Wc.anyb {X : Ctx} {f : FuncId} {M : Nat} {k : List Item} {σ : St} {res : List D} {G' : List Root} (t : Nat) (ht : σ.sl[t]? = some .anyb) (h : ∀ b, Wc X f M k ⟨σ.sl.set t (.bool b), σ.G⟩ res G') : Wc X f M k σ res G' := by
  intro G E0 w0 a w E hG hS
  have hr := hS.sl t _ ht
  obtain ⟨b, hb⟩ : ∃ b, a.eval (.tmp t) = .bool b := by
    generalize a.eval (.tmp t) = v at hr
    cases hr
    exact ⟨_, rfl⟩
  refine h b G E0 w0 a w E hG ⟨hS.frm, hS.low, hS.gl, hS.df, by simpa using hS.sz, fun u d hd => ?_, hS.rt, hS.fresh⟩
  simp only at hd
  rw [List.getElem?_set] at hd
  split at hd
  · rename_i e
    subst e
    split at hd
    · cases hd
      rw [hb]
      exact .bool _ _
    · cases hd
  · exact hS.sl u d hd

/-! ### Loops -/
def itn {σ ρ : Type} (B : σ → Option (σ ⊕ ρ)) : Nat → σ → Option ρ
  | 0, _ => none
  | n + 1, s => match B s with
    | some (.inl s') => itn B n s'
    | some (.inr r) => some r
    | none => none

theorem itn_succ {σ ρ : Type} {B : σ → Option (σ ⊕ ρ)} : ∀ {n : Nat} {s : σ} {r : ρ}, itn B n s = some r → itn B (n + 1) s = some r
  | n + 1, s, r, h => by
    unfold itn at h ⊢
    split at h
    · rename_i s' hs
      exact itn_succ h
    · exact h
    · cases h

theorem itn_le {σ ρ : Type} {B : σ → Option (σ ⊕ ρ)} {n m : Nat} {s : σ} {r : ρ} (hnm : n ≤ m) (h : itn B n s = some r) : itn B m s = some r := by
  induction hnm with
  | refl => exact h
  | step _ ih => exact itn_succ ih

open Classical in
noncomputable def loop {σ ρ : Type} (B : σ → Option (σ ⊕ ρ)) (s : σ) : Option ρ := if h : ∃ r n, itn B n s = some r then some h.choose else none

theorem loop_some {σ ρ : Type} {B : σ → Option (σ ⊕ ρ)} {s : σ} {r : ρ} : loop B s = some r ↔ ∃ n, itn B n s = some r := by
  unfold loop
  split
  · rename_i h
    have hc := h.choose_spec
    constructor
    · intro e
      cases e
      exact hc
    · rintro ⟨n, hn⟩
      obtain ⟨m, hm⟩ := hc
      have h1 := itn_le (Nat.le_max_left n m) hn
      have h2 := itn_le (Nat.le_max_right n m) hm
      rw [h1] at h2
      exact h2.symm
  · rename_i h
    constructor
    · intro e; cases e
    · rintro ⟨n, hn⟩
      exact absurd ⟨r, n, hn⟩ h

/-- What a round comes to. -/
def goOn {σ ρ : Type} (L : σ → Option ρ) : Option (σ ⊕ ρ) → Option ρ
  | none => none
  | some (.inl s) => L s
  | some (.inr r) => some r

theorem loop_eq {σ ρ : Type} (B : σ → Option (σ ⊕ ρ)) (s : σ) : loop B s = goOn (loop B) (B s) := by
  refine Option.ext fun r => ?_
  rw [loop_some]
  constructor
  · rintro ⟨n, hn⟩
    cases n with
    | zero => cases hn
    | succ n =>
      unfold itn at hn
      split at hn
      · rename_i s' hs
        rw [hs]
        exact loop_some.2 ⟨n, hn⟩
      · rename_i r' hs
        rw [hs]
        exact hn
      · cases hn
  · intro h
    cases hB : B s with
    | none => rw [hB] at h; cases h
    | some o =>
      rw [hB] at h
      cases o with
      | inl s' =>
        obtain ⟨n, hn⟩ := loop_some.1 h
        exact ⟨n + 1, by unfold itn; rw [hB]; exact hn⟩
      | inr r' =>
        cases h
        exact ⟨1, by unfold itn; rw [hB]⟩

theorem loop_ok {σ ρ : Type} {B : σ → Option (σ ⊕ ρ)} {R : σ → ρ → Prop} (h1 : ∀ s s', B s = some (.inl s') → ∀ r, R s' r → R s r) (h2 : ∀ s r, B s = some (.inr r) → R s r) : ∀ s r, loop B s = some r → R s r := by
  intro s r h
  obtain ⟨n, hn⟩ := loop_some.1 h
  induction n generalizing s with
  | zero => cases hn
  | succ n ih =>
    unfold itn at hn
    split at hn
    · rename_i s' hs
      exact h1 s s' hs r (ih s' (loop_some.2 ⟨n, hn⟩) hn)
    · rename_i r' hs
      cases hn
      exact h2 s r hs
    · cases hn

/-- One round, from a place. -/
def Nx {σ ρ : Type} (X : Ctx) (f : FuncId) (M : Nat) (K : σ → List Item) (Z : σ → St) (R : ρ → List D) (G : ρ → List Root) (k : List Item) (s : St) : σ ⊕ ρ → Prop
  | .inl s' => ∀ r, Wc X f M (K s') (Z s') (R r) (G r) → Wc X f M k s (R r) (G r)
  | .inr r => Wc X f M k s (R r) (G r)

theorem Nx.all {σ ρ : Type} {X : Ctx} {f : FuncId} {M : Nat} {K : σ → List Item} {Z : σ → St} {R : ρ → List D} {G : ρ → List Root} {B : σ → Option (σ ⊕ ρ)} (h : ∀ s o, B s = some o → Nx X f M K Z R G (K s) (Z s) o) : ∀ s r, loop B s = some r → Wc X f M (K s) (Z s) (R r) (G r) :=
  loop_ok (fun s s' hs r hr => h s (.inl s') hs r hr) fun s r hs => h s (.inr r) hs

theorem eIf {α : Type} {c : Prop} [Decidable c] {a b : Option α} {o : α} {Q : Prop} (H : (if c then a else b) = some o) (h1 : c → a = some o → Q) (h2 : ¬ c → b = some o → Q) : Q := by
  split at H
  · rename_i h; exact h1 h H
  · rename_i h; exact h2 h H
theorem eCk {α : Type} {c : Prop} [Decidable c] {a : Option α} {o : α} {Q : Prop} (H : (if c then a else none) = some o) (h1 : c → a = some o → Q) : Q := by
  split at H
  · rename_i h; exact h1 h H
  · cases H
theorem eBind {α β : Type} {x : Option α} {f : α → Option β} {o : β} {Q : Prop} (H : x.bind f = some o) (h : ∀ r, x = some r → f r = some o → Q) : Q := by
  cases x with
  | none => cases H
  | some r => exact h r rfl H
theorem eRet {α : Type} {v o : α} {P : α → Prop} (H : some v = some o) (h : P v) : P o := by cases H; exact h

theorem P0 : AllP [] := trivial
theorem P1 {p : Prop} {r : List Prop} (h : p) (hr : AllP r) : AllP (p :: r) := ⟨h, hr⟩
theorem P2 {r : List Prop} (p : Prop) (h : p) (hr : AllP r) : AllP (p :: r) := ⟨h, hr⟩
theorem PI {α : Type} {r : List Prop} (a : α) (hr : AllP r) : AllP ((a = a) :: r) := ⟨rfl, hr⟩
theorem PL {α : Type} {r : List Prop} (f : α → D) (l : List α) (hr : AllP r) : AllP ((l.length = l.length) :: (erL (l.map f) = erL (l.map f)) :: r) := ⟨rfl, rfl, hr⟩
theorem PR {α : Type} {r : List Prop} (f : α → D) (l : List α) (hr : AllP r) : AllP ((l.length = l.length) :: (l.map f = l.map f) :: r) := ⟨rfl, rfl, hr⟩
theorem eqF {b : Bool} (h : ¬ b = true) : b = false := by simpa using h

abbrev I (n : Int) : D := .int .i64 n
abbrev hT (i : Nat) : Hint := { i, dec := some true }
abbrev hF (i : Nat) : Hint := { i, dec := some false }
abbrev hE (i : Nat) (e : D) : Hint := { i, el := some e }
abbrev hA (i n : Nat) (xs : List D) : Hint := { i, n, xs }
abbrev hC (i : Nat) (cl : Bool) (ins : List Nat) (res : List D) (G' : List Root) : Hint := { i, call := some { cl, auto := true, ins, res, G' } }
abbrev rg (hs : List Hint) : Cmd := .reg hs
abbrev r0 : Cmd := .reg []
theorem at_map {α : Type} (f : α → D) {l : List α} {k : Nat} {x : α} (h : l[k]? = some x) : (List.map f l)[k]? = some (f x) := by rw [List.getElem?_map, h]; rfl
theorem apL {α : Type} (l m : List α) : (l ++ m).length = l.length + m.length := List.length_append
theorem apB {α : Type} {l m : List α} {b c : Nat} (h : (l ++ m).length * b ≤ c) : (l.length + m.length) * b ≤ c := by rw [List.length_append] at h; exact h
theorem apM {α : Type} (f : α → D) (l m : List α) : List.map f l ++ List.map f m = List.map f (l ++ m) := List.map_append.symm
theorem setLen {α : Type} (l : List α) (k : Nat) (x : α) : l.length = (List.set l k x).length := by simp

def bdy (fn : Func) : Code := match fn.body with
  | some c => c
  | none => .skip
abbrev RB (r : Bool) : List D := [.bool r]
abbrev RI (r : Int) : List D := [I r]
def runP (X : Ctx) (M : Nat) (cmds : List Cmd) (k : List Item) (σ : St) : Option (List Prop) := match run X M cmds k σ with
  | some (ps, _, _) => some ps
  | none => none
def runK (X : Ctx) (M : Nat) (cmds : List Cmd) (k : List Item) (σ : St) : List Item := match run X M cmds k σ with
  | some (_, k', _) => k'
  | none => []
def runS (X : Ctx) (M : Nat) (cmds : List Cmd) (k : List Item) (σ : St) : St := match run X M cmds k σ with
  | some (_, _, σ') => σ'
  | none => ⟨[], []⟩
theorem runP_ok {X : Ctx} {M : Nat} {cmds : List Cmd} {k : List Item} {σ : St} {ps : List Prop} (h : runP X M cmds k σ = some ps) : run X M cmds k σ = some (ps, runK X M cmds k σ, runS X M cmds k σ) := by
  unfold runP at h
  unfold runK runS
  split at h
  · rename_i hr; cases h; rw [hr]
  · cases h
theorem seg_ok {X : Ctx} {f : FuncId} {M : Nat} {k : List Item} {σ : St} {res : List D} {G' : List Root} (hm : TabOK X.P X.T) (hmix : X.P.follows .mixedOrders = true) (cmds : List Cmd) {ps : List Prop} (h : runP X M cmds k σ = some ps) (hp : AllP ps) (hk : Wc X f M (runK X M cmds k σ) (runS X M cmds k σ) res G') : Wc X f M k σ res G' :=
  run_ok hm hmix (runP_ok h) hp hk
theorem segN_ok {ς ρ : Type} {X : Ctx} {f : FuncId} {M : Nat} {K : ς → List Item} {Z : ς → St} {R : ρ → List D} {G : ρ → List Root} {k : List Item} {σ : St} {o : ς ⊕ ρ} (hm : TabOK X.P X.T) (hmix : X.P.follows .mixedOrders = true) (cmds : List Cmd) {ps : List Prop} (h : runP X M cmds k σ = some ps) (hp : AllP ps) (hk : Nx X f M K Z R G (runK X M cmds k σ) (runS X M cmds k σ) o) : Nx X f M K Z R G k σ o := by
  cases o with
  | inl s' => exact fun r hr => seg_ok hm hmix cmds h hp (hk r hr)
  | inr r => exact seg_ok hm hmix cmds h hp hk

theorem eN {ς ρ : Type} {X : Ctx} {f : FuncId} {M : Nat} {K : ς → List Item} {Z : ς → St} {R : ρ → List D} {G : ρ → List Root} {k : List Item} {σ : St} {v o : ς ⊕ ρ} (H : some v = some o) (h : Nx X f M K Z R G k σ v) : Nx X f M K Z R G k σ o := by cases H; exact h
theorem eW {ρ : Type} {X : Ctx} {f : FuncId} {M : Nat} (R : ρ → List D) (G : ρ → List Root) {k : List Item} {σ : St} {v o : ρ} (H : some v = some o) (h : Wc X f M k σ (R v) (G v)) : Wc X f M k σ (R o) (G o) := by cases H; exact h

theorem repLen {α : Type} (n : Nat) (z : α) : (List.replicate n z).length = n := List.length_replicate
theorem repMap {α : Type} (f : α → D) (n : Nat) (z : α) : List.replicate n (f z) = List.map f (List.replicate n z) := List.map_replicate.symm

/-- Slots: all but these hold nothing that is known. -/
def sts (n : Nat) (ps : List (Nat × D)) : List D := ps.foldl (fun l p => l.set p.1 p.2) (List.replicate n .undef)

/-- A laid table's element, cell by cell. -/
theorem flat_drop {α : Type} {enc : α → D} {w : Nat} (hw : ∀ y, (enc y).cells.length = w) : ∀ (l : List α) (k : Nat) (x : α), l[k]? = some x → ∃ r, (l.flatMap fun y => (enc y).cells).drop (k * w) = (enc x).cells ++ r ∧ k * w + w ≤ (l.flatMap fun y => (enc y).cells).length
  | [], k, x, h => by simp at h
  | y :: l, 0, x, h => by
    simp at h
    subst h
    refine ⟨l.flatMap fun y => (enc y).cells, by simp, ?_⟩
    rw [List.flatMap_cons, List.length_append, hw y]
    omega
  | y :: l, k + 1, x, h => by
    obtain ⟨r, h1, h2⟩ := flat_drop hw l k x (by simpa using h)
    refine ⟨r, ?_, ?_⟩
    · rw [List.flatMap_cons, Nat.succ_mul, Nat.add_comm, ← List.drop_drop, ← h1, show List.drop w ((enc y).cells ++ List.flatMap (fun y => (enc y).cells) l) = List.flatMap (fun y => (enc y).cells) l from by rw [← hw y]; simp]
    · rw [List.flatMap_cons, List.length_append, hw y, Nat.succ_mul]
      omega
theorem flat_at {α : Type} {enc : α → D} {l : List α} {w k j n off : Nat} {x : α} (hw : ∀ y, (enc y).cells.length = w) (hx : l[k]? = some x) (hj : j = k * w + off) (hn : off + n ≤ w) :
    getCells [.agg (l.flatMap fun y => (enc y).cells)] 0 j n = some (((enc x).cells.drop off).take n) := by
  obtain ⟨r, h1, h2⟩ := flat_drop hw l k x hx
  show (if j + n ≤ (l.flatMap fun y => (enc y).cells).length then some (((l.flatMap fun y => (enc y).cells).drop j).take n) else none) = _
  rw [if_pos (by omega), hj, ← List.drop_drop, h1, List.drop_append_of_le_length (by rw [hw x]; omega), List.take_append_of_le_length (by rw [List.length_drop, hw x]; omega)]

end Go.Proofs.YtfnhclmdobdkbaaDoor.Ab

open Go.RowKit
namespace Go.Proofs.YtfnhclmdobdkbaaDoor.Ab

def E0 : Env := ⟨fun _ => ⟨0, 0, none⟩, fun _ => 0, fun _ => .fz, fun _ => .fresh⟩

def Seg (w : World) (ds : List D) (cs : List Value) : Prop := ds.length = cs.length ∧ ∀ (j : Nat) c u, ds[j]? = some c → cs[j]? = some u → Rep E0 w .fz c u

theorem Seg.nil {w : World} {cs : List Value} (h : cs = []) : Seg w [] cs := ⟨by simp [h], fun j c u h => by simp at h⟩

theorem Seg.cons {w : World} {ds ds' : List D} {cs : List Value} {off sz : Nat} (h : Seg w ds ((cs.drop off).take sz)) (h' : Seg w ds' (cs.drop (off + sz))) : Seg w (ds ++ ds') (cs.drop off) := by
  have e : cs.drop off = (cs.drop off).take sz ++ cs.drop (off + sz) := by
    rw [← List.drop_drop, List.take_append_drop]
  rw [e]
  refine ⟨by simp only [List.length_append, h.1, h'.1], fun j c u hc hu => ?_⟩
  by_cases hj : j < ds.length
  · rw [List.getElem?_append_left hj] at hc
    rw [List.getElem?_append_left (by rw [← h.1]; exact hj)] at hu
    exact h.2 j c u hc hu
  · rw [List.getElem?_append_right (by omega)] at hc
    rw [List.getElem?_append_right (by rw [← h.1]; omega), ← h.1] at hu
    exact h'.2 _ c u hc hu

/-- The values of type t read as data 'f a', of which G holds. -/
def Opn (P : Program) (t : TypeId) {α : Type} (f : α → D) (G : α → Prop) : Prop :=
  ∀ {H : Type} (enc : TypeId × Value → H) (w : World) (base : Nat) (spare : Nat → Bool) (held : Bool) (fuel : Nat) (cs : List Value) (x : DataW H × List MemPlace), DataW.trod enc P w base spare held fuel t cs = some x → ∃ a, G a ∧ Seg w (f a).cells cs

section
variable {P : Program} {t : TypeId}

theorem Opn.int {k : IntKind} (ht : P.underlying t = some (.int k)) : Opn P t (D.int k) fun n => (Lit.int k n).wf = true := by
  intro H enc w base spare held fuel cs x h
  obtain ⟨n, rfl, _, hw⟩ := DataW.trod_int ht h
  exact ⟨n, hw, rfl, fun j c u hc hu => by cases j <;> simp [D.cells] at hc hu; subst hc hu; exact .int _ _ _⟩

theorem Opn.bool (ht : P.underlying t = some .bool) : Opn P t D.bool fun _ => True := by
  intro H enc w base spare held fuel cs x h
  obtain ⟨n, rfl, _⟩ := DataW.trod_bool ht h
  exact ⟨n, trivial, rfl, fun j c u hc hu => by cases j <;> simp [D.cells] at hc hu; subst hc hu; exact .bool _ _⟩

theorem Opn.str (ht : P.underlying t = some .string) : Opn P t D.str fun s => s.size ≤ maxLen := by
  intro H enc w base spare held fuel cs x h
  obtain ⟨n, rfl, _, hw⟩ := DataW.trod_string ht h
  exact ⟨n, hw, rfl, fun j c u hc hu => by cases j <;> simp [D.cells] at hc hu; subst hc hu; exact .str _ _⟩

theorem pick_fun {α : Type} (Q : Nat → α → Prop) : ∀ n : Nat, (∀ i, i < n → ∃ a, Q i a) → ∃ l : List α, l.length = n ∧ ∀ (i : Nat) a, l[i]? = some a → Q i a
  | 0, _ => ⟨[], rfl, fun i a h => by simp at h⟩
  | n + 1, h => by
    obtain ⟨l, hl, hq⟩ := pick_fun Q n fun i hi => h i (by omega)
    obtain ⟨a, ha⟩ := h n (by omega)
    refine ⟨l ++ [a], by simp [hl], fun i b hb => ?_⟩
    by_cases hi : i < l.length
    · rw [List.getElem?_append_left hi] at hb
      exact hq i b hb
    · rw [List.getElem?_append_right (by omega)] at hb
      have : i - l.length = 0 := by
        have := (List.getElem?_eq_some_iff.1 hb).1
        simp at this
        omega
      rw [this] at hb
      simp at hb
      subst hb
      rw [show i = n by omega]
      exact ha

theorem Opn.slice {α : Type} {f : α → D} {G : α → Prop} {e : TypeId} {wd : Nat} (ht : P.underlying t = some (.slice e)) (hw : P.cellsOf e = wd) (h0 : 0 < wd) (hf : ∀ a, (f a).cells.length = wd) (h : Opn P e f G) :
    Opn P t (sl wd f) fun l => (∀ x ∈ l, G x) ∧ l.length ≤ maxLen := by
  intro H enc w base spare held fuel cs x hx
  rcases DataW.trod_slice ht hx with ⟨rfl, _⟩ | ⟨a, len, cap, elems, rest, n, _, rfl, _, hb, hl, hm, hlen, hel, _⟩
  · refine ⟨[], ⟨by simp, by simp⟩, rfl, fun j c u hc hu => ?_⟩
    cases j <;> simp [D.cells, sl] at hc hu
    subst hc hu
    exact .flist _ _ _ _ _ _ _ (fun _ _ => undef) (.inr (.inl rfl)) rfl (Nat.le_refl _) (by simp) (fun h => by omega) (fun i j x c h => by simp at h)
  · obtain ⟨l, hll, hq⟩ := pick_fun (fun i y => G y ∧ ∃ cs', w.cells? base (a.add (i * wd)) wd = some cs' ∧ Seg w (f y).cells cs') len fun i hi => by
      have h1 := hel i hi
      rw [List.getElem?_eq_getElem (by omega), hw, Option.bind_eq_some_iff] at h1
      obtain ⟨cs', hc, ht'⟩ := h1
      obtain ⟨y, hy, hs⟩ := h enc w base spare held n cs' _ ht'
      exact ⟨y, hy, cs', hc, hs⟩
    have hcell : ∀ (i j : Nat) y c, l[i]? = some y → (f y).cells[j]? = some c → ∃ u, w.cell? (a.add (i * wd + j)) = some u ∧ Rep E0 w .fz c u := fun i j y c hy hc => by
      obtain ⟨_, cs', hcs, hs⟩ := hq i y hy
      obtain ⟨_, hl', hcc⟩ := World.cells?_some hcs
      have hj : j < cs'.length := by rw [← hs.1]; exact (List.getElem?_eq_some_iff.1 hc).1
      have h2 := hcc j (by omega)
      rw [List.getElem?_eq_getElem hj] at h2
      rw [add_add] at h2
      exact ⟨_, h2, hs.2 j c _ hc (List.getElem?_eq_getElem hj)⟩
    refine ⟨l, ⟨fun y hy => ?_, by omega⟩, rfl, fun j c u hc hu => ?_⟩
    · obtain ⟨i, hi⟩ := List.getElem?_of_mem hy
      exact (hq i y hi).1
    · cases j <;> simp [D.cells, sl] at hc hu
      subst hc hu
      have key : ∀ (i j : Nat) x c, (List.map f l)[i]? = some x → x.cells[j]? = some c → w.cell? (a.add (i * wd + j)) = some ((w.cell? (a.add (i * wd + j))).getD undef) ∧ Rep E0 w .fz c ((w.cell? (a.add (i * wd + j))).getD undef) := fun i j x c hx hj => by
        rw [List.getElem?_map, Option.map_eq_some_iff] at hx
        obtain ⟨y, hy, rfl⟩ := hx
        obtain ⟨u, hu, hr⟩ := hcell i j y c hy hj
        rw [hu]
        exact ⟨rfl, hr⟩
      rw [hll]
      refine .flist _ _ _ _ _ _ _ (fun i j => (w.cell? (a.add (i * wd + j))).getD undef) (.inr (.inl rfl)) (by simp [hll]) hl (fun x hx => ?_) (fun hpos => ⟨a, rfl, rfl, ?_, fun i j x c hx hj => (key i j x c hx hj).1⟩) (fun i j x c hx hj => (key i j x c hx hj).2)
      · obtain ⟨y, _, rfl⟩ := List.mem_map.1 hx
        exact hf y
      · obtain ⟨_, cs', hcs, _⟩ := hq 0 _ (List.getElem?_eq_getElem (by omega))
        have := World.cells?_block hcs h0
        rwa [add_block] at this

/-- A field. -/
theorem Opn.field {α : Type} {f : α → D} {G : α → Prop} (O : Opn P t f G) {H : Type} {enc : TypeId × Value → H} {w : World} {base : Nat} {spare : Nat → Bool} {held : Bool} {n : Nat} {fs : Array Field} {cs : List Value} {xs : List (DataW H × List MemPlace)}
    (hx : xs.length = fs.size) (hf : ∀ (i : Nat) (fd : Field), fs[i]? = some fd → DataW.trod enc P w base spare held n fd.type ((cs.drop fd.offset).take (P.cellsOf fd.type)) = xs[i]?) (i : Nat) {fd : Field} (hi : fs[i]? = some fd) (ht : fd.type = t) {off sz : Nat} (ho : fd.offset = off) (hs : P.cellsOf t = sz) :
    ∃ a, G a ∧ Seg w (f a).cells ((cs.drop off).take sz) := by
  have h1 := hf i fd hi
  have hlt : i < xs.length := by rw [hx]; exact (Array.getElem?_eq_some_iff.1 hi).1
  rw [List.getElem?_eq_getElem hlt, ht, ho, hs] at h1
  exact O enc w base spare held n _ _ h1

end

theorem post_below {w w' : World} {res : List D} {e : Ending} (h : Post E0 w [] res [] e w') : Below w.heap.size w w' := by
  obtain ⟨E', us, _, hF, _⟩ := h
  exact ⟨hF.os, hF.tape, hF.output, hF.sz, fun k hk => (hF.fz k hk rfl).1⟩

theorem post_true {w w' : World} {e : Ending} (h : Post E0 w [] [.bool true] [] e w') : e = .returned (.bool true) := by
  obtain ⟨E', us, he, _, _, _, hR⟩ := h
  match us, hR with
  | [u], hR =>
    obtain ⟨h1, _⟩ := hR
    have : u = .bool true := Rep.bool_inv h1
    rw [he, this]
    rfl

/-- A law's walk. -/
theorem law_walk {P : Program} {gl : List (Nat × D)} {f : FuncId} {args : List D} (h : Ct P gl f args [] [.bool true] []) {w : World} {vs : Array Value} (hg : GlOK gl E0 w) (hn : vs.size = args.length) (hr : ∀ (i : Nat) d v, args[i]? = some d → vs[i]? = some v → Rep E0 w .slot d v) :
    Calls P f vs w fun e w' => e = .returned (.bool true) ∧ Below w.heap.size w w' :=
  (h.2 E0 w vs hg hn hr (fun k R hk => by simp at hk) (fun k _ => rfl)).mono fun e w' hp => ⟨post_true hp, post_below hp⟩

end Go.Proofs.YtfnhclmdobdkbaaDoor.Ab

open Go.RowKit Go.ChangeShapes Go.WideShapes
namespace Go.Proofs.YtfnhclmdobdkbaaDoor.Ab

theorem Rep.fz_slot {E : Env} {w : World} {d : D} {v : Value} (h : Rep E w .fz d v) : Rep E w .slot d v := by
  generalize hm : Md.fz = m at h
  cases h with
  | int m k n => exact .int _ _ _
  | bool m b => exact .bool _ _
  | str m s => exact .str _ _
  | nil m => exact .nil _
  | undef m v hm' => exact .undef _ _ (.inl rfl)
  | hid m v h1 h2 hm' => exact .hid _ _ h1 h2 (.inl rfl)
  | anyb b => cases hm
  | fn => cases hm
  | agg => cases hm
  | tup => cases hm
  | flist m o wd n xs A cap us hm' hn hc hw ha h => exact .flist _ _ _ _ _ _ _ us (.inl rfl) hn hc hw ha h
  | olist m r p wd n xs A cap us hm' => subst hm; rcases hm' with h | h <;> cases h
  | ref m r wd vw v hm' hs h => exact .ref _ _ _ _ _ (.inl rfl) hs h
  | ptr m r wd i j v hm' hs h => exact .ptr _ _ _ _ _ _ (.inl rfl) hs h
  | fptr m wd xs i j a us hm' hw ha h => exact .fptr _ _ _ _ _ _ us (.inl rfl) hw ha h

/-- One parameter's values as data. -/
def OpnV (P : Program) (t : TypeId) (Q : D → Prop) : Prop :=
  ∀ {H : Type} (enc : TypeId × Value → H) (w : World) (base b0 : Nat) (spare : Nat → Bool) (held : Bool) (v : Value) (d : DataW H) (ps : List MemPlace),
    Value.okWide P w .any b0 t v → DataW.Trod enc P w base spare held t v d ps → ∃ x, Q x ∧ Rep E0 w .slot x v

theorem Opn.one {P : Program} {t : TypeId} {α : Type} {f : α → D} {G : α → Prop} (O : Opn P t f G) (hv : ∀ {w : World} {b0 : Nat} {v : Value}, Value.okWide P w .any b0 t v → v.cells.toList = [v]) (hf : ∀ a, (f a).cells = [f a]) : OpnV P t fun d => ∃ a, d = f a ∧ G a := by
  intro H enc w base b0 spare held v d ps hw ⟨fuel, h⟩
  obtain ⟨a, hG, _, hs⟩ := O enc w base spare held fuel _ _ h
  refine ⟨f a, ⟨a, rfl, hG⟩, Rep.fz_slot (hs 0 _ _ (by rw [hf]; rfl) (by rw [hv hw]; rfl))⟩

theorem Opn.agg {P : Program} {t : TypeId} {α : Type} {f : α → D} {G : α → Prop} (O : Opn P t f G) {fs : Array Field} (ht : P.underlying t = some (.struct fs)) (hf : ∀ a, f a = .agg (f a).cells) : OpnV P t fun d => ∃ a, d = f a ∧ G a := by
  intro H enc w base b0 spare held v d ps hw ⟨fuel, h⟩
  obtain ⟨a, hG, hl, hs⟩ := O enc w base spare held fuel _ _ h
  obtain ⟨cs, rfl, _⟩ := okWide_struct ht hw
  refine ⟨f a, ⟨a, rfl, hG⟩, ?_⟩
  rw [hf a]
  refine .agg _ _ (by simpa [Value.cells] using hl) fun i c u hc hu => Rep.fz_slot (hs i c u hc ?_)
  simpa [Value.cells] using hu

theorem OpnV.int {P : Program} {t : TypeId} {k : IntKind} (ht : P.underlying t = some (.int k)) : OpnV P t fun d => ∃ n, d = .int k n ∧ (Lit.int k n).wf = true :=
  Opn.one (Opn.int ht) (fun hw => by obtain ⟨n, rfl⟩ := okWide_int ht hw; rfl) fun _ => rfl
theorem OpnV.bool {P : Program} {t : TypeId} (ht : P.underlying t = some .bool) : OpnV P t fun d => ∃ n, d = .bool n ∧ True :=
  Opn.one (Opn.bool ht) (fun hw => by obtain ⟨n, rfl⟩ := okWide_bool ht hw; rfl) fun _ => rfl
theorem OpnV.str {P : Program} {t : TypeId} (ht : P.underlying t = some .string) : OpnV P t fun d => ∃ s, d = .str s ∧ s.size ≤ maxLen :=
  Opn.one (Opn.str ht) (fun hw => by obtain ⟨n, rfl⟩ := okWide_string ht hw; rfl) fun _ => rfl
theorem OpnV.slice {P : Program} {t : TypeId} {α : Type} {f : α → D} {G : α → Prop} {e : TypeId} {wd : Nat} (ht : P.underlying t = some (.slice e)) (hw : P.cellsOf e = wd) (h0 : 0 < wd) (hf : ∀ a, (f a).cells.length = wd) (h : Opn P e f G) :
    OpnV P t fun d => ∃ l, d = sl wd f l ∧ (∀ x ∈ l, G x) ∧ l.length ≤ maxLen :=
  Opn.one (Opn.slice ht hw h0 hf h) (fun hw => by obtain ⟨a, n, c, rfl⟩ := okWide_slice ht hw; rfl) fun _ => rfl

/-- A struct's values, cell by cell. -/
theorem Opn.strct {P : Program} {t : TypeId} {α : Type} {f : α → D} {G : α → Prop} {fs : Array Field} (ht : P.underlying t = some (.struct fs))
    (h : ∀ {H : Type} (enc : TypeId × Value → H) (w : World) (base : Nat) (spare : Nat → Bool) (held : Bool) (n : Nat) (cs : List Value) (xs : List (DataW H × List MemPlace)), cs.length = P.cellsOf t → xs.length = fs.size →
      (∀ (i : Nat) (fd : Field), fs[i]? = some fd → DataW.trod enc P w base spare held n fd.type ((cs.drop fd.offset).take (P.cellsOf fd.type)) = xs[i]?) → ∃ a, G a ∧ Seg w (f a).cells cs) : Opn P t f G := by
  intro H enc w base spare held fuel cs x hx
  obtain ⟨xs, n, _, rfl, hl, hxs, hf⟩ := DataW.trod_struct ht hx
  exact h enc w base spare held n cs xs hl hxs hf

def fieldsOf (P : Program) (t : TypeId) : Array Field := match P.underlying t with
  | some (.struct fs) => fs
  | _ => #[]
def isStrct (P : Program) (t : TypeId) : Bool := match P.underlying t with
  | some (.struct _) => true
  | _ => false
theorem isStrct_ok {P : Program} {t : TypeId} (h : isStrct P t = true) : P.underlying t = some (.struct (fieldsOf P t)) := by
  unfold isStrct at h
  unfold fieldsOf
  split at h
  · rename_i fs hu; rw [hu]
  · cases h
def fieldAt (P : Program) (t : TypeId) (i : Nat) : Option (TypeId × Nat × Nat) := match (fieldsOf P t)[i]? with
  | some fd => some (fd.type, fd.offset, P.cellsOf fd.type)
  | none => none
theorem Opn.fieldAt {P : Program} {t ft : TypeId} {α : Type} {f : α → D} {G : α → Prop} (O : Opn P ft f G) {H : Type} {enc : TypeId × Value → H} {w : World} {base : Nat} {spare : Nat → Bool} {held : Bool} {n : Nat} {cs : List Value} {xs : List (DataW H × List MemPlace)}
    (hx : xs.length = (fieldsOf P t).size) (hf : ∀ (i : Nat) (fd : Field), (fieldsOf P t)[i]? = some fd → DataW.trod enc P w base spare held n fd.type ((cs.drop fd.offset).take (P.cellsOf fd.type)) = xs[i]?) (i : Nat) {off sz : Nat} (h : fieldAt P t i = some (ft, off, sz)) :
    ∃ a, G a ∧ Seg w (f a).cells ((cs.drop off).take sz) := by
  unfold Ab.fieldAt at h
  split at h
  · rename_i fd hfd
    simp only [Option.some.injEq, Prod.mk.injEq] at h
    obtain ⟨h1, h2, h3⟩ := h
    exact Opn.field O hx hf i hfd h1 h2 (by rw [← h1]; exact h3)
  · cases h

inductive OpnL (P : Program) : List TypeId → (List D → Prop) → Prop
  | nil : OpnL P [] fun ds => ds = []
  | cons {t : TypeId} {ts : List TypeId} {Q : D → Prop} {R : List D → Prop} (h : OpnV P t Q) (hr : OpnL P ts R) : OpnL P (t :: ts) fun ds => ∃ d r, ds = d :: r ∧ Q d ∧ R r

theorem OpnL.get {P : Program} {ts : List TypeId} {R : List D → Prop} (h : OpnL P ts R) {H : Type} {enc : TypeId × Value → H} {w : World} {b0 : Nat} : ∀ {vs : List Value} {ds : List (DataW H)} {ps : List MemPlace},
    (∀ (j : Nat) t v, ts[j]? = some t → vs[j]? = some v → Value.okWide P w .any b0 t v) → DataW.TrodAll enc P w 0 (fun _ => true) true ts vs ds ps → ∃ xs, R xs ∧ vs.length = xs.length ∧ ∀ (i : Nat) d v, xs[i]? = some d → vs[i]? = some v → Rep E0 w .slot d v := by
  induction h with
  | nil =>
    intro vs ds ps _ hA
    obtain ⟨rfl, rfl, rfl⟩ := trodAll_nil hA
    exact ⟨[], rfl, rfl, fun i d v h => by simp at h⟩
  | cons hv hr ih =>
    intro vs ds ps hok hA
    obtain ⟨v, vs', d, ds', p, q, rfl, rfl, rfl, h1, h2⟩ := trodAll_cons hA
    obtain ⟨x, hQ, hx⟩ := hv enc w 0 b0 _ true v d p (hok 0 _ _ rfl rfl) h1
    obtain ⟨xs, hR, hl, hxs⟩ := ih (fun j t v ht hv => hok (j + 1) t v (by simpa using ht) (by simpa using hv)) h2
    refine ⟨x :: xs, ⟨_, _, rfl, hQ, hR⟩, by simp [hl], fun i d v hd hv => ?_⟩
    cases i with
    | zero => simp at hd hv; subst hd hv; exact hx
    | succ i => exact hxs i d v (by simpa using hd) (by simpa using hv)

theorem trodAll_below {H : Type} {enc : TypeId × Value → H} {P : Program} (hl : laidOutB P = true) {W W' : World} (hb : Below W.heap.size W W') : ∀ {ts : List TypeId} {vs : List Value} {ds : List (DataW H)} {ps : List MemPlace},
    ts.all (fun t => P.readableRec t && decide (t < P.types.size)) = true → DataW.TrodAll enc P W 0 (fun _ => true) true ts vs ds ps → DataW.TrodAll enc P W' 0 (fun b => decide (b < W.heap.size)) true ts vs ds ps
  | [], vs, ds, ps, _, h => by
    obtain ⟨rfl, rfl, rfl⟩ := trodAll_nil h
    exact trodAll_mk0
  | t :: ts, vs, ds, ps, ha, h => by
    obtain ⟨v, vs', d, ds', p, q, rfl, rfl, rfl, h1, h2⟩ := trodAll_cons h
    simp only [List.all_cons, Bool.and_eq_true, decide_eq_true_eq] at ha
    have hlt : ∀ x ∈ p, x.block < W.heap.size := by
      obtain ⟨m, hm⟩ := h1
      exact DataW.trod_lt m _ _ _ hm
    exact ⟨_, _, Below.trod hl ha.1.1 ha.1.2 h1 hb hlt, trodAll_below hl hb ha.2 h2, rfl⟩

/-- A law's row, out of its contract. -/
theorem law_returns {C : Checked} {os : Os} {f : FuncId} {fn : Func} {s : ChangeSpec} {conds : List PathCond} {Q : List D → Prop} {rt : TypeId} {H : Type} {enc : TypeId × Value → H}
    (own : ownKnob C.prog.godebug = none) (started : os.Started) (noInit : C.prog.inits.idxOf? f = none) (hfn : C.prog.funcs[f]? = some fn)
    (witness : ∃ (w : World) (tape : Tape) (i : Input), w.os = os ∧ (w.forCall tape i).Shaped C.prog ∧ i.vars = [] ∧ Input.okWide C.prog (w.forCall tape i) .any w.heap.size f i ∧
      s.pre6 enc C.prog fn conds false (w.forCall tape i).memory i.args ∧ ({} : Assume).holds C.prog (lone (Frame.enter C.prog f i.args .normal) [] (w.forCall tape i)))
    (laid : laidOutB C.prog = true) (hread : fn.params.toList.all (fun t => C.prog.readableRec t && decide (t < C.prog.types.size)) = true)
    (hres : fn.resultTypes = #[rt]) (hrt : C.prog.underlying rt = some .bool) (hvars : s.vars = [])
    (hspec : ∀ ds : List (DataW H), ds.length = fn.params.size → s.fn H ds = { results := [.lit (.bool true)], args := ds })
    (O : OpnL C.prog fn.params.toList Q) (law : ∀ xs, Q xs → Ct C.prog [] f xs [] [.bool true] []) :
    ReturnsInHanded {} C os f .any (s.pre6 enc C.prog fn conds false) (s.post enc C.prog fn false true false false) := by
  refine returnsInHanded_of_change_sized own started noInit hfn witness ?_
  intro W base args ds gs before hval hW hcnd hsz _
  have hW' := hW
  obtain ⟨p, q, hA, hV, rfl, hfz, hnd⟩ := hW
  rw [hvars] at hV
  obtain ⟨rfl, rfl⟩ := trodVars_none hV
  obtain ⟨xs, hQ, hl, hxs⟩ := O.get (fun j t v ht hv => hval j t v (by simpa using ht) (by simpa using hv)) hA
  have hlen : ds.length = fn.params.size := by
    have key : ∀ {ts : List TypeId} {vs : List Value} {ds : List (DataW H)} {ps : List MemPlace}, DataW.TrodAll enc C.prog W 0 (fun _ => true) true ts vs ds ps → ds.length = ts.length := by
      intro ts
      induction ts with
      | nil => intro vs ds ps h; obtain ⟨rfl, rfl, rfl⟩ := trodAll_nil h; rfl
      | cons t ts ih => intro vs ds ps h; obtain ⟨v, vs', d, ds', p, q, rfl, rfl, rfl, h1, h2⟩ := trodAll_cons h; simp [ih h2]
    simpa using key hA
  refine (law_walk (law xs hQ) (w := W) (vs := args) (fun x h => by cases h) (by simpa using hl) (fun i d v hd hv => hxs i d v hd (by simpa using hv))).mono fun e W' ⟨he, bel⟩ => ?_
  subst he
  have hb := trodAll_below laid bel hread hA
  refine ⟨_, rfl, ds, [], _, [], p, [], hW', ?_, ?_, ?_, bel.frame _, fun h => by cases h⟩
  · rw [hspec _ (by simpa using hlen), hres]
    exact trodAll_mk1 (shut_bool hrt _)
  · rw [hspec _ (by simpa using hlen)]
    simpa using hb
  · rw [hspec _ (by simpa using hlen), hvars]
    rfl

theorem u8_wf {n : Int} (h : (Lit.int .u8 n).wf = true) : 0 ≤ n ∧ n < 256 := by
  simp [Lit.wf, IntKind.min, IntKind.max, IntKind.signed, IntKind.bits] at h
  omega
theorem i64_wf {n : Int} (h : (Lit.int .i64 n).wf = true) : -9223372036854775808 ≤ n ∧ n ≤ 9223372036854775807 := by
  simp [Lit.wf, IntKind.min, IntKind.max, IntKind.signed, IntKind.bits] at h
  omega

end Go.Proofs.YtfnhclmdobdkbaaDoor.Ab

open Go Go.RowKit Go.ChangeShapes Go.WideShapes
namespace Go.Proofs.YtfnhclmdobdkbaaDoor.Ab

/-! ### What cells a datum lies in -/
def layAll (f : TypeId → DataW Unit → Option (List Value)) : List (TypeId × DataW Unit) → Option (List (List Value))
  | [] => some []
  | (t, d) :: r => match f t d, layAll f r with
    | some v, some vs => some (v :: vs)
    | _, _ => none
def offsOk (P : Program) : Nat → List Field → List (List Value) → Bool
  | _, [], [] => true
  | o, f :: fs, v :: vs => Nat.beq f.offset o && Nat.beq (P.cellsOf f.type) v.length && offsOk P (o + v.length) fs vs
  | _, _, _ => false
def layOf (P : Program) : Nat → TypeId → DataW Unit → Option (List Value)
  | 0, _, _ => none
  | n + 1, t, d => match P.underlying t with
    | some (.int k) => (match d with
      | .lit (.int k' m) => if k = k' then some [.int k m] else none
      | _ => none)
    | some .string => (match d with
      | .lit (.string b) => some [.string ⟨b.toArray⟩]
      | _ => none)
    | some (.struct fs) => (match d with
      | .agg ds => match layAll (layOf P n) ((fs.toList.map (·.type)).zip ds) with
        | some vss => if Nat.beq fs.size ds.length && offsOk P 0 fs.toList vss && Nat.beq (P.cellsOf t) vss.flatten.length then some vss.flatten else none
        | none => none
      | _ => none)
    | some (.array m e) => (match d with
      | .agg ds => match layAll (layOf P n) (ds.map fun x => (e, x)) with
        | some vss => if Nat.beq m ds.length && vss.all (fun v => Nat.beq v.length (P.cellsOf e)) && Nat.beq (P.cellsOf t) vss.flatten.length then some vss.flatten else none
        | none => none
      | _ => none)
    | _ => none

theorem layAll_get {f : TypeId → DataW Unit → Option (List Value)} : ∀ {l : List (TypeId × DataW Unit)} {vss : List (List Value)}, layAll f l = some vss → vss.length = l.length ∧ ∀ (i : Nat) t d, l[i]? = some (t, d) → ∃ v, vss[i]? = some v ∧ f t d = some v
  | [], vss, h => by
    simp only [layAll, Option.some.injEq] at h
    subst h
    exact ⟨rfl, fun i t d h => by simp at h⟩
  | (t, d) :: r, vss, h => by
    unfold layAll at h
    split at h
    · rename_i v vs hv hvs
      simp only [Option.some.injEq] at h
      subst h
      obtain ⟨h1, h2⟩ := layAll_get hvs
      refine ⟨by simp [h1], fun i t' d' hi => ?_⟩
      cases i with
      | zero => simp at hi; obtain ⟨rfl, rfl⟩ := hi; exact ⟨v, rfl, hv⟩
      | succ i => exact h2 i t' d' (by simpa using hi)
    · cases h

theorem pieces : ∀ (vss : List (List Value)) (cs : List Value), cs.length = vss.flatten.length → (∀ (i : Nat) v, vss[i]? = some v → (cs.drop (vss.take i).flatten.length).take v.length = v) → cs = vss.flatten
  | [], cs, h, _ => by simpa using h
  | v :: r, cs, h, hp => by
    have h0 := hp 0 v rfl
    simp only [List.take_zero, List.flatten_nil, List.length_nil, List.drop_zero] at h0
    have hr := pieces r (cs.drop v.length) (by simp only [List.flatten_cons, List.length_append] at h; rw [List.length_drop]; omega) (fun i u hi => by
      have := hp (i + 1) u (by simpa using hi)
      rw [List.take_succ_cons, List.flatten_cons, List.length_append, ← List.drop_drop] at this
      exact this)
    rw [List.flatten_cons, ← hr]
    exact (List.take_append_drop v.length cs).symm.trans (by rw [h0])

theorem offsOk_get {P : Program} : ∀ {fs : List Field} {vss : List (List Value)} {o : Nat}, offsOk P o fs vss = true → ∀ (i : Nat) f v, fs[i]? = some f → vss[i]? = some v → f.offset = o + (vss.take i).flatten.length ∧ P.cellsOf f.type = v.length
  | [], [], o, _ => fun i f v h => by simp at h
  | [], _ :: _, o, h => by simp [offsOk] at h
  | _ :: _, [], o, h => by simp [offsOk] at h
  | f :: fs, v :: vs, o, h => fun i f' v' hf hv => by
    simp only [offsOk, Bool.and_eq_true, Nat.beq_eq] at h
    cases i with
    | zero =>
      simp at hf hv
      subst hf hv
      simp [h.1.1, h.1.2]
    | succ i =>
      have := offsOk_get h.2 i f' v' (by simpa using hf) (by simpa using hv)
      simp only [List.take_succ_cons, List.flatten_cons, List.length_append]
      omega

section
variable {P : Program} {w : World} {base : Nat} {spare : Nat → Bool} {held : Bool}
theorem lay_ok : ∀ (n : Nat) {t : TypeId} {d : DataW Unit} {vs cs : List Value} {fuel : Nat} {p : List MemPlace},
    layOf P n t d = some vs → DataW.trod (fun _ => ()) P w base spare held fuel t cs = some (d, p) → cs = vs
  | 0, t, d, vs, cs, fuel, p, h, _ => by simp [layOf] at h
  | n + 1, t, d, vs, cs, fuel, p, h, ht => by
    unfold layOf at h
    split at h
    · rename_i k hu
      obtain ⟨m, rfl, hx, _⟩ := DataW.trod_int hu ht
      simp only [Prod.mk.injEq] at hx
      obtain ⟨rfl, _⟩ := hx
      simp at h
      exact h
    · rename_i hu
      obtain ⟨s, rfl, hx, _⟩ := DataW.trod_string hu ht
      simp only [Prod.mk.injEq] at hx
      obtain ⟨rfl, _⟩ := hx
      simp at h
      exact h
    · rename_i fs hu
      obtain ⟨xs, m, rfl, hx, hl, hxs, hf⟩ := DataW.trod_struct hu ht
      simp only [Prod.mk.injEq] at hx
      obtain ⟨rfl, _⟩ := hx
      simp only at h
      split at h
      · rename_i vss hv
        split at h
        · rename_i hc
          simp only [Bool.and_eq_true, Nat.beq_eq] at hc
          simp only [Option.some.injEq] at h
          subst h
          obtain ⟨h1, h2⟩ := layAll_get hv
          refine pieces vss cs (by rw [hl, hc.2]) fun i v hi => ?_
          have hlt : i < vss.length := (List.getElem?_eq_some_iff.1 hi).1
          rw [h1, List.length_zip, List.length_map, List.length_map] at hlt
          have hlt1 : i < fs.size := by simp at hlt; omega
          have hlt2 : i < xs.length := by omega
          have hfi : fs[i]? = some fs[i] := Array.getElem?_eq_getElem hlt1
          have hxi : xs[i]? = some xs[i] := List.getElem?_eq_getElem hlt2
          obtain ⟨v', e1, e2⟩ := h2 i fs[i].type xs[i].1 (by
            rw [List.getElem?_zip_eq_some]
            exact ⟨by simp [hlt1], by simp [List.getElem?_map, hxi]⟩)
          obtain rfl : v = v' := Option.some.inj (hi.symm.trans e1)
          obtain ⟨o1, o2⟩ := offsOk_get hc.1.2 i fs[i] v (by simp [hlt1]) hi
          have := hf i _ hfi
          rw [hxi, o2, o1, Nat.zero_add] at this
          exact lay_ok n e2 this
        · cases h
      · cases h
    · rename_i m e hu
      obtain ⟨xs, k, rfl, hx, hl, hxs, hf⟩ := DataW.trod_array hu ht
      simp only [Prod.mk.injEq] at hx
      obtain ⟨rfl, _⟩ := hx
      simp only at h
      split at h
      · rename_i vss hv
        split at h
        · rename_i hc
          simp only [Bool.and_eq_true, Nat.beq_eq] at hc
          simp only [Option.some.injEq] at h
          subst h
          obtain ⟨h1, h2⟩ := layAll_get hv
          have hall : ∀ v ∈ vss, v.length = P.cellsOf e := fun v hv => by simpa using List.all_eq_true.1 hc.1.2 v hv
          refine pieces vss cs (by rw [hl, hc.2]) fun i v hi => ?_
          have hlt : i < vss.length := (List.getElem?_eq_some_iff.1 hi).1
          rw [h1, List.length_map, List.length_map] at hlt
          have hxi : xs[i]? = some xs[i] := List.getElem?_eq_getElem hlt
          obtain ⟨v', e1, e2⟩ := h2 i e xs[i].1 (by simp [hxi])
          obtain rfl : v = v' := Option.some.inj (hi.symm.trans e1)
          have hlen : (vss.take i).flatten.length = i * P.cellsOf e := by
            have key : ∀ (l : List (List Value)), (∀ v ∈ l, v.length = P.cellsOf e) → l.flatten.length = l.length * P.cellsOf e := by
              intro l
              induction l with
              | nil => intro _; simp
              | cons a r ih => intro h; rw [List.flatten_cons, List.length_append, ih fun v hv => h v (List.mem_cons_of_mem _ hv), h a List.mem_cons_self, List.length_cons, Nat.succ_mul, Nat.add_comm]
            rw [key _ fun v hv => hall v (List.mem_of_mem_take hv), List.length_take, Nat.min_eq_left (by have := (List.getElem?_eq_some_iff.1 hi).1; omega)]
          have := hf i (by omega)
          rw [hxi] at this
          rw [hlen, hall v (List.mem_of_getElem? hi)]
          exact lay_ok n e2 this
        · cases h
      · cases h
    · cases h
end

/-! ### A laid variable, as a walk reads it -/
def litOk : Value → Bool
  | .int _ _ | .string _ | .bool _ => true
  | _ => false
theorem leaf_rep {E : Env} {w : World} {m : Md} {v : Value} (h : litOk v = true) : Rep E w m (leafOf v) v := by
  cases v with
  | bool b => exact .bool _ _
  | int k n => exact .int _ _ _
  | string s => exact .str _ _
  | _ => cases h

/-- One variable of a list of laid ones: its block, its type, its cells as data. -/
def laidOne (P : Program) (x : String × DataW Unit) : Option (Nat × List D) :=
  match P.globalNamed x.1 with
  | some g => match (P.globals[g]?).map (·.type) with
    | some t => match layOf P 8 t x.2 with
      | some vs => if vs.all litOk then some (g, vs.map leafOf) else none
      | none => none
    | none => none
  | none => none

theorem laid_gl {P : Program} {W : World} : ∀ {laid : List (String × DataW Unit)} {ps : List MemPlace}, DataW.LaidVars P W laid ps → ∀ (x : String × DataW Unit), x ∈ laid → ∀ g cs, laidOne P x = some (g, cs) →
    Rep E0 W .slot (.fptr cs.length [.agg cs] 0 0) (.pointer (some ⟨g, 0, none⟩))
  | [], ps, _, x, hx, _, _, _ => by cases hx
  | (n, d) :: r, ps, ⟨g0, t, vs, fuel, p, q, hg, ht, hv, hd, hr, _⟩, x, hx, g, cs, ho => by
    rcases List.mem_cons.1 hx with rfl | hx
    · unfold laidOne at ho
      simp only [hg, ht] at ho
      split at ho
      · rename_i us hl
        split at ho
        · rename_i hall
          simp only [Option.some.injEq, Prod.mk.injEq] at ho
          obtain ⟨rfl, rfl⟩ := ho
          have e := lay_ok 8 hl hd
          have hall' : ∀ v ∈ us, litOk v = true := fun v hv => List.all_eq_true.1 hall v hv
          have hcell : ∀ (j : Nat) (c : D), (us.map leafOf)[j]? = some c → ∃ u, us[j]? = some u ∧ c = leafOf u := by
            intro j c hc
            rw [List.getElem?_map] at hc
            cases hu : us[j]? with
            | none => rw [hu] at hc; cases hc
            | some u => rw [hu] at hc; exact ⟨u, rfl, (Option.some.inj hc).symm⟩
          have hsz : g0 < W.heap.size := by
            unfold World.var? at hv
            simp only [hg, Option.bind_some] at hv
            split at hv
            · rename_i h; exact lt_of_get h
            · cases hv
          have := Rep.fptr (E := E0) (w := W) .slot (us.map leafOf).length [.agg (us.map leafOf)] 0 0 ⟨g0, 0, none⟩ (fun _ j => (us[j]?).getD (.bool false)) (.inl rfl) (fun x hx => by rw [List.mem_singleton] at hx; subst hx; rfl)
            ⟨rfl, hsz, fun i j x c hx hc => ?_⟩ (fun i j x c hx hc => ?_)
          · simpa [Addr.add] using this
          · match i, hx with
            | 0, hx =>
              simp at hx
              subst hx
              obtain ⟨u, hu, _⟩ := hcell j c hc
              have := World.var?_cell hg hv j
              rw [hu]
              simp only [Nat.zero_mul, Nat.zero_add, Option.getD_some]
              rw [show (⟨g0, 0, none⟩ : Addr).add j = ⟨g0, j, none⟩ from by cases j <;> simp [Addr.add], this, ← Array.getElem?_toList, e, hu]
            | i + 1, hx => simp at hx
          · match i, hx with
            | 0, hx =>
              simp at hx
              subst hx
              obtain ⟨u, hu, rfl⟩ := hcell j c hc
              rw [hu]
              exact leaf_rep (hall' u (List.mem_of_getElem? hu))
            | i + 1, hx => simp at hx
        · cases ho
      · cases ho
    · exact laid_gl hr x hx g cs ho

def glAll (P : Program) : List (String × DataW Unit) → Option (List (Nat × D))
  | [] => some []
  | x :: r => match laidOne P x, glAll P r with
    | some (g, cs), some l => some ((g, .fptr cs.length [.agg cs] 0 0) :: l)
    | _, _ => none
theorem glAll_mem {P : Program} : ∀ {laid : List (String × DataW Unit)} {gl : List (Nat × D)}, glAll P laid = some gl → ∀ y ∈ gl, ∃ x ∈ laid, ∃ g cs, laidOne P x = some (g, cs) ∧ y = (g, .fptr cs.length [.agg cs] 0 0)
  | [], gl, h, y, hy => by
    simp only [glAll, Option.some.injEq] at h
    subst h
    cases hy
  | x :: r, gl, h, y, hy => by
    unfold glAll at h
    split at h
    · rename_i g cs l h1 h2
      simp only [Option.some.injEq] at h
      subst h
      rcases List.mem_cons.1 hy with rfl | hy
      · exact ⟨x, List.mem_cons_self, g, cs, h1, rfl⟩
      · obtain ⟨x', hx, g', cs', e1, e2⟩ := glAll_mem h2 y hy
        exact ⟨x', List.mem_cons_of_mem _ hx, g', cs', e1, e2⟩
    · cases h
theorem laid_filter {laid : List (String × DataW Unit)} (hplain : laid.all (fun x => x.2.handleName?.isNone) = true) : (laid.filter fun x => x.2.handleName?.isNone) = laid ∧ (laid.filter fun x => x.2.handleName?.isSome) = [] := by
  refine ⟨List.filter_eq_self.2 fun x hx => List.all_eq_true.1 hplain x hx, List.filter_eq_nil_iff.2 fun x hx => ?_⟩
  have := List.all_eq_true.1 hplain x hx
  cases hh : x.2.handleName? with
  | none => simp
  | some a => rw [hh] at this; cases this
theorem laidMetH_heap {P : Program} {w w' : World} {laid : List (String × DataW Unit)} (hplain : laid.all (fun x => x.2.handleName?.isNone) = true) (hh : w.heap = w'.heap) (h : laidMetH P laid w) : laidMetH P laid w' := by
  obtain ⟨h1, h2⟩ := laidMetH_iff.1 h
  refine laidMetH_iff.2 ⟨h1.of_heap hh, ?_⟩
  rw [(laid_filter hplain).2]
  exact fun x hx => by cases hx
theorem gl_ok {P : Program} {W : World} {laid : List (String × DataW Unit)} {gl : List (Nat × D)} (hplain : laid.all (fun x => x.2.handleName?.isNone) = true) (h : glAll P laid = some gl) (hL : laidMetH P laid W) : GlOK gl E0 W := by
  have hm : laidMet P (laid.filter fun x => x.2.handleName?.isNone) W := (laidMetH_iff.1 hL).1
  have hf : (laid.filter fun x => x.2.handleName?.isNone) = laid := List.filter_eq_self.2 fun x hx => List.all_eq_true.1 hplain x hx
  rw [hf] at hm
  obtain ⟨ps, hv, _⟩ := hm
  intro y hy
  obtain ⟨x, hx, g, cs, e1, rfl⟩ := glAll_mem h y hy
  exact ⟨⟨_, _, _, _, rfl⟩, laid_gl hv x hx g cs e1⟩

/-! ### The variables read as they did -/
def varsOk (P : Program) (ns : List String) : Bool := ns.all fun n => match P.globalNamed n with
  | some g => match (P.globals[g]?).map (·.type) with
    | some t => P.readableRec t && decide (t < P.types.size)
    | none => false
  | none => false
theorem trodVars_below {H : Type} {enc : TypeId × Value → H} {P : Program} (hl : laidOutB P = true) {W W' : World} (hb : Below W.heap.size W W') : ∀ {ns : List String} {gs : List (DataW H)} {q : List MemPlace},
    varsOk P ns = true → DataW.TrodVars enc P W (fun _ => true) ns gs q → DataW.TrodVars enc P W' (fun b => decide (b < W.heap.size)) ns gs q
  | [], [], q, _, h => h
  | [], _ :: _, q, _, h => by simp [DataW.TrodVars] at h
  | _ :: _, [], q, _, h => by simp [DataW.TrodVars] at h
  | n :: ns, d :: ds, q, ha, ⟨g, t, cs, fuel, p, q', hg, ht, hv, hd, hr, e⟩ => by
    unfold varsOk at ha
    simp only [List.all_cons, hg, ht, Bool.and_eq_true, decide_eq_true_eq] at ha
    have hsz : g < W.heap.size := by
      unfold World.var? at hv
      simp only [hg, Option.bind_some] at hv
      split at hv
      · rename_i h; exact lt_of_get h
      · cases hv
    have hlt : ∀ x ∈ p, x.block < W.heap.size := DataW.trod_lt _ _ _ _ hd
    obtain ⟨fuel', hd'⟩ := Below.trod hl ha.1.1 ha.1.2 (v := .agg cs) ⟨fuel, hd⟩ hb hlt
    have hv' : W'.var? P n = some cs := by
      rw [← hv]
      unfold World.var?
      simp only [hg, Option.bind_some, hb.block g hsz]
    exact ⟨g, t, cs, fuel', p, q', hg, ht, hv', hd', trodVars_below hl hb (by unfold varsOk; exact ha.2) hr, e⟩

/-- A law's row that lists variables, out of its contract. -/
theorem law_returns_laid {C : Checked} {os : Os} {f : FuncId} {fn : Func} {s : ChangeSpec} {conds : List PathCond} {Q : List D → Prop} {rt : TypeId} {H : Type} {enc : TypeId × Value → H}
    {laid : List (String × DataW Unit)} {gl : List (Nat × D)}
    (own : ownKnob C.prog.godebug = none) (started : os.Started) (noInit : C.prog.inits.idxOf? f = none) (hfn : C.prog.funcs[f]? = some fn)
    (witness : ∃ (w : World) (tape : Tape) (i : Input), w.os = os ∧ (w.forCall tape i).Shaped C.prog ∧ i.vars = [] ∧ Input.okWide C.prog (w.forCall tape i) .any w.heap.size f i ∧
      ((s.pre enc C.prog fn conds false (w.forCall tape i).memory i.args ∧ laidMetH C.prog laid (w.forCall tape i).memory) ∧ sizedMet enc C.prog fn (OpenSpec.ofChange s) false (w.forCall tape i).memory i.args) ∧
        ({} : Assume).holds C.prog (lone (Frame.enter C.prog f i.args .normal) [] (w.forCall tape i)))
    (laidout : laidOutB C.prog = true) (hread : fn.params.toList.all (fun t => C.prog.readableRec t && decide (t < C.prog.types.size)) = true)
    (hres : fn.resultTypes = #[rt]) (hrt : C.prog.underlying rt = some .bool) (hvars : varsOk C.prog s.vars = true)
    (hspec : ∀ ds gs : List (DataW H), ds.length = fn.params.size → gs.length = s.vars.length → s.fn H (ds ++ gs) = { results := [.lit (.bool true)], args := ds, vars := gs })
    (hplain : laid.all (fun x => x.2.handleName?.isNone) = true) (hgl : glAll C.prog laid = some gl)
    (O : OpnL C.prog fn.params.toList Q) (law : ∀ xs, Q xs → Ct C.prog gl f xs [] [.bool true] []) :
    ReturnsInHanded {} C os f .any (fun w args => (s.pre enc C.prog fn conds false w args ∧ laidMetH C.prog laid w) ∧ sizedMet enc C.prog fn (OpenSpec.ofChange s) false w args) (s.post enc C.prog fn false true false false) := by
  refine returnsInHanded_of_change_and (X := fun w _ => laidMetH C.prog laid w) (fun _ _ _ hh h => laidMetH_heap hplain hh h) own started noInit hfn witness ?_
  intro W base args ds gs before hval hW hcnd hsz hL _
  have hW' := hW
  obtain ⟨p, q, hA, hV, rfl, hfz, hnd⟩ := hW
  obtain ⟨xs, hQ, hl, hxs⟩ := O.get (fun j t v ht hv => hval j t v (by simpa using ht) (by simpa using hv)) hA
  have hlen : ds.length = fn.params.size := by
    have key : ∀ {ts : List TypeId} {vs : List Value} {ds : List (DataW H)} {ps : List MemPlace}, DataW.TrodAll enc C.prog W 0 (fun _ => true) true ts vs ds ps → ds.length = ts.length := by
      intro ts
      induction ts with
      | nil => intro vs ds ps h; obtain ⟨rfl, rfl, rfl⟩ := trodAll_nil h; rfl
      | cons t ts ih => intro vs ds ps h; obtain ⟨v, vs', d, ds', p, q, rfl, rfl, rfl, h1, h2⟩ := trodAll_cons h; simp [ih h2]
    simpa using key hA
  have hgs : gs.length = s.vars.length := by
    have key : ∀ {ns : List String} {gs : List (DataW H)} {q : List MemPlace}, DataW.TrodVars enc C.prog W (fun _ => true) ns gs q → gs.length = ns.length := by
      intro ns
      induction ns with
      | nil => intro gs q h; cases gs with
        | nil => rfl
        | cons a r => simp [DataW.TrodVars] at h
      | cons n ns ih => intro gs q h; cases gs with
        | nil => simp [DataW.TrodVars] at h
        | cons a r => obtain ⟨g, t, cs, fuel, p, q', _, _, _, _, hr, _⟩ := h; simp [ih hr]
    exact key hV
  refine (law_walk (law xs hQ) (w := W) (vs := args) (gl_ok hplain hgl hL) (by simpa using hl) (fun i d v hd hv => hxs i d v hd (by simpa using hv))).mono fun e W' ⟨he, bel⟩ => ?_
  subst he
  have hb := trodAll_below laidout bel hread hA
  have hbv := trodVars_below laidout bel hvars hV
  refine ⟨_, rfl, ds, gs, _, [], p, q, hW', ?_, ?_, ?_, bel.frame _, fun h => by cases h⟩
  · rw [hspec _ _ (by simpa using hlen) hgs, hres]
    exact trodAll_mk1 (shut_bool hrt _)
  · rw [hspec _ _ (by simpa using hlen) hgs]
    simpa using hb
  · rw [hspec _ _ (by simpa using hlen) hgs]
    simpa using hbv

end Go.Proofs.YtfnhclmdobdkbaaDoor.Ab
