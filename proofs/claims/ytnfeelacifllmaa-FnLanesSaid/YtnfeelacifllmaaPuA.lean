/-
  Aids for the plain side: loops over lists, numbers in range.
-/
import Derived.Test.YtnfeelacifllmaaAb5
import Derived.IntWalk
set_option linter.unusedVariables false
set_option linter.unusedSimpArgs false
namespace Go.Proofs.Ytnfeelacifllmaa.Ab

theorem w64 {n : Int} (h : -9223372036854775808 ≤ n ∧ n ≤ 9223372036854775807) : IntKind.wrap .i64 n = n := Go.IntWalk.i64_in n h

theorem wsucc {i : Nat} (h : i < 9223372036854775807) : IntKind.wrap .i64 ((i : Int) + 1) = ((i + 1 : Nat) : Int) := by rw [w64 (by omega)]; omega

def fl {α A ρ : Type} (f : A → Nat → α → Option (A ⊕ ρ)) (fin : A → Option ρ) : List α → Nat → A → Option ρ
  | [], _, a => fin a
  | x :: r, i, a => match f a i x with
    | some (.inl a') => fl f fin r (i + 1) a'
    | some (.inr q) => some q
    | none => none

def rd {A σ ρ : Type} (S : A → σ) : Option (A ⊕ ρ) → Option (σ ⊕ ρ)
  | some (.inl a) => some (.inl (S a))
  | some (.inr q) => some (.inr q)
  | none => none

theorem fl_loop {α A σ ρ : Type} {B : σ → Option (σ ⊕ ρ)} {S : A → Nat → σ} {f : A → Nat → α → Option (A ⊕ ρ)} {fin : A → Option ρ} {l : List α}
    (hs : ∀ a i x, l[i]? = some x → B (S a i) = rd (S · (i + 1)) (f a i x)) (he : ∀ a, goOn (loop B) (B (S a l.length)) = fin a) :
    ∀ (k i : Nat) a, i + k = l.length → loop B (S a i) = fl f fin (l.drop i) i a
  | 0, i, a, h => by
    have : i = l.length := by omega
    subst this
    rw [loop_eq, he, List.drop_of_length_le (Nat.le_refl _)]
    rfl
  | k + 1, i, a, h => by
    have hlt : i < l.length := by omega
    have hx : l[i]? = some l[i] := List.getElem?_eq_getElem hlt
    rw [loop_eq, hs a i l[i] hx, List.drop_eq_getElem_cons hlt]
    simp only [fl]
    cases hf : f a i l[i] with
    | none => rfl
    | some o =>
      cases o with
      | inl a' => exact fl_loop hs he k (i + 1) a' (by omega)
      | inr q => rfl

theorem fill_loop {σ α β : Type} {B : σ → Option (σ ⊕ List β)} {S : Nat → List β → σ} {l : List α} {g : α → β}
    (hs : ∀ i x y out, l[i]? = some x → i < l.length → out[i]? = some y → B (S i out) = some (.inl (S (i + 1) (out.set i (g x))))) (he : ∀ out, B (S l.length out) = some (.inr out)) (z : β) :
    loop B (S 0 (List.replicate l.length z)) = some (l.map g) := by
  have key : ∀ (k i : Nat), i + k = l.length → loop B (S i ((l.take i).map g ++ List.replicate k z)) = some (l.map g) := by
    intro k
    induction k with
    | zero =>
      intro i h
      have : i = l.length := by omega
      subst this
      rw [loop_eq, he]
      simp [goOn]
    | succ k ih =>
      intro i h
      have hlt : i < l.length := by omega
      have hlen : ((l.take i).map g).length = i := by simp; omega
      have hy : ((l.take i).map g ++ List.replicate (k + 1) z)[i]? = some z := by
        rw [List.getElem?_append_right (by omega), hlen]
        simp
      rw [loop_eq, hs i l[i] z _ (List.getElem?_eq_getElem hlt) hlt hy]
      have e : List.set ((l.take i).map g ++ List.replicate (k + 1) z) i (g l[i]) = (l.take (i + 1)).map g ++ List.replicate k z := by
        rw [List.set_append_right _ _ (by omega), hlen, Nat.sub_self, List.replicate_succ, List.set_cons_zero, List.take_add_one, List.getElem?_eq_getElem hlt, List.map_append]
        simp
      simp only [goOn]
      rw [e]
      exact ih (i + 1) (by omega)
  simpa using key l.length 0 (by omega)

theorem true_loop {σ ρ : Type} {B : σ → Option (σ ⊕ ρ)} {S : Nat → σ} {n : Nat} {r : ρ} (hs : ∀ i, i < n → B (S i) = some (.inl (S (i + 1)))) (he : B (S n) = some (.inr r)) : loop B (S 0) = some r := by
  have key : ∀ (k i : Nat), i + k = n → loop B (S i) = some r := by
    intro k
    induction k with
    | zero => intro i h; have : i = n := by omega
              subst this; rw [loop_eq, he]; rfl
    | succ k ih => intro i h; rw [loop_eq, hs i (by omega)]; exact ih (i + 1) (by omega)
  exact key n 0 (by omega)

def ix {α : Type} (p : α → Bool) (l : List α) : Int := match l.findIdx? p with
  | some i => (i : Int)
  | none => -1

theorem find_loop {σ α : Type} {B : σ → Option (σ ⊕ Int)} {S : Nat → σ} {l : List α} {p : α → Bool}
    (hs : ∀ i x, l[i]? = some x → i < l.length → B (S i) = if p x = true then some (.inr (i : Int)) else some (.inl (S (i + 1)))) (he : B (S l.length) = some (.inr (-1))) : loop B (S 0) = some (ix p l) := by
  have key : ∀ (k i : Nat), i + k = l.length → (∀ j x, j < i → l[j]? = some x → p x = false) → loop B (S i) = some (ix p l) := by
    intro k
    induction k with
    | zero =>
      intro i h hb
      have : i = l.length := by omega
      subst this
      rw [loop_eq, he]
      have : l.findIdx? p = none := by
        rw [List.findIdx?_eq_none_iff]
        intro x hx
        obtain ⟨j, hj⟩ := List.getElem?_of_mem hx
        exact hb j x (List.getElem?_eq_some_iff.1 hj).1 hj
      simp [ix, this, goOn]
    | succ k ih =>
      intro i h hb
      have hlt : i < l.length := by omega
      have hx := List.getElem?_eq_getElem hlt
      rw [loop_eq, hs i l[i] hx hlt]
      by_cases hp : p l[i] = true
      · rw [if_pos hp]
        have : l.findIdx? p = some i := by
          rw [List.findIdx?_eq_some_iff_getElem]
          exact ⟨hlt, hp, fun j hj => by simpa using hb j _ hj (List.getElem?_eq_getElem (by omega))⟩
        simp [ix, this, goOn]
      · rw [if_neg hp]
        refine ih (i + 1) (by omega) fun j x hj hx' => ?_
        by_cases hji : j = i
        · subst hji
          rw [hx] at hx'
          cases hx'
          simpa using hp
        · exact hb j x (by omega) hx'
  exact key l.length 0 (by omega) fun j x h => by omega

def alli {α : Type} (q : Nat → α → Bool) (l : List α) : Bool := (List.range l.length).all fun i => match l[i]? with
  | some x => q i x
  | none => true

theorem alli_iff {α : Type} {q : Nat → α → Bool} {l : List α} : alli q l = true ↔ ∀ i x, l[i]? = some x → q i x = true := by
  unfold alli
  rw [List.all_eq_true]
  constructor
  · intro h i x hx
    have := h i (List.mem_range.2 (List.getElem?_eq_some_iff.1 hx).1)
    rw [hx] at this
    exact this
  · intro h i _
    cases hx : l[i]? with
    | none => rfl
    | some x => exact h i x hx

theorem all_loop {σ α : Type} {B : σ → Option (σ ⊕ Bool)} {S : Nat → σ} {l : List α} {q : Nat → α → Bool}
    (hs : ∀ i x, l[i]? = some x → i < l.length → (∀ j y, j < i → l[j]? = some y → q j y = true) → B (S i) = if q i x = true then some (.inl (S (i + 1))) else some (.inr false)) (he : B (S l.length) = some (.inr true)) :
    loop B (S 0) = some (alli q l) := by
  have key : ∀ (k i : Nat), i + k = l.length → (∀ j x, j < i → l[j]? = some x → q j x = true) → loop B (S i) = some (alli q l) := by
    intro k
    induction k with
    | zero =>
      intro i h hb
      have : i = l.length := by omega
      subst this
      rw [loop_eq, he]
      have : alli q l = true := alli_iff.2 fun j x hj => hb j x (List.getElem?_eq_some_iff.1 hj).1 hj
      simp [this, goOn]
    | succ k ih =>
      intro i h hb
      have hlt : i < l.length := by omega
      have hx := List.getElem?_eq_getElem hlt
      rw [loop_eq, hs i l[i] hx hlt hb]
      by_cases hp : q i l[i] = true
      · rw [if_pos hp]
        refine ih (i + 1) (by omega) fun j x hj hx' => ?_
        by_cases hji : j = i
        · subst hji
          rw [hx] at hx'
          cases hx'
          exact hp
        · exact hb j x (by omega) hx'
      · rw [if_neg hp]
        have : ¬ alli q l = true := fun h => hp (alli_iff.1 h i _ hx)
        simp [goOn, this]
  exact key l.length 0 (by omega) fun j x h => by omega

def marked {β : Type} (f : Int → β) (c : Nat) (k : Int) (n : Nat) : List β := (List.range n).map fun i => f (k + (c * i : Nat))

theorem mark_loop {σ β : Type} {B : σ → Option (σ ⊕ (Int × List β))} {S : Int → Nat → List β → σ} {f : Int → β} {c : Nat} {n : Nat} {k0 : Int} (h0 : 0 ≤ k0) (hb : k0 + (c * n : Nat) ≤ 4611686018427387904)
    (hs : ∀ (i : Nat) (k : Int) (l : List β) (x : β), l.length = n → i < n → l[i]? = some x → 0 ≤ k → k + c ≤ 4611686018427387904 → B (S k i l) = some (.inl (S (k + c) (i + 1) (l.set i (f k))))) (he : ∀ k l, l.length = n → B (S k n l) = some (.inr (k, l))) (l : List β) (hl : l.length = n) :
    loop B (S k0 0 l) = some (k0 + (c * n : Nat), marked f c k0 n) := by
  have key : ∀ (m i : Nat) (l : List β), i + m = n → l.length = n → (∀ j, j < i → l[j]? = some (f (k0 + (c * j : Nat)))) → loop B (S (k0 + (c * i : Nat)) i l) = some (k0 + (c * n : Nat), marked f c k0 n) := by
    intro m
    induction m with
    | zero =>
      intro i l h hl hj
      have : i = n := by omega
      subst this
      rw [loop_eq, he _ _ hl]
      have : l = marked f c k0 i := by
        refine List.ext_getElem? fun j => ?_
        by_cases hji : j < i
        · rw [hj j hji]
          simp [marked, hji]
        · rw [List.getElem?_eq_none (by omega), List.getElem?_eq_none (by simp [marked]; omega)]
      rw [this]
      rfl
    | succ m ih =>
      intro i l h hl hj
      have hlt : i < l.length := by omega
      have hc : c * i + c ≤ c * n := Nat.mul_succ c i ▸ Nat.mul_le_mul_left c (show i + 1 ≤ n by omega)
      have e : k0 + (c * i : Nat) + (c : Int) = k0 + (c * (i + 1) : Nat) := by rw [Nat.mul_succ]; generalize c * i = u at *; omega
      rw [loop_eq, hs i (k0 + (c * i : Nat)) l l[i] hl (by omega) (List.getElem?_eq_getElem hlt) (by generalize c * i = u at *; omega) (by generalize c * i = u at *; generalize c * n = v at *; omega)]
      simp only [goOn]
      rw [e]
      refine ih (i + 1) _ (by omega) (by simpa using hl) fun j hj' => ?_
      rw [List.getElem?_set]
      by_cases hji : i = j
      · subst hji
        simp [hlt]
      · rw [if_neg hji]
        exact hj j (by omega)
  simpa using key n 0 l (by omega) hl (by intro j h; omega)

theorem held_loop {σ β : Type} {B : σ → Option (σ ⊕ Int)} {S : Int → Nat → σ} {f : Int → β} {c : Nat} {n : Nat} {k0 : Int} (h0 : 0 ≤ k0) (hb : k0 + (c * n : Nat) ≤ 4611686018427387904)
    (hs : ∀ (i : Nat) (k : Int), i < n → (marked f c k0 n)[i]? = some (f k) → 0 ≤ k → k + c ≤ 4611686018427387904 → B (S k i) = some (.inl (S (k + c) (i + 1)))) (he : ∀ k, B (S k n) = some (.inr k)) :
    loop B (S k0 0) = some (k0 + (c * n : Nat)) := by
  have key : ∀ (m i : Nat), i + m = n → loop B (S (k0 + (c * i : Nat)) i) = some (k0 + (c * n : Nat)) := by
    intro m
    induction m with
    | zero =>
      intro i h
      have : i = n := by omega
      subst this
      rw [loop_eq, he]
      rfl
    | succ m ih =>
      intro i h
      have hc : c * i + c ≤ c * n := Nat.mul_succ c i ▸ Nat.mul_le_mul_left c (show i + 1 ≤ n by omega)
      have e : k0 + (c * i : Nat) + (c : Int) = k0 + (c * (i + 1) : Nat) := by rw [Nat.mul_succ]; generalize c * i = u at *; omega
      rw [loop_eq, hs i (k0 + (c * i : Nat)) (by omega) (by simp [marked, show i < n by omega]) (by generalize c * i = u at *; omega) (by generalize c * i = u at *; generalize c * n = v at *; omega)]
      simp only [goOn]
      rw [e]
      exact ih (i + 1) (by omega)
  simpa using key n 0 (by omega)

theorem marked_len {β : Type} (f : Int → β) (c : Nat) (k : Int) (n : Nat) : (marked f c k n).length = n := by simp [marked]

theorem all_loop2 {σ α : Type} {B : σ → Option (σ ⊕ Bool)} {S : Nat → σ} {l : List α} {q : Nat → α → Bool} {e : Bool}
    (hs : ∀ i x, l[i]? = some x → i < l.length → (∀ j y, j < i → l[j]? = some y → q j y = true) → B (S i) = if q i x = true then some (.inl (S (i + 1))) else some (.inr false)) (he : B (S l.length) = some (.inr e)) :
    loop B (S 0) = some (alli q l && e) := by
  have key : ∀ (k i : Nat), i + k = l.length → (∀ j x, j < i → l[j]? = some x → q j x = true) → loop B (S i) = some (alli q l && e) := by
    intro k
    induction k with
    | zero =>
      intro i h hb
      have : i = l.length := by omega
      subst this
      rw [loop_eq, he]
      have : alli q l = true := alli_iff.2 fun j x hj => hb j x (List.getElem?_eq_some_iff.1 hj).1 hj
      simp [this, goOn]
    | succ k ih =>
      intro i h hb
      have hlt : i < l.length := by omega
      have hx := List.getElem?_eq_getElem hlt
      rw [loop_eq, hs i l[i] hx hlt hb]
      by_cases hp : q i l[i] = true
      · rw [if_pos hp]
        refine ih (i + 1) (by omega) fun j x hj hx' => ?_
        by_cases hji : j = i
        · subst hji
          rw [hx] at hx'
          cases hx'
          exact hp
        · exact hb j x (by omega) hx'
      · rw [if_neg hp]
        have : ¬ alli q l = true := fun h => hp (alli_iff.1 h i _ hx)
        simp [goOn, this]
  exact key l.length 0 (by omega) fun j x h => by omega

theorem fold_loop {σ α A ρ : Type} {B : σ → Option (σ ⊕ ρ)} {S : A → Nat → σ} {l : List α} {g : A → α → A} {I : A → Prop} {fin : A → ρ}
    (hs : ∀ a i x, l[i]? = some x → i < l.length → I a → B (S a i) = some (.inl (S (g a x) (i + 1))) ∧ I (g a x)) (he : ∀ a, I a → B (S a l.length) = some (.inr (fin a))) {a : A} (ha : I a) :
    loop B (S a 0) = some (fin (l.foldl g a)) := by
  have key : ∀ (k i : Nat) a, i + k = l.length → I a → loop B (S a i) = some (fin ((l.drop i).foldl g a)) := by
    intro k
    induction k with
    | zero =>
      intro i a h hI
      have : i = l.length := by omega
      subst this
      rw [loop_eq, he a hI, List.drop_of_length_le (Nat.le_refl _)]
      rfl
    | succ k ih =>
      intro i a h hI
      have hlt : i < l.length := by omega
      obtain ⟨h1, h2⟩ := hs a i l[i] (List.getElem?_eq_getElem hlt) hlt hI
      rw [loop_eq, h1, List.drop_eq_getElem_cons hlt]
      exact ih (i + 1) _ (by omega) h2
  simpa using key l.length 0 a (by omega) ha

theorem rev_loop {σ α : Type} {B : σ → Option (σ ⊕ List α)} {S : Int → Int → List α → σ} {l : List α}
    (hs : ∀ (i j : Nat) (m : List α) x y, i < j → m.length = l.length → j < l.length → m[i]? = some x → m[j]? = some y → B (S i j m) = some (.inl (S (i + 1 : Nat) ((j : Int) - 1) ((m.set i y).set j x)))) (he : ∀ (i j : Int) m, ¬ i < j → B (S i j m) = some (.inr m)) :
    loop B (S 0 ((l.length : Int) - 1) l) = some l.reverse := by
  have key : ∀ (k i : Nat) (m : List α), l.length ≤ 2 * i + k → m.length = l.length → i ≤ l.length → (∀ p, p < l.length → m[p]? = if p < i ∨ l.length - i ≤ p then l[l.length - 1 - p]? else l[p]?) → loop B (S i ((l.length : Int) - 1 - i) m) = some l.reverse := by
    intro k
    induction k using Nat.strongRecOn with
    | _ k ih =>
      intro i m hk hm hil hp
      by_cases hij : (i : Int) < (l.length : Int) - 1 - i
      · obtain ⟨j, hj⟩ : ∃ j : Nat, (j : Int) = (l.length : Int) - 1 - i := ⟨((l.length : Int) - 1 - i).toNat, by omega⟩
        rw [← hj]
        have hi' : i < m.length := by omega
        have hj' : j < m.length := by omega
        rw [loop_eq, hs i j m m[i] m[j] (by omega) hm (by omega) (List.getElem?_eq_getElem hi') (List.getElem?_eq_getElem hj')]
        simp only [goOn]
        rw [show (j : Int) - 1 = (l.length : Int) - 1 - (i + 1 : Nat) by omega]
        refine ih (k - 2) (by omega) (i + 1) _ (by omega) (by simpa using hm) (by omega) fun p hpl => ?_
        have hmi := hp i (by omega)
        have hmj := hp j (by omega)
        rw [if_neg (by omega), List.getElem?_eq_getElem hi'] at hmi
        rw [if_neg (by omega), List.getElem?_eq_getElem hj'] at hmj
        rw [List.getElem?_set]
        by_cases hpj : j = p
        · subst hpj
          rw [if_pos rfl, if_pos (by simpa using hj'), if_pos (by omega), hmi]
          congr 1
          omega
        · rw [if_neg hpj, List.getElem?_set]
          by_cases hpi : i = p
          · subst hpi
            rw [if_pos rfl, if_pos hi', if_pos (by omega), hmj]
            congr 1
            omega
          · rw [if_neg hpi, hp p hpl]
            by_cases hc : p < i ∨ l.length - i ≤ p
            · rw [if_pos hc, if_pos (by omega)]
            · rw [if_neg hc, if_neg (by omega)]
      · rw [loop_eq, he _ _ _ hij]
        simp only [goOn, Option.some.injEq]
        refine List.ext_getElem? fun p => ?_
        by_cases hpl : p < l.length
        · rw [hp p hpl, List.getElem?_reverse hpl]
          by_cases hc : p < i ∨ l.length - i ≤ p
          · rw [if_pos hc]
          · rw [if_neg hc]
            congr 1
            omega
        · rw [List.getElem?_eq_none (by omega), List.getElem?_eq_none (by simp; omega)]
  have := key l.length 0 l (by omega) rfl (by omega) fun p hpl => by rw [if_neg (by omega)]
  simpa using this

end Go.Proofs.Ytnfeelacifllmaa.Ab
