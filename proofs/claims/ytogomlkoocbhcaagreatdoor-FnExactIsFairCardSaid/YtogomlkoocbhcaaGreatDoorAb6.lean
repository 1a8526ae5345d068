/- The steps of functions on plain data, part 6: no condition. -/
import Derived.Test.YtogomlkoocbhcaaGreatDoorAb5
import Derived.Shelf.Strconv.Itoa3
import Derived.Shelf.Strings.OnBuilder
set_option linter.unusedVariables false
set_option linter.unusedSimpArgs false
namespace Go.Proofs.YtogomlkoocbhcaaGreatDoor.Ab
open Go.Shelf Go.RowKit Go.Lib
variable {P : Program} {ρ : Ren}
theorem ct_itoa (L : LaysM.n171 P ρ) (hE : Ent P (ρ.f 171)) {gl : List (Nat × D)} {g W : Nat} (hg : glOf gl g = some (.fptr W [.agg (Lib.pow10Tab.map (D.int .u64))] 0 0)) (hn : P.globalNamed "internal/strconv.uint64pow10" = some g) {n : Int}
  (h : -9223372036854775808 ≤ n ∧ n ≤ 9223372036854775807) : Ct P gl (ρ.f 171) [.int .i64 n] [] [.str (itoaB n)] [] := by
 refine ⟨hE, fun E w vs hgl hvs hargs _ _ => ?_⟩
 obtain ⟨v0, rfl⟩ : ∃ v0, vs = #[v0] := by
  rcases vs with ⟨vs⟩
  match vs, hvs with
  | [a], _ => exact ⟨a, rfl⟩
 have a0 := hargs 0 _ v0 rfl rfl
 cases a0
 refine Calls.mono (Any.strconv_Itoa L n h.1 h.2 w (tab_is hgl (glOf_mem hg) hn)) ?_
 rintro e w' ⟨rfl, k, os, rfl⟩
 exact post_one (below_grow k os) (drw_le (by simp [Sort.grow, World.drewN])) (fun _ _ _ => .str _ _) (fun _ h => by cases h)
end Go.Proofs.YtogomlkoocbhcaaGreatDoor.Ab

namespace Go.Proofs.YtogomlkoocbhcaaGreatDoor.Ab
open Go.Shelf Go.RowKit Go.Lib
variable {P : Program} {ρ : Ren}
theorem ct_join (L : Lays.n156 P ρ) (X : Builder.Extra P ρ) (hE : Ent P (ρ.f 156)) {gl : List (Nat × D)} {xs : List ByteArray} {sep : ByteArray}
  (h : xs.length ≤ 140737488355328 ∧ (Lib.join (xs.map (·.data.toList)) sep.data.toList).length ≤ 140737488355328) : Ct P gl (ρ.f 156) [.list false 1 xs.length (xs.map D.str), .str sep] [] [.str (joinB xs sep)] [] := by
 refine ⟨hE, fun E w vs hgl hvs hargs _ _ => ?_⟩
 obtain ⟨v0, v1, rfl⟩ : ∃ v0 v1, vs = #[v0, v1] := by
  rcases vs with ⟨vs⟩
  match vs, hvs with
  | [a, b], _ => exact ⟨a, b, rfl⟩
 have a0 := hargs 0 _ v0 rfl rfl
 have a1 := hargs 1 _ v1 rfl rfl
 cases a1
 obtain ⟨A, cap, us, rfl, hlen, hcap, hwd, ha, hrr⟩ := a0.list_inv (.inl rfl)
 rcases Nat.eq_zero_or_pos xs.length with h0 | h0
 ·have e : xs = [] := List.length_eq_zero_iff.1 h0
  subst e
  refine Calls.mono (Any.strings_Join_none L X A cap sep w) ?_
  rintro e w' ⟨rfl, rfl⟩
  exact post_one ⟨rfl, rfl, rfl, Nat.le_refl _, fun _ _ => rfl⟩ (drw_le (Nat.le_refl _)) (fun _ _ _ => .str _ _) (fun _ h => by cases h)
 ·obtain ⟨a, rfl, ho, hb, hc⟩ := ha h0
  have hcell : ∀ (j : Nat) x, xs[j]? = some x → w.cell? (a.add j) = some (.string x) := fun j x hx => by
   have h1 := hc j 0 (.str x) (.str x) (by rw [List.getElem?_map, hx]; rfl) rfl
   have h2 := hrr j 0 (.str x) (.str x) (by rw [List.getElem?_map, hx]; rfl) rfl
   rw [Nat.mul_one, Nat.add_zero] at h1
   rw [h1, h2.str_inv]
  have hsp : a.spot = none := by
   have := hcell 0 xs[0] (List.getElem?_eq_getElem h0)
   unfold World.cell? at this
   split at this
   ·split at this
    ·cases this
    ·rename_i hs
     cases hsp : a.spot with
     | none => rfl
     | some x => simp [Addr.add, hsp] at hs
   ·cases this
  obtain ⟨bk, o, sp⟩ := a
  simp only at hsp
  subst hsp
  have hadd : ∀ j, (⟨bk, o, none⟩ : Addr).add j = ⟨bk, o + j, none⟩ := fun j => by
   unfold Addr.add
   split
   ·rename_i hj; subst hj; rfl
   ·rfl
  refine Calls.mono (Any.strings_Join L X bk o cap xs sep w (fun j x hx => by rw [← hadd]; exact hcell j x hx) hb h.1 hcap h.2) ?_
  rintro e w' ⟨rfl, hB⟩
  exact post_one hB trivial (fun _ _ _ => .str _ _) (fun _ h => by cases h)
end Go.Proofs.YtogomlkoocbhcaaGreatDoor.Ab
