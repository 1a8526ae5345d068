/- The steps of functions on plain data, part 6: no condition. -/
import Derived.Test.YtogomlkoocbhcaaDoorAb5
import Derived.Shelf.Strconv.AtoiAll
set_option linter.unusedVariables false
set_option linter.unusedSimpArgs false
namespace Go.Proofs.YtogomlkoocbhcaaDoor.Ab
open Go.Shelf Go.RowKit Go.Lib
variable {P : Program} {ρ : Ren}
theorem post_two {E : Env} {w w' : World} {k : IntKind} {n : Int} {b : Bool} {v : Value} (h : Below w.heap.size w w') (hd : DrawOk w w') (hv : ifcV b v) : Post E w [] [.int k n, .ifc b] [] (.returned (.tuple #[.int k n, v])) w' :=
 ⟨farE E w.heap.size, [.int k n, v], rfl, frm_below h hd, rfl, fun k R hR => by simp at hR, .int _ _ _, .ifc _ _ _ hv, trivial⟩
theorem err_var {gl : List (Nat × D)} {E : Env} {w : World} (hgl : GlOK gl E w) {g W : Nat} (hg : glOf gl g = some (.fptr W [.agg [.ifc true]] 0 0)) : ∃ t p, w.cell? ⟨g, 0, none⟩ = some (.iface t p) := by
 obtain ⟨_, _, _, cs, ty, z, hh, he⟩ := hgl _ (glOf_mem hg)
 simp only at hh
 have he' : cs.toList.map leafOf = [.ifc true] := he
 rcases cs with ⟨cs⟩
 match cs, he' with
 | [], he' => cases he'
 | _ :: _ :: _, he' => simp at he'
 | [v], he' =>
  simp only [List.map_cons, List.map_nil, List.cons.injEq, and_true] at he'
  have : ∃ t p, v = .iface t p := by
   unfold leafOf at he'
   split at he' <;> first | (cases he'; done) | exact ⟨_, _, rfl⟩
  obtain ⟨t, p, rfl⟩ := this
  refine ⟨t, p, ?_⟩
  unfold World.cell?
  simp [hh]
theorem ct_atoi (L : LaysC.n172 P ρ) (hE : Ent P (ρ.f 172)) {gl : List (Nat × D)} {W1 W2 : Nat} (h15 : glOf gl (ρ.g 15) = some (.fptr W1 [.agg [.ifc true]] 0 0)) (h16 : glOf gl (ρ.g 16) = some (.fptr W2 [.agg [.ifc true]] 0 0)) {s : ByteArray} {r : Int × Bool} (H : atoiD s = some r) :
  Ct P gl (ρ.f 172) [.str s] [] [.int .i64 r.1, .ifc r.2] [] := by
 unfold atoiD at H
 split at H
 ·rename_i hs
  cases H
  refine ⟨hE, fun E w vs hgl hvs hargs _ _ => ?_⟩
  obtain ⟨v0, rfl⟩ : ∃ v0, vs = #[v0] := by
   rcases vs with ⟨vs⟩
   match vs, hvs with
   | [a], _ => exact ⟨a, rfl⟩
  have a0 := hargs 0 _ v0 rfl rfl
  cases a0
  cases h : Lib.atoiAll s.data.toList with
  | ok v =>
   have e1 : atoiV s = v := by unfold atoiV; rw [h]
   have e2 : atoiE s = false := by unfold atoiE; rw [h]
   simp only [e1, e2]
   refine Calls.mono (Any.strconv_Atoi_ok L s (by omega) v h w) ?_
   rintro e w' ⟨rfl, hw⟩
   refine post_two ?_ trivial (.inl ⟨rfl, rfl⟩)
   rcases hw with rfl | ⟨t, rfl⟩
   ·exact Below.refl _ _
   ·exact Lib.bytesWorld_below _ _ _
  | range =>
   have e1 : atoiV s = Lib.atoiSat s.data.toList := by unfold atoiV; rw [h]
   have e2 : atoiE s = true := by unfold atoiE; rw [h]
   simp only [e1, e2]
   obtain ⟨t, p, hc⟩ := err_var hgl h16
   refine Calls.mono (Any.strconv_Atoi_range L s hs h (.iface t p) w hc (.inr ⟨_, _, rfl⟩)) ?_
   rintro e w' ⟨N, rfl, _, _, hB⟩
   exact post_two hB trivial (.inr ⟨rfl, _, _, rfl⟩)
  | _ =>
   have e1 : atoiV s = 0 := by unfold atoiV; rw [h]
   have e2 : atoiE s = true := by unfold atoiE; rw [h]
   simp only [e1, e2]
   obtain ⟨t, p, hc⟩ := err_var hgl h15
   refine Calls.mono (Any.strconv_Atoi_syntax L s hs h (.iface t p) w hc (.inr ⟨_, _, rfl⟩)) ?_
   rintro e w' ⟨N, rfl, _, _, hB⟩
   exact post_two hB trivial (.inr ⟨rfl, _, _, rfl⟩)
 ·cases H
end Go.Proofs.YtogomlkoocbhcaaDoor.Ab
