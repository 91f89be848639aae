/-
  The law LatticeSolves holds: for every description of a matrix and all numbers it returns true, and its arguments read afterwards as before.
-/
import Derived.Test.YtdbpkoddfcdhdaaGreatRI
import Derived.Test.YtdbpkoddfcdhdaaGreatPW
set_option linter.unusedSimpArgs false
set_option linter.unusedVariables false

namespace Go.Proofs.YtdbpkoddfcdhdaaGreat
open Go.ChangeShapes Go.WideShapes Go.ChangeAt Go.RowKit

theorem cells_i16 : Tryz.prog.cellsOf 43 = 1 := by kernel_rfl

set_option maxRecDepth 100000 in
theorem solves_lifted (os : Os) (started : os.Started) (H : Type) (enc : TypeId × Value → H) :
    ReturnsInHanded {} Tryz.checked os 4 .any (Rows.latticeSolvesSpec.pre6 enc Tryz.prog Tryz.f4 Rows.latticeSolvesRow.domain false) (Rows.latticeSolvesSpec.post enc Tryz.prog Tryz.f4 false true false false) := by
  refine returnsInHanded_of_change (C := Tryz.checked) Aown started (by kernel_rfl) Tryz.func4
    (ChangeSpec.witness6 (enc := enc) (C := Tryz.checked) false ⟨#[], #[.agg #[.int .u8 0, .int .u8 0, .slice none 0 0], .agg #[.int .i16 0, .int .i16 0, .int .i16 0, .int .i16 0], .agg #[.int .i8 0, .int .i8 0, .int .i8 0, .int .i8 0]], []⟩ 8 (by kernel_rfl) (by kernel_rfl) (by kernel_rfl) (by kernel_rfl)) ?_
  intro W base args ds gs before hval0 hW hcnd _
  have hval : ∀ (j : Nat) t v, Tryz.f4.params[j]? = some t → args[j]? = some v → Value.okWide Tryz.prog W .any base t v := hval0
  have hW' := hW
  obtain ⟨p, q, hA0, hV, rfl, hfz, hnd⟩ := hW
  have hA : DataW.TrodAll enc Tryz.prog W 0 (fun _ => true) true Tryz.f4.params.toList args.toList ds p := hA0
  rw [Tryz.params4] at hA hval
  obtain ⟨v0, v1, v2, d0, d1, d2, p0, p1, p2, rfl, rfl, rfl, h0, h1, h2⟩ := trodAll_three hA
  obtain ⟨rfl, rfl⟩ := trodVars_none hV
  have fin : ∀ {W' : World}, Below W.heap.size W W' → Rows.latticeSolvesSpec.post enc Tryz.prog Tryz.f4 false true false false W #[v0, v1, v2] (.bool true) W' := fun hb =>
    law_post (tb := 4) AlaidOut (fun t ht => by rw [Tryz.params4] at ht; simp at ht; rcases ht with rfl | rfl | rfl <;> exact ⟨by kernel_rfl, of_decide_eq_true (by kernel_rfl)⟩) rfl Tryz.underlying4 rfl ⟨rfl, rfl, rfl⟩ hW' hb
  obtain ⟨x, y, a, cap, V, e0, hx, hy, k1, k2, k3⟩ := open_raw (hval 0 24 v0 rfl rfl) h0
  obtain ⟨zs, hl, e1, hz⟩ := open_nums Tryz.underlying44 Tryz.underlying43 cells_i16 (by kernel_rfl) (hval 1 44 v1 rfl rfl) h1
  obtain ⟨ys, hl2, e2, hy2⟩ := open_nums Tryz.underlying46 Tryz.underlying45 cells_i8 (by kernel_rfl) (hval 2 46 v2 rfl rfl) h2
  match zs, hl, ys, hl2 with
  | [c0, c1, c2, c3], _, [u0, u1, u2, u3], _ =>
    refine (?_ : Calls Tryz.prog 4 #[v0, v1, v2] W _)
    have hk := solvesL_any x y a cap V c0 c1 c2 c3 u0 u1 u2 u3 W k1 k2 k3 hx hy (i16_wf (hz _ (by simp))) (i16_wf (hz _ (by simp))) (i16_wf (hz _ (by simp))) (i16_wf (hz _ (by simp))) (i8_wf (hy2 _ (by simp))) (i8_wf (hy2 _ (by simp))) (i8_wf (hy2 _ (by simp))) (i8_wf (hy2 _ (by simp)))
    rw [← e0] at hk
    have e1' : v1 = .agg #[.int .i16 c0, .int .i16 c1, .int .i16 c2, .int .i16 c3] := e1
    have e2' : v2 = .agg #[.int .i8 u0, .int .i8 u1, .int .i8 u2, .int .i8 u3] := e2
    rw [← e1', ← e2'] at hk
    refine hk.mono fun e W' ⟨he, hb⟩ => ?_
    subst he
    exact ⟨_, rfl, fin hb⟩

theorem solves_holds : Rows.LatticeSolvesSaid :=
  OpenClaim.holds_of_wide 4 Tryz.f4 rfl rfl rfl rfl rfl rfl rfl ⟨rfl, rfl, rfl, rfl, rfl⟩ rfl rfl rfl rfl rfl (by kernel_rfl) Tryz.func4 (by kernel_rfl)
    (of_decide_eq_true (by kernel_rfl)) (by unfold Func.isWrapper; first | (rw [if_pos (by decide +kernel)]; kernel_rfl) | (rw [if_neg (by decide +kernel)]; exact ⟨rfl, rfl⟩))
    (fun os started H enc _ => solves_lifted os started H enc)
end Go.Proofs.YtdbpkoddfcdhdaaGreat
