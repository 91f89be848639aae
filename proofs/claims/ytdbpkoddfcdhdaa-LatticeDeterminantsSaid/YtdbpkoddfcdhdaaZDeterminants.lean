/-
  The law LatticeDeterminants holds: for every two descriptions of matrices it returns true, and its arguments read afterwards as before.
-/
import Derived.Test.YtdbpkoddfcdhdaaQE
import Derived.Test.YtdbpkoddfcdhdaaPW
set_option linter.unusedSimpArgs false
set_option linter.unusedVariables false

namespace Go.Proofs.Ytdbpkoddfcdhdaa
open Go.ChangeShapes Go.WideShapes Go.ChangeAt Go.RowKit

set_option maxRecDepth 100000 in
theorem determinants_lifted (os : Os) (started : os.Started) (H : Type) (enc : TypeId × Value → H) :
    ReturnsInHanded {} Try.checked os 7 .any (Rows.latticeDeterminantsSpec.pre6 enc Try.prog Try.f7 Rows.latticeDeterminantsRow.domain false) (Rows.latticeDeterminantsSpec.post enc Try.prog Try.f7 false true false false) := by
  refine returnsInHanded_of_change (C := Try.checked) Aown started (by kernel_rfl) Try.func7
    (ChangeSpec.witness6 (enc := enc) (C := Try.checked) false ⟨#[], #[.agg #[.int .u8 0, .int .u8 0, .slice none 0 0], .agg #[.int .u8 0, .int .u8 0, .slice none 0 0]], []⟩ 8 (by kernel_rfl) (by kernel_rfl) (by kernel_rfl) (by kernel_rfl)) ?_
  intro W base args ds gs before hval0 hW hcnd _
  have hval : ∀ (j : Nat) t v, Try.f7.params[j]? = some t → args[j]? = some v → Value.okWide Try.prog W .any base t v := hval0
  have hW' := hW
  obtain ⟨p, q, hA0, hV, rfl, hfz, hnd⟩ := hW
  have hA : DataW.TrodAll enc Try.prog W 0 (fun _ => true) true Try.f7.params.toList args.toList ds p := hA0
  rw [Try.params7] at hA hval
  obtain ⟨v0, v1, d0, d1, p0, p1, rfl, rfl, rfl, h0, h1⟩ := trodAll_two hA
  obtain ⟨rfl, rfl⟩ := trodVars_none hV
  have fin : ∀ {W' : World}, Below W.heap.size W W' → Rows.latticeDeterminantsSpec.post enc Try.prog Try.f7 false true false false W #[v0, v1] (.bool true) W' := fun hb =>
    law_post (tb := 4) AlaidOut (fun t ht => by rw [Try.params7] at ht; simp at ht; subst ht; exact ⟨by kernel_rfl, of_decide_eq_true (by kernel_rfl)⟩) rfl Try.underlying4 rfl ⟨rfl, rfl, rfl⟩ hW' hb
  obtain ⟨x, y, a, cap, V, e0, hx, hy, k1, k2, k3⟩ := open_raw (hval 0 24 v0 rfl rfl) h0
  obtain ⟨x', y', a', cap', V', e1, hx', hy', k1', k2', k3'⟩ := open_raw (hval 1 24 v1 rfl rfl) h1
  refine (?_ : Calls Try.prog 7 #[v0, v1] W _)
  have hk := detsL_any x y x' y' a a' cap cap' V V' W k1 k2 k3 k1' k2' k3' hx hy hx' hy'
  rw [← e0, ← e1] at hk
  refine hk.mono fun e W' ⟨he, hb⟩ => ?_
  subst he
  exact ⟨_, rfl, fin hb⟩

theorem determinants_holds : Rows.LatticeDeterminantsSaid :=
  OpenClaim.holds_of_wide 7 Try.f7 rfl rfl rfl rfl rfl rfl rfl ⟨rfl, rfl, rfl, rfl, rfl⟩ rfl rfl rfl rfl rfl (by kernel_rfl) Try.func7 (by kernel_rfl)
    (of_decide_eq_true (by kernel_rfl)) (by unfold Func.isWrapper; first | (rw [if_pos (by decide +kernel)]; kernel_rfl) | (rw [if_neg (by decide +kernel)]; exact ⟨rfl, rfl⟩))
    (fun os started H enc _ => determinants_lifted os started H enc)
end Go.Proofs.Ytdbpkoddfcdhdaa
