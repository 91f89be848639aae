/-
  The law FactorSplits holds: for all inputs it returns true, and its arguments read afterwards as before.
-/
import Derived.Test.YtblebpmlkpobnaaGreatFZM
import Derived.Test.YtblebpmlkpobnaaGreatFYT
set_option linter.unusedSimpArgs false
set_option linter.unusedVariables false
namespace Go.Proofs.YtblebpmlkpobnaaGreat
open Go.ChangeShapes Go.WideShapes Go.ChangeAt Go.RowKit
set_option maxRecDepth 100000 in
theorem fsplits_lifted (os : Os) (started : os.Started) (H : Type) (enc : TypeId × Value → H) :
    ReturnsInHanded {} Tryz.checked os 4 .any (Rows.factorSplitsSpec.pre6 enc Tryz.prog Tryz.f4 Rows.factorSplitsRow.domain false) (Rows.factorSplitsSpec.post enc Tryz.prog Tryz.f4 false true false false) := by
  refine returnsInHanded_of_change (C := Tryz.checked) Aown started (by kernel_rfl) Tryz.func4
    (ChangeSpec.witness6 (enc := enc) (C := Tryz.checked) false ⟨#[], #[.agg #[.slice none 0 0, .int .u16 0], .agg #[.slice none 0 0, .int .u16 0]], []⟩ 8 (by kernel_rfl) (by kernel_rfl) (by kernel_rfl) (by kernel_rfl)) ?_
  intro W base args ds gs before hval0 hW hcnd _
  have hval : ∀ (j : Nat) t v, Tryz.f4.params[j]? = some t → args[j]? = some v → Value.okWide Tryz.prog W .any base t v := hval0
  have hW' := hW
  obtain ⟨p, q, hA0, hV, rfl, hfz, hnd⟩ := hW
  have hA : DataW.TrodAll enc Tryz.prog W 0 (fun _ => true) true Tryz.f4.params.toList args.toList ds p := hA0
  rw [Tryz.params4] at hA hval
  obtain ⟨v0, v1, d0, d1, p0, p1, rfl, rfl, rfl, h0, h1⟩ := trodAll_two hA
  obtain ⟨rfl, rfl⟩ := trodVars_none hV
  have fin : ∀ {W' : World}, Below W.heap.size W W' → Rows.factorSplitsSpec.post enc Tryz.prog Tryz.f4 false true false false W #[v0, v1] (.bool true) W' := fun hb =>
    law_post (tb := 4) AlaidOut (fun t ht => by rw [Tryz.params4] at ht; simp at ht; rcases ht with rfl | rfl <;> exact ⟨by kernel_rfl, of_decide_eq_true (by kernel_rfl)⟩) rfl Tryz.underlying4 rfl ⟨rfl, rfl, rfl⟩ hW' hb
  obtain ⟨L0, b0, D0⟩ := open_dx (hval 0 25 v0 rfl rfl) h0
  obtain ⟨L1, b1, D1⟩ := open_dx (hval 1 25 v1 rfl rfl) h1
  refine (?_ : Calls Tryz.prog 4 #[v0, v1] W _)
  have hk := fsplits_any v0 v1 L0 L1 b0 b1 W D0 D1
  refine hk.mono fun e W' ⟨he, hb⟩ => ?_
  subst he
  exact ⟨_, rfl, fin hb⟩
theorem fsplits_holds : Rows.FactorSplitsSaid :=
  OpenClaim.holds_of_wide 4 Tryz.f4 rfl rfl rfl rfl rfl rfl rfl ⟨rfl, rfl, rfl, rfl, rfl⟩ rfl rfl rfl rfl rfl (by kernel_rfl) Tryz.func4 (by kernel_rfl)
    (of_decide_eq_true (by kernel_rfl)) (by unfold Func.isWrapper; first | (rw [if_pos (by decide +kernel)]; kernel_rfl) | (rw [if_neg (by decide +kernel)]; exact ⟨rfl, rfl⟩))
    (fun os started H enc _ => fsplits_lifted os started H enc)
end Go.Proofs.YtblebpmlkpobnaaGreat
