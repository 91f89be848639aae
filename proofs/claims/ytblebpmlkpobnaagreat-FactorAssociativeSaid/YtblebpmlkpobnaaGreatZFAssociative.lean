/-
  The law FactorAssociative holds: for all inputs it returns true, and its arguments read afterwards as before.
-/
import Derived.Test.YtblebpmlkpobnaaGreatFZJ
import Derived.Test.YtblebpmlkpobnaaGreatFYT
set_option linter.unusedSimpArgs false
set_option linter.unusedVariables false
namespace Go.Proofs.YtblebpmlkpobnaaGreat
open Go.ChangeShapes Go.WideShapes Go.ChangeAt Go.RowKit
set_option maxRecDepth 100000 in
theorem fassoc_lifted (os : Os) (started : os.Started) (H : Type) (enc : TypeId × Value → H) :
    ReturnsInHanded {} Tryz.checked os 6 .any (Rows.factorAssociativeSpec.pre6 enc Tryz.prog Tryz.f6 Rows.factorAssociativeRow.domain false) (Rows.factorAssociativeSpec.post enc Tryz.prog Tryz.f6 false true false false) := by
  refine returnsInHanded_of_change (C := Tryz.checked) Aown started (by kernel_rfl) Tryz.func6
    (ChangeSpec.witness6 (enc := enc) (C := Tryz.checked) false ⟨#[], #[.agg #[.slice none 0 0, .int .u16 0], .int .u16 0, .agg #[.slice none 0 0, .int .u16 0]], []⟩ 8 (by kernel_rfl) (by kernel_rfl) (by kernel_rfl) (by kernel_rfl)) ?_
  intro W base args ds gs before hval0 hW hcnd _
  have hval : ∀ (j : Nat) t v, Tryz.f6.params[j]? = some t → args[j]? = some v → Value.okWide Tryz.prog W .any base t v := hval0
  have hW' := hW
  obtain ⟨p, q, hA0, hV, rfl, hfz, hnd⟩ := hW
  have hA : DataW.TrodAll enc Tryz.prog W 0 (fun _ => true) true Tryz.f6.params.toList args.toList ds p := hA0
  rw [Tryz.params6] at hA hval
  obtain ⟨v0, v1, v2, d0, d1, d2, p0, p1, p2, rfl, rfl, rfl, h0, h1, h2⟩ := trodAll_three hA
  obtain ⟨rfl, rfl⟩ := trodVars_none hV
  have fin : ∀ {W' : World}, Below W.heap.size W W' → Rows.factorAssociativeSpec.post enc Tryz.prog Tryz.f6 false true false false W #[v0, v1, v2] (.bool true) W' := fun hb =>
    law_post (tb := 4) AlaidOut (fun t ht => by rw [Tryz.params6] at ht; simp at ht; rcases ht with rfl | rfl | rfl <;> exact ⟨by kernel_rfl, of_decide_eq_true (by kernel_rfl)⟩) rfl Tryz.underlying4 rfl ⟨rfl, rfl, rfl⟩ hW' hb
  obtain ⟨L0, b0, D0⟩ := open_dx (hval 0 25 v0 rfl rfl) h0
  obtain ⟨k1, rfl, rfl, rfl, wk1⟩ := open_int Tryz.underlying23 (hval 1 23 v1 rfl rfl) h1
  have q1 := tU16_wf wk1
  obtain ⟨K1, rfl⟩ : ∃ K : Nat, k1 = K := ⟨k1.toNat, by omega⟩
  obtain ⟨L2, b2, D2⟩ := open_dx (hval 2 25 v2 rfl rfl) h2
  refine (?_ : Calls Tryz.prog 6 #[v0, .int .u16 (K1 : Int), v2] W _)
  have hk := fassoc_any v0 v2 L0 L2 b0 b2 K1 W D0 D2 (by omega)
  refine hk.mono fun e W' ⟨he, hb⟩ => ?_
  subst he
  exact ⟨_, rfl, fin hb⟩
theorem fassoc_holds : Rows.FactorAssociativeSaid :=
  OpenClaim.holds_of_wide 6 Tryz.f6 rfl rfl rfl rfl rfl rfl rfl ⟨rfl, rfl, rfl, rfl, rfl⟩ rfl rfl rfl rfl rfl (by kernel_rfl) Tryz.func6 (by kernel_rfl)
    (of_decide_eq_true (by kernel_rfl)) (by unfold Func.isWrapper; first | (rw [if_pos (by decide +kernel)]; kernel_rfl) | (rw [if_neg (by decide +kernel)]; exact ⟨rfl, rfl⟩))
    (fun os started H enc _ => fassoc_lifted os started H enc)
end Go.Proofs.YtblebpmlkpobnaaGreat
