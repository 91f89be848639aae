/-
  The law FactorDivisors holds: for all inputs it returns true, and its arguments read afterwards as before.
-/
import Derived.HandedShaped
import Derived.SizedLaws
import Derived.Test.YtblebpmlkpobnaaGreatFZU
import Derived.Test.YtblebpmlkpobnaaGreatFYU
import Derived.Test.YtblebpmlkpobnaaGreatFYT
set_option linter.unusedSimpArgs false
set_option linter.unusedVariables false
namespace Go.Proofs.YtblebpmlkpobnaaGreat
open Go.ChangeShapes Go.WideShapes Go.ChangeAt Go.RowKit
set_option maxRecDepth 100000 in
theorem fdivisors_lifted (os : Os) (started : os.Started) (H : Type) (enc : TypeId × Value → H) :
    ReturnsInHanded {} Tryz.checked os 7 .any (Rows.factorDivisorsSpec.pre6 enc Tryz.prog Tryz.f7 Rows.factorDivisorsRow.domain false) (Rows.factorDivisorsSpec.post enc Tryz.prog Tryz.f7 false true false false) := by
  refine returnsInHanded_of_change_shaped (C := Tryz.checked) Aown started (by kernel_rfl) Tryz.func7
    (ChangeSpec.witness6 (enc := enc) (C := Tryz.checked) false ⟨#[], #[.agg #[.slice none 0 0, .int .u16 0]], []⟩ 8 (by kernel_rfl) (by kernel_rfl) (by kernel_rfl) (by kernel_rfl)) ?_
  intro W base args ds gs before hval0 hW hcnd hsz _ _
  have hval : ∀ (j : Nat) t v, Tryz.f7.params[j]? = some t → args[j]? = some v → Value.okWide Tryz.prog W .any base t v := hval0
  have hW' := hW
  obtain ⟨p, q, hA0, hV, rfl, hfz, hnd⟩ := hW
  have hA : DataW.TrodAll enc Tryz.prog W 0 (fun _ => true) true Tryz.f7.params.toList args.toList ds p := hA0
  rw [Tryz.params7] at hA hval
  obtain ⟨v0, d0, rfl, rfl, h0⟩ := trodAll_one hA
  obtain ⟨rfl, rfl⟩ := trodVars_none hV
  have fin : ∀ {W' : World}, Below W.heap.size W W' → Rows.factorDivisorsSpec.post enc Tryz.prog Tryz.f7 false true false false W #[v0] (.bool true) W' := fun hb =>
    law_post (tb := 4) AlaidOut (fun t ht => by rw [Tryz.params7] at ht; simp at ht; subst ht; exact ⟨by kernel_rfl, of_decide_eq_true (by kernel_rfl)⟩) rfl Tryz.underlying4 rfl ⟨rfl, rfl, rfl⟩ hW' hb
  obtain ⟨L0, b0, D0, s0⟩ := open_dxs (hval 0 25 v0 rfl rfl) h0
  have S0 := s0 (fun n hn => of_decide_eq_true (List.all_eq_true.1 hsz n (DataW.weights_mem_each (j := 0) (t := 25) (d := d0) (by rw [Tryz.params7]; rfl) rfl n hn)))
  refine (?_ : Calls Tryz.prog 7 #[v0] W _)
  have hk := fdivisors_any v0 L0 b0 W D0 S0
  refine hk.mono fun e W' ⟨he, hb⟩ => ?_
  subst he
  exact ⟨_, rfl, fin hb⟩
theorem fdivisors_holds : Rows.FactorDivisorsSaid :=
  OpenClaim.holds_of_wide 7 Tryz.f7 rfl rfl rfl rfl rfl rfl rfl ⟨rfl, rfl, rfl, rfl, rfl⟩ rfl rfl rfl rfl rfl (by kernel_rfl) Tryz.func7 (by kernel_rfl)
    (of_decide_eq_true (by kernel_rfl)) (by unfold Func.isWrapper; first | (rw [if_pos (by decide +kernel)]; kernel_rfl) | (rw [if_neg (by decide +kernel)]; exact ⟨rfl, rfl⟩))
    (fun os started H enc _ => fdivisors_lifted os started H enc)
end Go.Proofs.YtblebpmlkpobnaaGreat
