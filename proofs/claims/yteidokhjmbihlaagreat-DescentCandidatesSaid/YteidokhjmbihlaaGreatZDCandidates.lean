/-
  The law DescentCandidates holds: for all inputs it returns true, and its arguments read afterwards as before.
-/
import Derived.Test.YteidokhjmbihlaaGreatDW
import Derived.Test.YteidokhjmbihlaaGreatDYL
set_option linter.unusedSimpArgs false
set_option linter.unusedVariables false
set_option maxRecDepth 100000
namespace Go.Proofs.YteidokhjmbihlaaGreat
open Go.ChangeShapes Go.WideShapes Go.ChangeAt Go.RowKit
theorem Qdc (os : Os) (started : os.Started) (H : Type) (enc : TypeId × Value -> H) :
  ReturnsInHanded {} Tryz.checked os 5 .any (Rows.descentCandidatesSpec.pre6 enc Tryz.prog Tryz.f5 Rows.descentCandidatesRow.domain false) (Rows.descentCandidatesSpec.post enc Tryz.prog Tryz.f5 false true false false) := by
 refine returnsInHanded_of_change (C := Tryz.checked) QkX started (by kernel_rfl) Tryz.func5
  (ChangeSpec.witness6 (enc := enc) (C := Tryz.checked) false ⟨#[], #[.agg #[.int .i8 0, .int .i16 0, .int .u8 0], .int .i16 0], []⟩ 8 (by kernel_rfl) (by kernel_rfl) (by kernel_rfl) (by kernel_rfl)) ?_
 intro W base args ds gs before hval0 hW hcnd _;have hval : ∀ (j : Nat) t v, Tryz.f5.params[j]? = some t -> args[j]? = some v -> Value.okWide Tryz.prog W .any base t v := hval0;have hW' := hW;obtain ⟨p, q, hA0, hV, rfl, hfz, hnd⟩ := hW;have hA : DataW.TrodAll enc Tryz.prog W 0 (fun _ => true) true Tryz.f5.params.toList args.toList ds p := hA0;rw [Tryz.params5] at hA hval;obtain ⟨v0, v1, d0, d1, p0, p1, rfl, rfl, rfl, h0, h1⟩ := trodAll_two hA;obtain ⟨rfl, rfl⟩ := trodVars_none hV
 have fin : ∀ {W' : World}, Below W.heap.size W W' -> Rows.descentCandidatesSpec.post enc Tryz.prog Tryz.f5 false true false false W #[v0, v1] (.bool true) W' := fun hb =>
  Qhm (tb := 4) QhC (fun t ht => by rw [Tryz.params5] at ht; simp at ht; rcases ht with rfl | rfl <;> exact ⟨by kernel_rfl, of_decide_eq_true (by kernel_rfl)⟩) rfl Tryz.underlying4 rfl ⟨rfl, rfl, rfl⟩ hW' hb
 obtain ⟨x0, y0, m0, rfl, rx0, ry0, rm0⟩ := QfF (hval 0 25 v0 rfl rfl) h0;obtain ⟨k1, rfl, rfl, rfl, wk1⟩ := open_int Tryz.underlying23 (hval 1 23 v1 rfl rfl) h1;have q1 := Qig wk1;refine (?_ : Calls Tryz.prog 5 #[.agg #[.int .i8 x0, .int .i16 y0, .int .u8 m0], .int .i16 k1] W _);have hk := Qe6 x0 y0 m0 k1 W rx0.1 rx0.2 ry0.1 ry0.2 q1.1 q1.2;refine hk.mono fun e W' ⟨he, hb⟩ => ?_;subst he;exact ⟨_, rfl, fin hb⟩
theorem dcnd_holds : Rows.DescentCandidatesSaid :=
 OpenClaim.holds_of_wide 5 Tryz.f5 rfl rfl rfl rfl rfl rfl rfl ⟨rfl, rfl, rfl, rfl, rfl⟩ rfl rfl rfl rfl rfl (by kernel_rfl) Tryz.func5 (by kernel_rfl)
  (of_decide_eq_true (by kernel_rfl)) (by unfold Func.isWrapper; first | (rw [if_pos (by decide +kernel)]; kernel_rfl) | (rw [if_neg (by decide +kernel)]; exact ⟨rfl, rfl⟩))
  (fun os started H enc _ => Qdc os started H enc)
end Go.Proofs.YteidokhjmbihlaaGreat
