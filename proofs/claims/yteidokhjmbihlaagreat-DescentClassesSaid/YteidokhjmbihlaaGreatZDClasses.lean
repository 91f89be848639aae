/-
  The law DescentClasses holds: for all inputs it returns true, and its arguments read afterwards as before.
-/
import Derived.Test.YteidokhjmbihlaaGreatDX
import Derived.Test.YteidokhjmbihlaaGreatDYL
set_option linter.unusedSimpArgs false
set_option linter.unusedVariables false
set_option maxRecDepth 100000
namespace Go.Proofs.YteidokhjmbihlaaGreat
open Go.ChangeShapes Go.WideShapes Go.ChangeAt Go.RowKit
theorem Qc3 (os : Os) (started : os.Started) (H : Type) (enc : TypeId × Value -> H) :
  ReturnsInHanded {} Tryz.checked os 4 .any (Rows.descentClassesSpec.pre6 enc Tryz.prog Tryz.f4 Rows.descentClassesRow.domain false) (Rows.descentClassesSpec.post enc Tryz.prog Tryz.f4 false true false false) := by
 refine returnsInHanded_of_change (C := Tryz.checked) QkM started (by kernel_rfl) Tryz.func4
  (ChangeSpec.witness6 (enc := enc) (C := Tryz.checked) false ⟨#[], #[.int .i16 0, .int .i16 0, .int .i16 0], []⟩ 8 (by kernel_rfl) (by kernel_rfl) (by kernel_rfl) (by kernel_rfl)) ?_
 intro W base args ds gs before hval0 hW hcnd _;have hval : ∀ (j : Nat) t v, Tryz.f4.params[j]? = some t -> args[j]? = some v -> Value.okWide Tryz.prog W .any base t v := hval0;have hW' := hW;obtain ⟨p, q, hA0, hV, rfl, hfz, hnd⟩ := hW;have hA : DataW.TrodAll enc Tryz.prog W 0 (fun _ => true) true Tryz.f4.params.toList args.toList ds p := hA0;rw [Tryz.params4] at hA hval;obtain ⟨v0, v1, v2, d0, d1, d2, p0, p1, p2, rfl, rfl, rfl, h0, h1, h2⟩ := trodAll_three hA;obtain ⟨rfl, rfl⟩ := trodVars_none hV
 have fin : ∀ {W' : World}, Below W.heap.size W W' -> Rows.descentClassesSpec.post enc Tryz.prog Tryz.f4 false true false false W #[v0, v1, v2] (.bool true) W' := fun hb =>
  Qht (tb := 4) Qg8 (fun t ht => by rw [Tryz.params4] at ht; simp at ht; rcases ht with rfl | rfl | rfl <;> exact ⟨by kernel_rfl, of_decide_eq_true (by kernel_rfl)⟩) rfl Tryz.underlying4 rfl ⟨rfl, rfl, rfl⟩ hW' hb
 obtain ⟨k0, rfl, rfl, rfl, wk0⟩ := open_int Tryz.underlying23 (hval 0 23 v0 rfl rfl) h0;have q0 := Qe4 wk0;obtain ⟨k1, rfl, rfl, rfl, wk1⟩ := open_int Tryz.underlying23 (hval 1 23 v1 rfl rfl) h1;have q1 := Qe4 wk1;obtain ⟨k2, rfl, rfl, rfl, wk2⟩ := open_int Tryz.underlying23 (hval 2 23 v2 rfl rfl) h2;have q2 := Qe4 wk2;refine (?_ : Calls Tryz.prog 4 #[.int .i16 k0, .int .i16 k1, .int .i16 k2] W _);have hk := QeD k0 k1 k2 W q0.1 q0.2 q1.1 q1.2 q2.1 q2.2;refine hk.mono fun e W' ⟨he, hb⟩ => ?_;subst he;exact ⟨_, rfl, fin hb⟩
theorem dcls_holds : Rows.DescentClassesSaid :=
 OpenClaim.holds_of_wide 4 Tryz.f4 rfl rfl rfl rfl rfl rfl rfl ⟨rfl, rfl, rfl, rfl, rfl⟩ rfl rfl rfl rfl rfl (by kernel_rfl) Tryz.func4 (by kernel_rfl)
  (of_decide_eq_true (by kernel_rfl)) (by unfold Func.isWrapper; first | (rw [if_pos (by decide +kernel)]; kernel_rfl) | (rw [if_neg (by decide +kernel)]; exact ⟨rfl, rfl⟩))
  (fun os started H enc _ => Qc3 os started H enc)
end Go.Proofs.YteidokhjmbihlaaGreat
