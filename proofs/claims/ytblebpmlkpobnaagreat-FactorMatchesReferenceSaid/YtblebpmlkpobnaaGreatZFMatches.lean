/-
  The law FactorMatchesReference holds: for all inputs it returns true, and its arguments read afterwards as before.
-/
import Derived.Test.YtblebpmlkpobnaaGreatFZZH
import Derived.Test.YtblebpmlkpobnaaGreatFYV
set_option linter.unusedSimpArgs false
set_option linter.unusedVariables false
set_option maxRecDepth 100000
namespace Go.Proofs.YtblebpmlkpobnaaGreat
open Go.ChangeShapes Go.WideShapes Go.ChangeAt Go.RowKit
theorem fmatches_lifted (os : Os) (started : os.Started) (H : Type) (enc : TypeId × Value -> H) :
  ReturnsInHanded {} Tryz.checked os 11 .any (Rows.factorMatchesReferenceSpec.pre6 enc Tryz.prog Tryz.f11 Rows.factorMatchesReferenceRow.domain false) (Rows.factorMatchesReferenceSpec.post enc Tryz.prog Tryz.f11 false true false false) := by
 refine returnsInHanded_of_change (C := Tryz.checked) Aown started (by kernel_rfl) Tryz.func11
  (ChangeSpec.witness6 (enc := enc) (C := Tryz.checked) false ⟨#[], #[.agg #[.slice none 0 0, .int .u16 0], .agg #[.bool false, .slice none 0 0], .agg #[.int .i64 0, .int .i64 0]], []⟩ 8 (by kernel_rfl) (by kernel_rfl) (by kernel_rfl) (by kernel_rfl)) ?_
 intro W base args ds gs before hval0 hW hcnd _;have hval : ∀ (j : Nat) t v, Tryz.f11.params[j]? = some t -> args[j]? = some v -> Value.okWide Tryz.prog W .any base t v := hval0;have hW' := hW;obtain ⟨p, q, hA0, hV, rfl, hfz, hnd⟩ := hW;have hA : DataW.TrodAll enc Tryz.prog W 0 (fun _ => true) true Tryz.f11.params.toList args.toList ds p := hA0;rw [Tryz.params11] at hA hval;obtain ⟨v0, v1, v2, d0, d1, d2, p0, p1, p2, rfl, rfl, rfl, h0, h1, h2⟩ := trodAll_three hA;obtain ⟨rfl, rfl⟩ := trodVars_none hV
 have fin : ∀ {W' : World}, Below W.heap.size W W' -> Rows.factorMatchesReferenceSpec.post enc Tryz.prog Tryz.f11 false true false false W #[v0, v1, v2] (.bool true) W' := fun hb =>
  law_post (tb := 4) AlaidOut (fun t ht => by rw [Tryz.params11] at ht; simp at ht; rcases ht with rfl | rfl | rfl <;> exact ⟨by kernel_rfl, of_decide_eq_true (by kernel_rfl)⟩) rfl Tryz.underlying4 rfl ⟨rfl, rfl, rfl⟩ hW' hb
 obtain ⟨L0, b0, D0⟩ := open_dx (hval 0 25 v0 rfl rfl) h0;have N1 := open_raw1 (hval 1 28 v1 rfl rfl) h1;obtain ⟨zs2, hl2, e2, hz2⟩ := open_nums Tryz.underlying71 Tryz.underlying3 cells_ti64 (by kernel_rfl) (hval 2 71 v2 rfl rfl) h2;obtain ⟨m0, m1, rfl⟩ := list2 hl2;have e2' : v2 = .agg #[.int .i64 m0, .int .i64 m1] := e2;subst e2';refine (?_ : Calls Tryz.prog 11 #[v0, v1, .agg #[.int .i64 m0, .int .i64 m1]] W _);have hk := fmatches_any v0 L0 b0 v1 m0 m1 W D0 N1 (tI64_wf (hz2 m0 (by simp)));refine hk.mono fun e W' ⟨he, hb⟩ => ?_;subst he;exact ⟨_, rfl, fin hb⟩
theorem fmatches_holds : Rows.FactorMatchesReferenceSaid :=
 OpenClaim.holds_of_wide 11 Tryz.f11 rfl rfl rfl rfl rfl rfl rfl ⟨rfl, rfl, rfl, rfl, rfl⟩ rfl rfl rfl rfl rfl (by kernel_rfl) Tryz.func11 (by kernel_rfl)
  (of_decide_eq_true (by kernel_rfl)) (by unfold Func.isWrapper; first | (rw [if_pos (by decide +kernel)]; kernel_rfl) | (rw [if_neg (by decide +kernel)]; exact ⟨rfl, rfl⟩))
  (fun os started H enc _ => fmatches_lifted os started H enc)
end Go.Proofs.YtblebpmlkpobnaaGreat
