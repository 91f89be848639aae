/-
  The law FactorSearch holds: for all inputs it returns true, and its arguments read afterwards as before.
-/
import Derived.Test.YtblebpmlkpobnaaGreatFSD
import Derived.Test.YtblebpmlkpobnaaGreatFYT
set_option linter.unusedSimpArgs false
set_option linter.unusedVariables false
set_option maxRecDepth 100000
namespace Go.Proofs.YtblebpmlkpobnaaGreat
open Go.ChangeShapes Go.WideShapes Go.ChangeAt Go.RowKit
theorem fsearch_lifted (os : Os) (started : os.Started) (H : Type) (enc : TypeId × Value -> H) :
  ReturnsInHanded {} Tryz.checked os 12 .any (Rows.factorSearchSpec.pre6 enc Tryz.prog Tryz.f12 Rows.factorSearchRow.domain false) (Rows.factorSearchSpec.post enc Tryz.prog Tryz.f12 false true false false) := by
 refine returnsInHanded_of_change (C := Tryz.checked) Aown started (by kernel_rfl) Tryz.func12
  (ChangeSpec.witness6 (enc := enc) (C := Tryz.checked) false ⟨#[], #[.agg #[.slice none 0 0, .int .u16 0], .int .u16 0], []⟩ 8 (by kernel_rfl) (by kernel_rfl) (by kernel_rfl) (by kernel_rfl)) ?_
 intro W base args ds gs before hval0 hW hcnd _;have hval : ∀ (j : Nat) t v, Tryz.f12.params[j]? = some t -> args[j]? = some v -> Value.okWide Tryz.prog W .any base t v := hval0;have hW' := hW;obtain ⟨p, q, hA0, hV, rfl, hfz, hnd⟩ := hW;have hA : DataW.TrodAll enc Tryz.prog W 0 (fun _ => true) true Tryz.f12.params.toList args.toList ds p := hA0;rw [Tryz.params12] at hA hval;obtain ⟨v0, v1, d0, d1, p0, p1, rfl, rfl, rfl, h0, h1⟩ := trodAll_two hA;obtain ⟨rfl, rfl⟩ := trodVars_none hV
 have fin : ∀ {W' : World}, Below W.heap.size W W' -> Rows.factorSearchSpec.post enc Tryz.prog Tryz.f12 false true false false W #[v0, v1] (.bool true) W' := fun hb =>
  law_post (tb := 4) AlaidOut (fun t ht => by rw [Tryz.params12] at ht; simp at ht; rcases ht with rfl | rfl <;> exact ⟨by kernel_rfl, of_decide_eq_true (by kernel_rfl)⟩) rfl Tryz.underlying4 rfl ⟨rfl, rfl, rfl⟩ hW' hb
 obtain ⟨L0, b0, D0⟩ := open_dx (hval 0 25 v0 rfl rfl) h0;obtain ⟨k1, rfl, rfl, rfl, wk1⟩ := open_int Tryz.underlying23 (hval 1 23 v1 rfl rfl) h1;have q1 := tU16_wf wk1;obtain ⟨K1, rfl⟩ : ∃ K : Nat, k1 = K := ⟨k1.toNat, by omega⟩;refine (?_ : Calls Tryz.prog 12 #[v0, .int .u16 (K1 : Int)] W _);have hk := fsearch_any v0 L0 b0 K1 W D0 (by omega);refine hk.mono fun e W' ⟨he, hb⟩ => ?_;subst he;exact ⟨_, rfl, fin hb⟩
theorem fsearch_holds : Rows.FactorSearchSaid :=
 OpenClaim.holds_of_wide 12 Tryz.f12 rfl rfl rfl rfl rfl rfl rfl ⟨rfl, rfl, rfl, rfl, rfl⟩ rfl rfl rfl rfl rfl (by kernel_rfl) Tryz.func12 (by kernel_rfl)
  (of_decide_eq_true (by kernel_rfl)) (by unfold Func.isWrapper; first | (rw [if_pos (by decide +kernel)]; kernel_rfl) | (rw [if_neg (by decide +kernel)]; exact ⟨rfl, rfl⟩))
  (fun os started H enc _ => fsearch_lifted os started H enc)
end Go.Proofs.YtblebpmlkpobnaaGreat
