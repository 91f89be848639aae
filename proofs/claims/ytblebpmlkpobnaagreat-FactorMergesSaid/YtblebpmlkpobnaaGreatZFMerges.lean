/-
  The law FactorMerges holds: for all inputs it returns true, and its arguments read afterwards as before.
-/
import Derived.HandedShaped
import Derived.SizedLaws
import Derived.Test.YtblebpmlkpobnaaGreatFZZ
import Derived.Test.YtblebpmlkpobnaaGreatFYU
import Derived.Test.YtblebpmlkpobnaaGreatFYT
set_option linter.unusedSimpArgs false
set_option linter.unusedVariables false
namespace Go.Proofs.YtblebpmlkpobnaaGreat
open Go.ChangeShapes Go.WideShapes Go.ChangeAt Go.RowKit
set_option maxRecDepth 100000 in
theorem fmerges_lifted (os : Os) (started : os.Started) (H : Type) (enc : TypeId × Value → H) :
  ReturnsInHanded {} Tryz.checked os 5 .any (Rows.factorMergesSpec.pre6 enc Tryz.prog Tryz.f5 Rows.factorMergesRow.domain false) (Rows.factorMergesSpec.post enc Tryz.prog Tryz.f5 false true false false) := by
 refine returnsInHanded_of_change_shaped (C := Tryz.checked) Aown started (by kernel_rfl) Tryz.func5
  (ChangeSpec.witness6 (enc := enc) (C := Tryz.checked) false ⟨#[], #[.agg #[.slice none 0 0, .int .u16 0], .agg #[.int .u8 0, .int .u8 0]], []⟩ 8 (by kernel_rfl) (by kernel_rfl) (by kernel_rfl) (by kernel_rfl)) ?_
 intro W base args ds gs before hval0 hW hcnd hsz _ _
 have hval : ∀ (j : Nat) t v, Tryz.f5.params[j]? = some t → args[j]? = some v → Value.okWide Tryz.prog W .any base t v := hval0
 have hW' := hW
 obtain ⟨p, q, hA0, hV, rfl, hfz, hnd⟩ := hW
 have hA : DataW.TrodAll enc Tryz.prog W 0 (fun _ => true) true Tryz.f5.params.toList args.toList ds p := hA0
 rw [Tryz.params5] at hA hval
 obtain ⟨v0, v1, d0, d1, p0, p1, rfl, rfl, rfl, h0, h1⟩ := trodAll_two hA
 obtain ⟨rfl, rfl⟩ := trodVars_none hV
 have fin : ∀ {W' : World}, Below W.heap.size W W' → Rows.factorMergesSpec.post enc Tryz.prog Tryz.f5 false true false false W #[v0, v1] (.bool true) W' := fun hb =>
  law_post (tb := 4) AlaidOut (fun t ht => by rw [Tryz.params5] at ht; simp at ht; rcases ht with rfl | rfl <;> exact ⟨by kernel_rfl, of_decide_eq_true (by kernel_rfl)⟩) rfl Tryz.underlying4 rfl ⟨rfl, rfl, rfl⟩ hW' hb
 obtain ⟨L0, b0, D0, s0⟩ := open_dxs (hval 0 25 v0 rfl rfl) h0
 have S0 := s0 (fun n hn => of_decide_eq_true (List.all_eq_true.1 hsz n (DataW.weights_mem_each (j := 0) (t := 25) (d := d0) (by rw [Tryz.params5]; rfl) rfl n hn)))
 obtain ⟨m1, rfl, a1⟩ := open_two8 (hval 1 55 v1 rfl rfl) h1
 refine (?_ : Calls Tryz.prog 5 #[v0, .agg #[.int .u8 (m1.1 : Int), .int .u8 (m1.2 : Int)]] W _)
 have hk := fmerges_any v0 L0 b0 m1.1 m1.2 W D0 a1.1 a1.2 S0
 refine hk.mono fun e W' ⟨he, hb⟩ => ?_
 subst he
 exact ⟨_, rfl, fin hb⟩
theorem fmerges_holds : Rows.FactorMergesSaid :=
 OpenClaim.holds_of_wide 5 Tryz.f5 rfl rfl rfl rfl rfl rfl rfl ⟨rfl, rfl, rfl, rfl, rfl⟩ rfl rfl rfl rfl rfl (by kernel_rfl) Tryz.func5 (by kernel_rfl)
  (of_decide_eq_true (by kernel_rfl)) (by unfold Func.isWrapper; first | (rw [if_pos (by decide +kernel)]; kernel_rfl) | (rw [if_neg (by decide +kernel)]; exact ⟨rfl, rfl⟩))
  (fun os started H enc _ => fmerges_lifted os started H enc)
end Go.Proofs.YtblebpmlkpobnaaGreat
