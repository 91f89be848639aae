/-
  The law FactorRefuses holds: for all numbers it returns true, and its arguments read afterwards as before.
-/
import Derived.Test.YtblebpmlkpobnaaGreatFX
import Derived.Test.YtblebpmlkpobnaaGreatFY
set_option linter.unusedSimpArgs false
set_option linter.unusedVariables false

namespace Go.Proofs.YtblebpmlkpobnaaGreat
open Go.ChangeShapes Go.WideShapes Go.ChangeAt Go.RowKit

theorem cells_int : Tryz.prog.cellsOf 3 = 1 := by kernel_rfl
theorem i64_wf {z : Int} (h : (Lit.int .i64 z).wf = true) : -9223372036854775808 ≤ z ∧ z ≤ 9223372036854775807 := by
  simpa [Lit.wf, IntKind.min, IntKind.max, IntKind.signed, IntKind.bits] using h

set_option maxRecDepth 100000 in
theorem frefuses_lifted (os : Os) (started : os.Started) (H : Type) (enc : TypeId × Value → H) :
    ReturnsInHanded {} Tryz.checked os 8 .any (Rows.factorRefusesSpec.pre6 enc Tryz.prog Tryz.f8 Rows.factorRefusesRow.domain false) (Rows.factorRefusesSpec.post enc Tryz.prog Tryz.f8 false true false false) := by
  refine returnsInHanded_of_change (C := Tryz.checked) Aown started (by kernel_rfl) Tryz.func8
    (ChangeSpec.witness6 (enc := enc) (C := Tryz.checked) false ⟨#[], #[.int .u16 0, .int .u16 0, .agg #[.int .i64 0, .int .i64 0]], []⟩ 8 (by kernel_rfl) (by kernel_rfl) (by kernel_rfl) (by kernel_rfl)) ?_
  intro W base args ds gs before hval0 hW hcnd _
  have hval : ∀ (j : Nat) t v, Tryz.f8.params[j]? = some t → args[j]? = some v → Value.okWide Tryz.prog W .any base t v := hval0
  have hW' := hW
  obtain ⟨p, q, hA0, hV, rfl, hfz, hnd⟩ := hW
  have hA : DataW.TrodAll enc Tryz.prog W 0 (fun _ => true) true Tryz.f8.params.toList args.toList ds p := hA0
  rw [Tryz.params8] at hA hval
  obtain ⟨v0, v1, v2, d0, d1, d2, p0, p1, p2, rfl, rfl, rfl, h0, h1, h2⟩ := trodAll_three hA
  obtain ⟨rfl, rfl⟩ := trodVars_none hV
  have fin : ∀ {W' : World}, Below W.heap.size W W' → Rows.factorRefusesSpec.post enc Tryz.prog Tryz.f8 false true false false W #[v0, v1, v2] (.bool true) W' := fun hb =>
    law_post (tb := 4) AlaidOut (fun t ht => by rw [Tryz.params8] at ht; simp at ht; rcases ht with rfl | rfl | rfl <;> exact ⟨by kernel_rfl, of_decide_eq_true (by kernel_rfl)⟩) rfl Tryz.underlying4 rfl ⟨rfl, rfl, rfl⟩ hW' hb
  obtain ⟨k1, rfl, rfl, rfl, wk1⟩ := open_int Tryz.underlying23 (hval 0 23 v0 rfl rfl) h0
  obtain ⟨k2, rfl, rfl, rfl, wk2⟩ := open_int Tryz.underlying23 (hval 1 23 v1 rfl rfl) h1
  have wk1' : 0 ≤ k1 ∧ k1 ≤ 65535 := by simpa [Lit.wf, IntKind.min, IntKind.max, IntKind.signed, IntKind.bits] using wk1
  have wk2' : 0 ≤ k2 ∧ k2 ≤ 65535 := by simpa [Lit.wf, IntKind.min, IntKind.max, IntKind.signed, IntKind.bits] using wk2
  obtain ⟨K1, rfl⟩ : ∃ K : Nat, k1 = K := ⟨k1.toNat, by omega⟩
  obtain ⟨K2, rfl⟩ : ∃ K : Nat, k2 = K := ⟨k2.toNat, by omega⟩
  obtain ⟨zs, hl, e1, hz⟩ := open_nums Tryz.underlying71 Tryz.underlying3 cells_int (by kernel_rfl) (hval 2 71 v2 rfl rfl) h2
  match zs, hl with
  | [c0, c1], _ =>
    refine (?_ : Calls Tryz.prog 8 #[.int .u16 (K1 : Int), .int .u16 (K2 : Int), v2] W _)
    have hk := frefuses_any K1 K2 c0 c1 W (by omega) (by omega) (i64_wf (hz _ (by simp))) (i64_wf (hz _ (by simp)))
    have e1' : v2 = .agg #[.int .i64 c0, .int .i64 c1] := e1
    rw [← e1'] at hk
    refine hk.mono fun e W' ⟨he, hb⟩ => ?_
    subst he
    exact ⟨_, rfl, fin hb⟩

theorem frefuses_holds : Rows.FactorRefusesSaid :=
  OpenClaim.holds_of_wide 8 Tryz.f8 rfl rfl rfl rfl rfl rfl rfl ⟨rfl, rfl, rfl, rfl, rfl⟩ rfl rfl rfl rfl rfl (by kernel_rfl) Tryz.func8 (by kernel_rfl)
    (of_decide_eq_true (by kernel_rfl)) (by unfold Func.isWrapper; first | (rw [if_pos (by decide +kernel)]; kernel_rfl) | (rw [if_neg (by decide +kernel)]; exact ⟨rfl, rfl⟩))
    (fun os started H enc _ => frefuses_lifted os started H enc)
end Go.Proofs.YtblebpmlkpobnaaGreat
