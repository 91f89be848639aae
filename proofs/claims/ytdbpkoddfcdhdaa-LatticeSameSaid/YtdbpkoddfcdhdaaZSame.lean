/-
  The law LatticeSame holds: for every description of a matrix and all numbers it returns true, and its arguments read afterwards as before.
-/
import Derived.Test.YtdbpkoddfcdhdaaPZ
import Derived.Test.YtdbpkoddfcdhdaaPW
set_option linter.unusedSimpArgs false
set_option linter.unusedVariables false

namespace Go.Proofs.Ytdbpkoddfcdhdaa
open Go.ChangeShapes Go.WideShapes Go.ChangeAt Go.RowKit

set_option maxRecDepth 100000 in
theorem same_lifted (os : Os) (started : os.Started) (H : Type) (enc : TypeId × Value → H) :
    ReturnsInHanded {} Try.checked os 3 .any (Rows.latticeSameSpec.pre6 enc Try.prog Try.f3 Rows.latticeSameRow.domain false) (Rows.latticeSameSpec.post enc Try.prog Try.f3 false true false false) := by
  refine returnsInHanded_of_change (C := Try.checked) Aown started (by kernel_rfl) Try.func3
    (ChangeSpec.witness6 (enc := enc) (C := Try.checked) false ⟨#[], #[.agg #[.int .u8 0, .int .u8 0, .slice none 0 0], .agg #[.int .u8 0, .int .u8 0], .int .i16 0], []⟩ 8 (by kernel_rfl) (by kernel_rfl) (by kernel_rfl) (by kernel_rfl)) ?_
  intro W base args ds gs before hval0 hW hcnd _
  have hval : ∀ (j : Nat) t v, Try.f3.params[j]? = some t → args[j]? = some v → Value.okWide Try.prog W .any base t v := hval0
  have hW' := hW
  obtain ⟨p, q, hA0, hV, rfl, hfz, hnd⟩ := hW
  have hA : DataW.TrodAll enc Try.prog W 0 (fun _ => true) true Try.f3.params.toList args.toList ds p := hA0
  rw [Try.params3] at hA hval
  obtain ⟨v0, v1, v2, d0, d1, d2, p0, p1, p2, rfl, rfl, rfl, h0, h1, h2⟩ := trodAll_three hA
  obtain ⟨rfl, rfl⟩ := trodVars_none hV
  have fin : ∀ {W' : World}, Below W.heap.size W W' → Rows.latticeSameSpec.post enc Try.prog Try.f3 false true false false W #[v0, v1, v2] (.bool true) W' := fun hb =>
    law_post (tb := 4) AlaidOut (fun t ht => by rw [Try.params3] at ht; simp at ht; rcases ht with rfl | rfl | rfl <;> exact ⟨by kernel_rfl, of_decide_eq_true (by kernel_rfl)⟩) rfl Try.underlying4 rfl ⟨rfl, rfl, rfl⟩ hW' hb
  obtain ⟨x, y, a, cap, V, e0, hx, hy, k1, k2, k3⟩ := open_raw (hval 0 24 v0 rfl rfl) h0
  obtain ⟨zs, hl, e1, hz⟩ := open_nums Try.underlying25 Try.underlying5 cells_u8 (by kernel_rfl) (hval 1 25 v1 rfl rfl) h1
  obtain ⟨kk, e2, -, -, hk2⟩ := open_int Try.underlying26 (hval 2 26 v2 rfl rfl) h2
  match zs, hl with
  | [c0, c1], _ =>
    refine (?_ : Calls Try.prog 3 #[v0, v1, v2] W _)
    have g0 := u8_wf (hz c0 (by simp))
    have g1 := u8_wf (hz c1 (by simp))
    have hk := sameL_any x y a cap V c0.toNat c1.toNat kk W k1 k2 k3 hx hy (by omega) (by omega) (i16_wf hk2)
    rw [← e0, Int.toNat_of_nonneg g0.1, Int.toNat_of_nonneg g1.1, ← e2] at hk
    have e1' : v1 = .agg #[.int .u8 c0, .int .u8 c1] := e1
    rw [← e1'] at hk
    refine hk.mono fun e W' ⟨he, hb⟩ => ?_
    subst he
    exact ⟨_, rfl, fin hb⟩

theorem same_holds : Rows.LatticeSameSaid :=
  OpenClaim.holds_of_wide 3 Try.f3 rfl rfl rfl rfl rfl rfl rfl ⟨rfl, rfl, rfl, rfl, rfl⟩ rfl rfl rfl rfl rfl (by kernel_rfl) Try.func3 (by kernel_rfl)
    (of_decide_eq_true (by kernel_rfl)) (by unfold Func.isWrapper; first | (rw [if_pos (by decide +kernel)]; kernel_rfl) | (rw [if_neg (by decide +kernel)]; exact ⟨rfl, rfl⟩))
    (fun os started H enc _ => same_lifted os started H enc)
end Go.Proofs.Ytdbpkoddfcdhdaa
