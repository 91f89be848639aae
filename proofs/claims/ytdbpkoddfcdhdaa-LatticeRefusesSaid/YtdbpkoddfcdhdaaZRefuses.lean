/-
  The law LatticeRefuses holds: for every list of lengths and every length of a vector it returns true, and its arguments read afterwards as before.
-/
import Derived.Test.YtdbpkoddfcdhdaaPR
import Derived.Test.YtdbpkoddfcdhdaaPQ
set_option linter.unusedSimpArgs false
set_option linter.unusedVariables false

namespace Go.Proofs.Ytdbpkoddfcdhdaa
open Go.ChangeShapes Go.WideShapes Go.ChangeAt Go.RowKit

theorem refuses_cells1 : Try.prog.cellsOf 5 = 1 := by kernel_rfl

set_option maxRecDepth 100000 in
theorem refuses_lifted (os : Os) (started : os.Started) (H : Type) (enc : TypeId × Value → H) :
    ReturnsInHanded {} Try.checked os 6 .any (Rows.latticeRefusesSpec.pre6 enc Try.prog Try.f6 Rows.latticeRefusesRow.domain false) (Rows.latticeRefusesSpec.post enc Try.prog Try.f6 false true false false) := by
  refine returnsInHanded_of_change (C := Try.checked) Aown started (by kernel_rfl) Try.func6
    (ChangeSpec.witness6 (enc := enc) (C := Try.checked) false ⟨#[], #[.slice none 0 0, .int .u8 0], []⟩ 8 (by kernel_rfl) (by kernel_rfl) (by kernel_rfl) (by kernel_rfl)) ?_
  intro W base args ds gs before hval0 hW hcnd hreach
  have hval : ∀ (j : Nat) t v, Try.f6.params[j]? = some t → args[j]? = some v → Value.okWide Try.prog W .any base t v := hval0
  have hW' := hW
  obtain ⟨p, q, hA0, hV, rfl, hfz, hnd⟩ := hW
  have hA : DataW.TrodAll enc Try.prog W 0 (fun _ => true) true Try.f6.params.toList args.toList ds p := hA0
  rw [Try.params6] at hA hval
  obtain ⟨v0, v1, d0, d1, p0, p1, rfl, rfl, rfl, h0, h1⟩ := trodAll_two hA
  obtain ⟨rfl, rfl⟩ := trodVars_none hV
  obtain ⟨k, rfl, rfl, rfl, wk⟩ := open_int Try.underlying5 (hval 1 5 v1 rfl rfl) h1
  have wk' : 0 ≤ k ∧ k ≤ 255 := by simpa [Lit.wf, IntKind.min, IntKind.max, IntKind.signed, IntKind.bits] using wk
  obtain ⟨K, rfl⟩ : ∃ K : Nat, k = K := ⟨k.toNat, by omega⟩
  obtain ⟨a0, len, cap, rfl⟩ := okWide_slice Try.underlying62 (hval 0 62 v0 rfl rfl)
  have fin : ∀ {W' : World}, Below W.heap.size W W' → Rows.latticeRefusesSpec.post enc Try.prog Try.f6 false true false false W #[.slice a0 len cap, .int .u8 (K : Int)] (.bool true) W' := fun hb =>
    law_post (tb := 4) AlaidOut (fun t ht => by rw [Try.params6] at ht; simp at ht; rcases ht with rfl | rfl <;> exact ⟨by kernel_rfl, of_decide_eq_true (by kernel_rfl)⟩) rfl Try.underlying4 rfl ⟨rfl, rfl, rfl⟩ hW' hb
  obtain ⟨fuel, hf⟩ := h0
  have key : ∃ f : Nat → Nat, Cl W a0 len (fun i => .int .u8 (f i : Int)) ∧ (∀ i, i < len → f i ≤ 255) ∧ len ≤ 9223372036854775807 := by
    rcases open_ints Try.underlying62 Try.underlying5 refuses_cells1 hf with ⟨hcs, hx⟩ | ⟨a, len', cap', zs, hcs, _, hl, hm, hz, hx, hcell, hwz⟩
    · simp [Value.cells] at hcs
      obtain ⟨rfl, rfl, rfl⟩ := hcs
      exact ⟨fun _ => 0, .inl rfl, fun i hi => absurd hi (Nat.not_lt_zero i), by decide⟩
    · simp [Value.cells] at hcs
      obtain ⟨rfl, rfl, rfl⟩ := hcs
      have hzl : len ≤ zs.length := by rw [hz]; split <;> omega
      have hwf : ∀ i, i < zs.length → 0 ≤ zs.getD i 0 ∧ zs.getD i 0 ≤ 255 := fun i hi => by
        have := hwz (zs.getD i 0) (by rw [List.getD_eq_getElem?_getD, List.getElem?_eq_getElem hi]; exact List.getElem_mem hi)
        simpa [Lit.wf, IntKind.min, IntKind.max, IntKind.signed, IntKind.bits] using this
      refine ⟨fun i => (zs.getD i 0).toNat, (cl_ints hzl hcell).congr fun i hi => ?_, fun i hi => ?_, by unfold maxLen at hm; omega⟩
      · have := hwf i (by omega)
        rw [show (((zs.getD i 0).toNat : Nat) : Int) = zs.getD i 0 by omega]
      · have := hwf i (by omega)
        show (zs.getD i 0).toNat ≤ 255
        omega
  obtain ⟨f, k1, k2, k3⟩ := key
  refine (refuses_any a0 len cap f K W k1 k2 (by omega) k3).mono fun e W' ⟨he, hb⟩ => ?_
  subst he
  exact ⟨_, rfl, fin hb⟩

theorem refuses_holds : Rows.LatticeRefusesSaid :=
  OpenClaim.holds_of_wide 6 Try.f6 rfl rfl rfl rfl rfl rfl rfl ⟨rfl, rfl, rfl, rfl, rfl⟩ rfl rfl rfl rfl rfl (by kernel_rfl) Try.func6 (by kernel_rfl)
    (of_decide_eq_true (by kernel_rfl)) (by unfold Func.isWrapper; first | (rw [if_pos (by decide +kernel)]; kernel_rfl) | (rw [if_neg (by decide +kernel)]; exact ⟨rfl, rfl⟩))
    (fun os started H enc _ => refuses_lifted os started H enc)
end Go.Proofs.Ytdbpkoddfcdhdaa
