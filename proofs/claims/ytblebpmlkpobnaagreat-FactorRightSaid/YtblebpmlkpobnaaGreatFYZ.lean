/-
  What comes into FactorRight: a change.
-/
import Derived.Test.YtblebpmlkpobnaaGreatFYT
import Derived.Test.YtblebpmlkpobnaaGreatFY
import Derived.Test.YtblebpmlkpobnaaGreatFZP
set_option linter.unusedSimpArgs false
set_option linter.unusedVariables false
namespace Go.Proofs.YtblebpmlkpobnaaGreat
open Go.ChangeShapes Go.WideShapes Go.ChangeAt Go.RowKit Go.Deep
theorem tU32_wf {z : Int} (h : (Lit.int .u32 z).wf = true) : 0 ≤ z ∧ z ≤ 4294967295 := by
  simpa [Lit.wf, IntKind.min, IntKind.max, IntKind.signed, IntKind.bits] using h
theorem cells_tu32 : Tryz.prog.cellsOf 117 = 1 := by kernel_rfl
theorem cells_ti64 : Tryz.prog.cellsOf 3 = 1 := by kernel_rfl
theorem cells_tbool : Tryz.prog.cellsOf 4 = 1 := by kernel_rfl
theorem cells_traw : Tryz.prog.cellsOf 28 = 2 := by kernel_rfl
theorem cells_tw : Tryz.prog.cellsOf 26 = 1 := by kernel_rfl
theorem array5 {α : Type} {cs : Array α} (h : cs.size = 5) : ∃ c0 c1 c2 c3 c4, cs = #[c0, c1, c2, c3, c4] := by
  obtain ⟨l⟩ := cs
  match l, h with
  | [c0, c1, c2, c3, c4], _ => exact ⟨c0, c1, c2, c3, c4, rfl⟩
variable {H : Type} {enc : TypeId × Value → H} {w : World}
set_option maxRecDepth 100000 in
theorem open_words {fuel : Nat} {x : DataW H × List MemPlace} {c2 c3 : Value} (h : DataW.trod enc Tryz.prog w 0 (fun _ => true) true fuel 28 [c2, c3] = some x) :
    ∃ s a n c, c2 = .bool s ∧ c3 = .slice a n c ∧ Nx w (.agg #[.bool s, .slice a n c]) := by
  obtain ⟨y0, y1, n, -, -, h0, h1⟩ := trod_struct2 Tryz.underlying28 h
  replace h0 : DataW.trod enc Tryz.prog w 0 (fun _ => true) true n 4 (List.take (Tryz.prog.cellsOf 4) [c2, c3]) = some y0 := h0
  replace h1 : DataW.trod enc Tryz.prog w 0 (fun _ => true) true n 26 (List.take (Tryz.prog.cellsOf 26) [c3]) = some y1 := h1
  rw [cells_tbool] at h0
  rw [cells_tw] at h1
  obtain ⟨s, e0, -⟩ := DataW.trod_bool Tryz.underlying4 h0
  injection e0 with e0
  rcases open_ints Tryz.underlying26 Tryz.underlying117 cells_tu32 h1 with ⟨hcs, -⟩ | ⟨a, len, cap, zs, hcs, -, hl, hm, hz, -, hcell, hwz⟩
  · injection hcs with hcs
    exact ⟨s, none, 0, 0, e0, hcs, s, none, 0, 0, fun _ => 0, rfl, .inl rfl, fun i hi => absurd hi (Nat.not_lt_zero _), Nat.le_refl _, by decide⟩
  · injection hcs with hcs
    have hzl : len ≤ zs.length := by rw [hz]; split <;> omega
    have hwf : ∀ i, i < zs.length → 0 ≤ zs.getD i 0 ∧ zs.getD i 0 ≤ 4294967295 := fun i hi => by
      have := hwz (zs.getD i 0) (by rw [List.getD_eq_getElem?_getD, List.getElem?_eq_getElem hi]; exact List.getElem_mem hi)
      exact tU32_wf this
    refine ⟨s, some a, len, cap, e0, hcs, s, some a, len, cap, fun i => (zs.getD i 0).toNat, rfl, ?_, fun i hi => ?_, hl, by unfold maxLen at hm; omega⟩
    · refine (cl_ints hzl hcell).congr fun i hi => ?_
      have := hwf i (by omega)
      show Value.int .u32 (zs.getD i 0) = Value.int .u32 (((zs.getD i 0).toNat : Nat) : Int)
      rw [Int.toNat_of_nonneg this.1]
    · have := hwf i (by omega)
      show (zs.getD i 0).toNat < 4294967296
      omega
set_option maxRecDepth 100000 in
theorem open_chg {v : Value} {d : DataW H} {p : List MemPlace} {r : Reach} {b0 : Nat} (hv : Value.okWide Tryz.prog w r b0 30 v) (h : DataW.Trod enc Tryz.prog w 0 (fun _ => true) true 30 v d p) : Zx w v := by
  obtain ⟨cs, rfl, hsz⟩ := okWide_struct Tryz.underlying30 hv
  obtain ⟨c0, c1, c2, c3, c4, rfl⟩ := array5 (hsz.trans (by kernel_rfl))
  obtain ⟨fuel, hf⟩ := h
  obtain ⟨y0, y1, y2, y3, n, -, -, h0, h1, h2, h3⟩ := Joins.trod_struct4 Tryz.underlying30 hf
  replace h0 : DataW.trod enc Tryz.prog w 0 (fun _ => true) true n 5 (List.take (Tryz.prog.cellsOf 5) [c0, c1, c2, c3, c4]) = some y0 := h0
  replace h1 : DataW.trod enc Tryz.prog w 0 (fun _ => true) true n 5 (List.take (Tryz.prog.cellsOf 5) [c1, c2, c3, c4]) = some y1 := h1
  replace h2 : DataW.trod enc Tryz.prog w 0 (fun _ => true) true n 28 (List.take (Tryz.prog.cellsOf 28) [c2, c3, c4]) = some y2 := h2
  replace h3 : DataW.trod enc Tryz.prog w 0 (fun _ => true) true n 3 (List.take (Tryz.prog.cellsOf 3) [c4]) = some y3 := h3
  rw [cells_tu8] at h0 h1
  rw [cells_traw] at h2
  rw [cells_ti64] at h3
  obtain ⟨z0, e0, -, w0⟩ := DataW.trod_int Tryz.underlying5 h0
  obtain ⟨z1, e1, -, w1⟩ := DataW.trod_int Tryz.underlying5 h1
  obtain ⟨z3, e3, -, -⟩ := DataW.trod_int Tryz.underlying3 h3
  injection e0 with e0
  injection e1 with e1
  injection e3 with e3
  subst e0 e1 e3
  obtain ⟨s, a, m, c, rfl, rfl, hN⟩ := open_words h2
  have q0 := tU8_wf w0
  have q1 := tU8_wf w1
  obtain ⟨X0, rfl⟩ : ∃ X : Nat, z0 = X := ⟨z0.toNat, by omega⟩
  obtain ⟨X1, rfl⟩ : ∃ X : Nat, z1 = X := ⟨z1.toNat, by omega⟩
  exact ⟨X0, X1, s, a, m, c, z3, rfl, by omega, by omega, hN⟩
end Go.Proofs.YtblebpmlkpobnaaGreat
