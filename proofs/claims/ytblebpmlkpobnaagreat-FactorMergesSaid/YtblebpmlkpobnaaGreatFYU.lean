/-
  What comes into a law of Factor : a description's size.
-/
import Derived.Lib.SmallJoins
import Derived.SizedLaws
import Derived.Test.YtblebpmlkpobnaaGreatFYT
import Derived.Test.YtblebpmlkpobnaaGreatFY
set_option linter.unusedSimpArgs false
set_option linter.unusedVariables false
namespace Go.Proofs.YtblebpmlkpobnaaGreat
open Go.ChangeShapes Go.WideShapes Go.ChangeAt Go.RowKit Go.Deep
variable {H : Type} {enc : TypeId × Value → H} {w : World}
theorem bytes3 : Tryz.prog.bytesOf 93 = 3 := by kernel_rfl
theorem wt_slice {d : DataW H} (h : ∀ n ∈ d.weights Tryz.prog 22, n ≤ reachBytes) : Joins.sliceLen d * 3 ≤ 140737488351232 := by
 cases d with
 | slice el r =>
   have h1 := h ((el.length + r.length) * Tryz.prog.bytesOf 93) (by
    unfold DataW.weights
    rw [Tryz.underlying22]
    exact List.mem_cons_self ..)
   rw [bytes3] at h1
   unfold reachBytes at h1
   simp only [Joins.sliceLen]
   omega
 | _ => simp [Joins.sliceLen]
set_option maxRecDepth 100000 in
theorem open_dxs {v : Value} {d : DataW H} {p : List MemPlace} {r : Reach} {b0 : Nat} (hv : Value.okWide Tryz.prog w r b0 25 v) (h : DataW.Trod enc Tryz.prog w 0 (fun _ => true) true 25 v d p) :
  ∃ l b, Dx w v l b ∧ ((∀ n ∈ d.weights Tryz.prog 25, n ≤ reachBytes) → l.length * 3 ≤ 140737488351232) := by
 obtain ⟨v0, v1, y0, y1, n, rfl, rfl, -, h0, h1⟩ := Joins.open_agg2 Tryz.underlying25 (by kernel_rfl) (by kernel_rfl) hv h
 obtain ⟨a, cap, l, e, hs, hl⟩ := open_tris h0
 injection e with e
 obtain ⟨z, e1, -, wz⟩ := DataW.trod_int Tryz.underlying23 h1
 injection e1 with e1
 subst e e1
 have q := tU16_wf wz
 obtain ⟨X, rfl⟩ : ∃ X : Nat, z = X := ⟨z.toNat, by omega⟩
 have hlen : Joins.sliceLen y0.1 = l.length := Joins.sliceLen_trod (ps := y0.2) Tryz.underlying22 h0
 refine ⟨l, X, ⟨a, cap, rfl, by omega, hs, hl⟩, fun hw => ?_⟩
 rw [← hlen]
 refine wt_slice (fun n hn => hw n ?_)
 unfold DataW.weights
 rw [Tryz.underlying25]
 exact List.mem_append_left _ hn
set_option maxRecDepth 100000 in
theorem open_two8 {v : Value} {d : DataW H} {p : List MemPlace} {r : Reach} {b0 : Nat} (hv : Value.okWide Tryz.prog w r b0 55 v) (h : DataW.Trod enc Tryz.prog w 0 (fun _ => true) true 55 v d p) :
  ∃ m : Nat × Nat, v = .agg #[.int .u8 (m.1 : Int), .int .u8 (m.2 : Int)] ∧ m.1 < 256 ∧ m.2 < 256 := by
 obtain ⟨zs, hz, rfl, hw⟩ := open_nums Tryz.underlying55 Tryz.underlying5 (by kernel_rfl) (by kernel_rfl) hv h
 match zs, hz with
 | [z0, z1], _ =>
   have q0 := tU8_wf (hw z0 (by simp))
   have q1 := tU8_wf (hw z1 (by simp))
   refine ⟨(z0.toNat, z1.toNat), ?_, by show z0.toNat < 256; omega, by show z1.toNat < 256; omega⟩
   show Value.agg #[.int .u8 z0, .int .u8 z1] = Value.agg #[.int .u8 ((z0.toNat : Nat) : Int), .int .u8 ((z1.toNat : Nat) : Int)]
   rw [Int.toNat_of_nonneg q0.1, Int.toNat_of_nonneg q1.1]
end Go.Proofs.YtblebpmlkpobnaaGreat
