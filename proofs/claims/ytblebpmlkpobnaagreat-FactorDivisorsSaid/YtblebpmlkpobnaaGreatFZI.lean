/-
  What the laws of Factor share.
-/
import Derived.Test.YtblebpmlkpobnaaGreatFW
import Derived.Test.YtblebpmlkpobnaaGreatFZC
import Derived.Test.YtblebpmlkpobnaaGreatFZG
set_option linter.unusedSimpArgs false
set_option linter.unusedVariables false
namespace Go.Proofs.YtblebpmlkpobnaaGreat
open Go.RowKit
theorem MadeTo.good {L : List Tri} {b : Nat} {f : Fn} (h : MadeTo (usedN L []) b f) : RightN f ∧ Md f.N ∧ ∀ p ∈ f.P, Pri p.1 :=
  ⟨(h.right (usedN_nd L)).1, made_md (usedN_len L) h, (h.right (usedN_nd L)).2⟩
theorem srt_some (l : List (Nat × Nat)) : ∃ m, Srt l m := by
  refine ⟨l.mergeSort (fun a b => decide (a.1 ≤ b.1)), List.mergeSort_perm _ _, ?_⟩
  have := List.pairwise_mergeSort (le := fun (a b : Nat × Nat) => decide (a.1 ≤ b.1)) (fun a b c h1 h2 => by simp at *; omega) (fun a b => by simp; omega) l
  exact this.imp (fun h => by simpa using h)
theorem made_some (u : List Tri) (b : Nat) : ∃ f, MadeTo u b f := by
  obtain ⟨P, hP⟩ := srt_some (kwnN u)
  obtain ⟨R, hR⟩ := srt_some (rstN u)
  exact ⟨⟨_, P, R, _⟩, rfl, hP, hR, rfl⟩
theorem MadeTo.nn {u : List Tri} {b : Nat} {f : Fn} (h : MadeTo u b f) : f.N = pk (kwnN u ++ rstN u) := h.1
def ktN (i0 : Nat) (V : List Tri) (c : Nat) : Kt where
  A := fun i v w => (i = i0 → ∃ f, Fx w v (zF f) ∧ MadeTo V c f) ∧ (i = i0 + 1 → It w v (pk (kwnN V ++ rstN V) : Nat))
  up := fun h hb => ⟨fun e => by obtain ⟨f, h1, h2⟩ := h.1 e; exact ⟨f, h1.up hb, h2⟩, fun e => (h.2 e).up hb⟩
  fr := fun h hb hB => ⟨fun e => by obtain ⟨f, h1, h2⟩ := h.1 e; exact ⟨f, h1.fr hb (fun g e => e ▸ hB.nw) hB (fun g e => e), h2⟩, fun e => (h.2 e).fr hb (fun g e => e ▸ hB.nw)⟩
theorem ktN.num {i0 : Nat} {V : List Tri} {c : Nat} {v : Value} {w : World} (h : (ktN i0 V c).A i0 v w) : ∃ y : FvT, v = .agg #[.bool y.s, .slice y.a y.n y.c, .slice y.a2 y.n2 y.c2, .slice y.a3 y.n3 y.c3, .int .i64 y.b] ∧ It w (.agg #[.bool y.s, .slice y.a y.n y.c]) (pk (kwnN V ++ rstN V) : Nat) := by
  obtain ⟨f, h1, h2⟩ := h.1 rfl
  obtain ⟨s, a, n, c, vP, vR, e, hN, hP, hR⟩ := h1
  obtain ⟨aP, cP, rfl, -⟩ := id hP
  obtain ⟨aR, cR, rfl, -⟩ := id hR
  refine ⟨⟨s, a, n, c, aP, (zF f).P.length, cP, aR, (zF f).R.length, cR, (zF f).B⟩, e, ?_⟩
  rw [← h2.1]
  exact hN
def SpT (f : Fn) (d : Nat) (g : Fz) (code : Int) : Prop := (∃ g' o, g = zF g' ∧ code = 0 ∧ CB (ks f.R ++ [d]) o ∧ fresh f o ∧ SplitTo f o g') ∨ (∃ o, g = f0 ∧ code = 6 ∧ CB (ks f.R ++ [d]) o ∧ ¬ fresh f o)
end Go.Proofs.YtblebpmlkpobnaaGreat
