/-
  algoristlaw05.changed.
-/
import Derived.Test.YtblebpmlkpobnaaGreatFZA
import Derived.Test.YtblebpmlkpobnaaGreatFZO
import Derived.Test.YtblebpmlkpobnaaGreatFZL
import Derived.Test.YtblebpmlkpobnaaGreatFP1
set_option linter.unusedSimpArgs false
set_option linter.unusedVariables false
set_option maxHeartbeats 8000000
namespace Go.Proofs.YtblebpmlkpobnaaGreat
open Go.RowKit
attribute [local go_sem ↓] Go.wp_at_zero Go.wp_at_succ
structure SzC (g : Fz) : Prop where
 N : sz g.N <= 1099511627776
 P : ∀ x ∈ g.P, sz x.1 <= 1099511627776
 R : ∀ x ∈ g.R, sz x.1 <= 1099511627776
 lP : g.P.length <= 65537
 lR : g.R.length <= 65537
structure Ap2 (l m : List (Int × Int)) (W0 : World) (b : Nat -> Bool) (x : Nat -> Value) (W : World) : Prop where
 bl : Below W0.heap.size W0 W
 s0 : b 0 = true -> b 3 = false -> So eP W W0.heap.size (x 0) [] /\ (b 4 = true -> ∀ g, (x 0).ownBlock = some g -> (x 4).ownBlock ≠ some g)
 s3 : b 3 = true -> So eP W W0.heap.size (x 3) l /\ (b 4 = true -> b 7 = false -> ∀ g, (x 3).ownBlock = some g -> (x 4).ownBlock ≠ some g)
 s4 : b 4 = true -> b 7 = false -> So eP W W0.heap.size (x 4) []
 s7 : b 7 = true -> So eP W W0.heap.size (x 7) m /\ ∀ g, (x 3).ownBlock = some g -> (x 7).ownBlock ≠ some g
 o7 : b 7 = true -> b 3 = true
 o3 : b 3 = true -> b 0 = true
 o4 : b 7 = true -> b 4 = true
section
variable {l m : List (Int × Int)} {W0 W W' : World} {b : Nat -> Bool} {x : Nat -> Value}
theorem Ap2.start (l m : List (Int × Int)) (W0 : World) (x : Nat -> Value) : Ap2 l m W0 (fun _ => false) x W0.drew := ⟨(Below.refl _ _).drew, (fun h => nomatch h), (fun h => nomatch h), (fun h => nomatch h), (fun h => nomatch h), (fun h => nomatch h), (fun h => nomatch h), fun h => nomatch h⟩
theorem Ap2.skip (h : Ap2 l m W0 b x W) {i : Nat} (h0 : i ≠ 0) (h3 : i ≠ 3) (h4 : i ≠ 4) (h7 : i ≠ 7) (v : Value) : Ap2 l m W0 (fset b i true) (fset x i v) W := by
 refine ⟨h.bl, ?_, ?_, ?_, ?_, ?_, ?_, ?_⟩
 all_goals simp only [fset_ne _ _ (Ne.symm h0), fset_ne _ _ (Ne.symm h3), fset_ne _ _ (Ne.symm h4), fset_ne _ _ (Ne.symm h7)]
 ·exact h.s0
 ·exact h.s3
 ·exact h.s4
 ·exact h.s7
 ·exact h.o7
 ·exact h.o3
 ·exact h.o4
theorem Ap2.zero (h : Ap2 l m W0 b x W) (h0' : b 0 = false) : Ap2 l m W0 (fset b 0 true) (fset x 0 (.slice (some ⟨W.heap.size, 0, none⟩) 0 0)) (W.alloc (.cells #[] 49)) := by
 have hb := below_new W (.cells #[] 49);have h3 : b 3 = false := by cases e : b 3 with | false => rfl | true => have := h.o3 e; rw [h0'] at this; cases this
 have h7 : b 7 = false := by cases e : b 7 with | false => rfl | true => have := h.o7 e; rw [h3] at this; cases this
 refine ⟨h.bl.trans (hb.mono h.bl.size), fun _ _ => ⟨by rw [fset_same]; exact So.lit0 eP W h.bl.size, fun h4 g hg e => ?_⟩, fun h3' => ?_, fun h4 _ => ?_, fun h7' => ?_, fun h7' => ?_, fun _ => fset_same _ _ _, fun h7' => ?_⟩
 ·rw [fset_ne _ _ (by decide)] at h4 e;rw [fset_same] at hg;have h1 := ((h.s4 h4 h7).lt g e).2;have h2 : W.heap.size = g := by simpa [Value.ownBlock] using hg
  omega
 ·rw [fset_ne _ _ (by decide), h3] at h3'; cases h3'
 ·rw [fset_ne _ _ (by decide)] at h4 |-; exact (h.s4 h4 h7).up hb
 ·rw [fset_ne _ _ (by decide), h7] at h7'; cases h7'
 ·rw [fset_ne _ _ (by decide), h7] at h7'; cases h7'
 ·rw [fset_ne _ _ (by decide), h7] at h7'; cases h7'
theorem Ap2.three (h : Ap2 l m W0 b x W) (h0 : b 0 = true) (h3 : b 3 = false) {v : Value} (hv : So eP W' W0.heap.size v l) (hb : ButS (fun k => (x 0).ownBlock = some k) W W') (hg : ∀ g, v.ownBlock = some g -> (x 0).ownBlock = some g \/ g = W.heap.size) :
  Ap2 l m W0 (fset b 3 true) (fset x 3 v) W' := by
 have h7 : b 7 = false := by cases e : b 7 with | false => rfl | true => have := h.o7 e; rw [h3] at this; cases this
 obtain ⟨k1, k2⟩ := h.s0 h0 h3;refine ⟨ButS.below h.bl hb h.bl.size (fun g e => (k1.lt g e).1), fun _ h3' => ?_, fun _ => ⟨by rw [fset_same]; exact hv, fun h4 _ g hg' e => ?_⟩, fun h4 _ => ?_, fun h7' => ?_, fun h7' => ?_, fun _ => by rw [fset_ne _ _ (by decide)]; exact h0, fun h7' => ?_⟩
 ·rw [fset_same] at h3'; cases h3'
 ·rw [fset_ne _ _ (by decide)] at h4 e;rw [fset_same] at hg';rcases hg g hg' with h1 | h1
  ·exact k2 h4 g h1 e
  ·have := ((h.s4 h4 h7).lt g e).2; omega
 ·rw [fset_ne _ _ (by decide)] at h4 |-;exact (h.s4 h4 h7).fr hb k1.nw (fun g hg e => k2 h4 g e hg)
 ·rw [fset_ne _ _ (by decide), h7] at h7'; cases h7'
 ·exact fset_same _ _ _
 ·rw [fset_ne _ _ (by decide), h7] at h7'; cases h7'
end
theorem BuT.swap {T : TypeId} {w : World} {B : Nat} {vP vR : Value} {N : Int} {P R : List (Int × Int)} {b : Int} (h : BuT T w B vP vR N P R b) : BuT T ((w.setCell ⟨B, 2, none⟩ vR).setCell ⟨B, 3, none⟩ vP) B vR vP N R P b := by
 obtain ⟨s, a, n, c, h1, h2⟩ := h.hb;have hbu := (ButS.set w B 2 vR).trans (ButS.set _ B 3 vP);have hnw : ∀ g, g = B -> NoW w g := fun g e => by rw [e]; exact h.nw B (.inl rfl)
 exact ⟨⟨s, a, n, c, by simp [World.setCell, Array.getElem?_modify, h1], h2.fr hbu hnw⟩, h.hR.fr hbu hnw (fun g hg e => h.d3 (by rw [<- e]; exact hg)), h.hP.fr hbu hnw (fun g hg e => h.d2 (by rw [<- e]; exact hg)), fun g h1 h2 => h.d1 g h2 h1, h.d3, h.d2⟩
end Go.Proofs.YtblebpmlkpobnaaGreat
