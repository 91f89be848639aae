/-
  algoristlaw05.changed.
-/
import Derived.Test.YtblebpmlkpobnaaGreatFZA
import Derived.Test.YtblebpmlkpobnaaGreatFZO
import Derived.Test.YtblebpmlkpobnaaGreatFZL
import Derived.Test.YtblebpmlkpobnaaGreatFP1
set_option linter.unusedSimpArgs false
set_option linter.unusedVariables false
set_option maxHeartbeats 8000000
namespace Go.Proofs.YtblebpmlkpobnaaGreat
open Go.RowKit
attribute [local go_sem ↓] Go.wp_at_zero Go.wp_at_succ
def Zx (w : World) (v : Value) : Prop := ∃ (kd at' : Nat) (s : Bool) (a : Option Addr) (n c : Nat) (K : Int), v = .agg #[.int .u8 (kd : Int), .int .u8 (at' : Int), .bool s, .slice a n c, .int .i64 K] ∧ kd < 256 ∧ at' < 256 ∧ Nx w (.agg #[.bool s, .slice a n c])
structure SzC (g : Fz) : Prop where
  N : sz g.N ≤ 1099511627776
  P : ∀ x ∈ g.P, sz x.1 ≤ 1099511627776
  R : ∀ x ∈ g.R, sz x.1 ≤ 1099511627776
  lP : g.P.length ≤ 65537
  lR : g.R.length ≤ 65537
structure Ap2 (l m : List (Int × Int)) (W0 : World) (b : Nat → Bool) (x : Nat → Value) (W : World) : Prop where
  bl : Below W0.heap.size W0 W
  s0 : b 0 = true → b 3 = false → So eP W W0.heap.size (x 0) [] ∧ (b 4 = true → ∀ g, (x 0).ownBlock = some g → (x 4).ownBlock ≠ some g)
  s3 : b 3 = true → So eP W W0.heap.size (x 3) l ∧ (b 4 = true → b 7 = false → ∀ g, (x 3).ownBlock = some g → (x 4).ownBlock ≠ some g)
  s4 : b 4 = true → b 7 = false → So eP W W0.heap.size (x 4) []
  s7 : b 7 = true → So eP W W0.heap.size (x 7) m ∧ ∀ g, (x 3).ownBlock = some g → (x 7).ownBlock ≠ some g
  o7 : b 7 = true → b 3 = true
  o3 : b 3 = true → b 0 = true
  o4 : b 7 = true → b 4 = true
section
variable {l m : List (Int × Int)} {W0 W W' : World} {b : Nat → Bool} {x : Nat → Value}
theorem Ap2.start (l m : List (Int × Int)) (W0 : World) (x : Nat → Value) : Ap2 l m W0 (fun _ => false) x W0.drew := ⟨(Below.refl _ _).drew, (fun h => nomatch h), (fun h => nomatch h), (fun h => nomatch h), (fun h => nomatch h), (fun h => nomatch h), (fun h => nomatch h), fun h => nomatch h⟩
theorem Ap2.skip (h : Ap2 l m W0 b x W) {i : Nat} (h0 : i ≠ 0) (h3 : i ≠ 3) (h4 : i ≠ 4) (h7 : i ≠ 7) (v : Value) : Ap2 l m W0 (fset b i true) (fset x i v) W := by
  refine ⟨h.bl, ?_, ?_, ?_, ?_, ?_, ?_, ?_⟩
  all_goals simp only [fset_ne _ _ (Ne.symm h0), fset_ne _ _ (Ne.symm h3), fset_ne _ _ (Ne.symm h4), fset_ne _ _ (Ne.symm h7)]
  · exact h.s0
  · exact h.s3
  · exact h.s4
  · exact h.s7
  · exact h.o7
  · exact h.o3
  · exact h.o4
theorem Ap2.zero (h : Ap2 l m W0 b x W) (h0' : b 0 = false) : Ap2 l m W0 (fset b 0 true) (fset x 0 (.slice (some ⟨W.heap.size, 0, none⟩) 0 0)) (W.alloc (.cells #[] 49)) := by
  have hb := below_new W (.cells #[] 49)
  have h3 : b 3 = false := by cases e : b 3 with | false => rfl | true => have := h.o3 e; rw [h0'] at this; cases this
  have h7 : b 7 = false := by cases e : b 7 with | false => rfl | true => have := h.o7 e; rw [h3] at this; cases this
  refine ⟨h.bl.trans (hb.mono h.bl.size), fun _ _ => ⟨by rw [fset_same]; exact So.lit0 eP W h.bl.size, fun h4 g hg e => ?_⟩, fun h3' => ?_, fun h4 _ => ?_, fun h7' => ?_, fun h7' => ?_, fun _ => fset_same _ _ _, fun h7' => ?_⟩
  · rw [fset_ne _ _ (by decide)] at h4 e
    rw [fset_same] at hg
    have h1 := ((h.s4 h4 h7).lt g e).2
    have h2 : W.heap.size = g := by simpa [Value.ownBlock] using hg
    omega
  · rw [fset_ne _ _ (by decide), h3] at h3'; cases h3'
  · rw [fset_ne _ _ (by decide)] at h4 ⊢; exact (h.s4 h4 h7).up hb
  · rw [fset_ne _ _ (by decide), h7] at h7'; cases h7'
  · rw [fset_ne _ _ (by decide), h7] at h7'; cases h7'
  · rw [fset_ne _ _ (by decide), h7] at h7'; cases h7'
theorem Ap2.four (h : Ap2 l m W0 b x W) (h4' : b 4 = false) : Ap2 l m W0 (fset b 4 true) (fset x 4 (.slice (some ⟨W.heap.size, 0, none⟩) 0 0)) (W.alloc (.cells #[] 49)) := by
  have hb := below_new W (.cells #[] 49)
  have h7 : b 7 = false := by cases e : b 7 with | false => rfl | true => have := h.o4 e; rw [h4'] at this; cases this
  refine ⟨h.bl.trans (hb.mono h.bl.size), fun h0 h3 => ?_, fun h3 => ?_, fun _ _ => by rw [fset_same]; exact So.lit0 eP W h.bl.size, fun h7' => ?_, fun h7' => ?_, fun h3 => ?_, fun _ => fset_same _ _ _⟩
  · rw [fset_ne _ _ (by decide)] at h0 h3 ⊢
    simp only [fset_same]
    refine ⟨(h.s0 h0 h3).1.up hb, fun _ g hg e => ?_⟩
    have h1 := ((h.s0 h0 h3).1.lt g hg).2
    have h2 : W.heap.size = g := by simpa [Value.ownBlock] using e
    omega
  · rw [fset_ne _ _ (by decide)] at h3 ⊢
    simp only [fset_same]
    refine ⟨(h.s3 h3).1.up hb, fun _ _ g hg e => ?_⟩
    have h1 := ((h.s3 h3).1.lt g hg).2
    have h2 : W.heap.size = g := by simpa [Value.ownBlock] using e
    omega
  · rw [fset_ne _ _ (by decide), h7] at h7'; cases h7'
  · rw [fset_ne _ _ (by decide), h7] at h7'; cases h7'
  · rw [fset_ne _ _ (by decide)] at h3 ⊢; exact h.o3 h3
theorem Ap2.three (h : Ap2 l m W0 b x W) (h0 : b 0 = true) (h3 : b 3 = false) {v : Value} (hv : So eP W' W0.heap.size v l) (hb : ButS (fun k => (x 0).ownBlock = some k) W W') (hg : ∀ g, v.ownBlock = some g → (x 0).ownBlock = some g ∨ g = W.heap.size) :
    Ap2 l m W0 (fset b 3 true) (fset x 3 v) W' := by
  have h7 : b 7 = false := by cases e : b 7 with | false => rfl | true => have := h.o7 e; rw [h3] at this; cases this
  obtain ⟨k1, k2⟩ := h.s0 h0 h3
  refine ⟨ButS.below h.bl hb h.bl.size (fun g e => (k1.lt g e).1), fun _ h3' => ?_, fun _ => ⟨by rw [fset_same]; exact hv, fun h4 _ g hg' e => ?_⟩, fun h4 _ => ?_, fun h7' => ?_, fun h7' => ?_, fun _ => by rw [fset_ne _ _ (by decide)]; exact h0, fun h7' => ?_⟩
  · rw [fset_same] at h3'; cases h3'
  · rw [fset_ne _ _ (by decide)] at h4 e
    rw [fset_same] at hg'
    rcases hg g hg' with h1 | h1
    · exact k2 h4 g h1 e
    · have := ((h.s4 h4 h7).lt g e).2; omega
  · rw [fset_ne _ _ (by decide)] at h4 ⊢
    exact (h.s4 h4 h7).fr hb k1.nw (fun g hg e => k2 h4 g e hg)
  · rw [fset_ne _ _ (by decide), h7] at h7'; cases h7'
  · exact fset_same _ _ _
  · rw [fset_ne _ _ (by decide), h7] at h7'; cases h7'
theorem Ap2.seven (h : Ap2 l m W0 b x W) (h3 : b 3 = true) (h4 : b 4 = true) (h7 : b 7 = false) {v : Value} (hv : So eP W' W0.heap.size v m) (hb : ButS (fun k => (x 4).ownBlock = some k) W W') (hg : ∀ g, v.ownBlock = some g → (x 4).ownBlock = some g ∨ g = W.heap.size) :
    Ap2 l m W0 (fset b 7 true) (fset x 7 v) W' := by
  obtain ⟨k1, k2⟩ := h.s3 h3
  have k4 := h.s4 h4 h7
  refine ⟨ButS.below h.bl hb h.bl.size (fun g e => (k4.lt g e).1), fun _ h3' => ?_, fun _ => ⟨?_, fun _ h7' => ?_⟩, fun _ h7' => ?_, fun _ => ⟨by rw [fset_same]; exact hv, fun g hg' e => ?_⟩, fun _ => by rw [fset_ne _ _ (by decide)]; exact h3, fun h3' => by rw [fset_ne _ _ (by decide)] at h3' ⊢; exact h.o3 h3', fun _ => by rw [fset_ne _ _ (by decide)]; exact h4⟩
  · rw [fset_ne _ _ (by decide), h3] at h3'; cases h3'
  · rw [fset_ne _ _ (by decide)]
    exact k1.fr hb k4.nw (fun g hg e => k2 h4 h7 g hg e)
  · rw [fset_same] at h7'; cases h7'
  · rw [fset_same] at h7'; cases h7'
  · rw [fset_same] at e
    rw [fset_ne _ _ (by decide)] at hg'
    rcases hg g e with h1 | h1
    · exact k2 h4 h7 g hg' h1
    · have := (k1.lt g hg').2; omega
end
theorem setCell_same {w : World} {g o : Nat} {v : Value} (h : w.cell? ⟨g, o, none⟩ = some v) : w.setCell ⟨g, o, none⟩ v = w := by
  have key : w.heap.modify g (fun | .cells c elem frozen => .cells (if (none : Option Nat).isSome then c else c.setIfInBounds o v) elem frozen | o => o) = w.heap := by
    apply Array.ext_getElem?
    intro k
    rw [Array.getElem?_modify]
    split
    · rename_i e
      subst e
      unfold World.cell? at h
      cases hk : w.heap[g]? with
      | none => rfl
      | some x =>
        simp only [hk] at h
        cases x with
        | cells c e f =>
          simp at h
          simp
          apply Array.ext_getElem?
          intro j
          by_cases hj : j = o
          · subst hj
            rw [Array.getElem?_setIfInBounds_self_of_lt (Array.getElem?_eq_some_iff.1 h).1, h]
          · rw [Array.getElem?_setIfInBounds_ne (Ne.symm hj)]
        | _ => rfl
    · rfl
  unfold World.setCell
  exact congrArg (fun h => { w with heap := h }) key
theorem So.setK {w : World} {base g n cap : Nat} {l : List (Int × Int)} (h : So eP w base (.slice (some ⟨g, 0, none⟩) n cap) l) {i : Nat} (hi : i < l.length) (K : Int) :
    So eP (w.setCell ⟨g, i * 3 + 2, none⟩ (.int .i64 K)) base (.slice (some ⟨g, 0, none⟩) n cap) (l.set i ((l.getD i (0, 0)).1, K)) := by
  obtain ⟨s, a, m, c, p0, p1, -, hx, -⟩ := sc_cells h hi
  have h3 := h.set3 hi (x := ((l.getD i (0, 0)).1, K)) hx
  rw [setCell_same p0, setCell_same p1] at h3
  exact h3
theorem BuT.swap {T : TypeId} {w : World} {B : Nat} {vP vR : Value} {N : Int} {P R : List (Int × Int)} {b : Int} (h : BuT T w B vP vR N P R b) : BuT T ((w.setCell ⟨B, 2, none⟩ vR).setCell ⟨B, 3, none⟩ vP) B vR vP N R P b := by
  obtain ⟨s, a, n, c, h1, h2⟩ := h.hb
  have hbu := (ButS.set w B 2 vR).trans (ButS.set _ B 3 vP)
  have hnw : ∀ g, g = B → NoW w g := fun g e => by rw [e]; exact h.nw B (.inl rfl)
  exact ⟨⟨s, a, n, c, by simp [World.setCell, Array.getElem?_modify, h1], h2.fr hbu hnw⟩, h.hR.fr hbu hnw (fun g hg e => h.d3 (by rw [← e]; exact hg)), h.hP.fr hbu hnw (fun g hg e => h.d2 (by rw [← e]; exact hg)), fun g h1 h2 => h.d1 g h2 h1, h.d3, h.d2⟩
def kvC (at' : Nat) (K : Int) : Kv where
  R := fun i v w => (i = 5 → ∃ z, It w v z ∧ sz z ≤ 2) ∧ (i = 8 → ∃ s a n c z, v = .agg #[.bool s, .slice a n c, .int .i64 K] ∧ It w (.agg #[.bool s, .slice a n c]) z ∧ sz z ≤ 2) ∧ (i = 10 → v = .int .i64 (at' : Int))
  V := fun _ w B => w.heap[B]? = some (.cells #[.bool false, .slice none 0 0, .int .i64 0] 49 (0, 0))
  js := fun i => decide (i = 9)
  up := fun h hb => ⟨fun e => by obtain ⟨z, h1, h2⟩ := h.1 e; exact ⟨z, h1.up hb, h2⟩, fun e => by obtain ⟨s, a, n, c, z, h0, h1, h2⟩ := h.2.1 e; exact ⟨s, a, n, c, z, h0, h1.up hb, h2⟩, h.2.2⟩
  vup := fun h hb => (hb.block _ (Array.getElem?_eq_some_iff.1 h).1).trans h
  vlt := fun h => (Array.getElem?_eq_some_iff.1 h).1
theorem num_shape {w : World} {v : Value} (h : ∃ z, It w v z ∧ sz z ≤ 2) : ∃ p : (Bool × Option Addr × Nat × Nat) × Int, v = .agg #[.bool p.1.1, .slice p.1.2.1 p.1.2.2.1 p.1.2.2.2] ∧ It w (.agg #[.bool p.1.1, .slice p.1.2.1 p.1.2.2.1 p.1.2.2.2]) p.2 ∧ sz p.2 ≤ 2 := by
  obtain ⟨z, h1, h2⟩ := h
  obtain ⟨s, a, n, c, rfl⟩ := h1.shape
  exact ⟨((s, a, n, c), z), rfl, h1, h2⟩
theorem heap5 {wx : World} {D TD : Nat} {x0 x1 x2 x3 x4 : Value} (h : wx.heap[D]? = some (.cells #[x0, x1, x2, x3, x4] TD)) :
    wx.cell? ⟨D, 0, none⟩ = some x0 ∧ wx.cell? ⟨D, 1, none⟩ = some x1 ∧ wx.cell? ⟨D, 2, none⟩ = some x2 ∧ wx.cell? ⟨D, 3, none⟩ = some x3 ∧ wx.cell? ⟨D, 4, none⟩ = some x4 ∧
      wx.frozen? ⟨D, 0, none⟩ = false ∧ wx.frozen? ⟨D, 1, none⟩ = false ∧ wx.frozen? ⟨D, 2, none⟩ = false ∧ wx.frozen? ⟨D, 3, none⟩ = false ∧ wx.frozen? ⟨D, 4, none⟩ = false := by
  refine ⟨?_, ?_, ?_, ?_, ?_, ?_, ?_, ?_, ?_, ?_⟩ <;> simp [World.cell?, World.frozen?, h]
theorem chd_end {w wx : World} {D TD : Nat} {fr : Nat × Nat} {s : Bool} {a aP aR : Option Addr} {n c nP nR cP cR : Nat} {N b : Int} {P R : List (Int × Int)}
    (hi : It wx (.agg #[.bool s, .slice a n c]) N) (hP : Sr eP wx (.slice aP nP cP) P) (hR : Sr eP wx (.slice aR nR cR) R)
    (hD : wx.heap[D]? = some (.cells #[.bool false, .slice none 0 0, .slice none 0 0, .slice none 0 0, .int .i64 0] TD fr)) (hL : Below w.heap.size w wx) (hlt : w.heap.size ≤ D) :
    (((((wx.setCell ⟨D, 0, none⟩ (.bool s)).setCell ⟨D, 1, none⟩ (.slice a n c)).setCell ⟨D, 2, none⟩ (.slice aP nP cP)).setCell ⟨D, 3, none⟩ (.slice aR nR cR)).setCell ⟨D, 4, none⟩ (.int .i64 b)).heap[D]? = some (.cells #[.bool s, .slice a n c, .slice aP nP cP, .slice aR nR cR, .int .i64 b] TD fr) ∧
      Fx (((((wx.setCell ⟨D, 0, none⟩ (.bool s)).setCell ⟨D, 1, none⟩ (.slice a n c)).setCell ⟨D, 2, none⟩ (.slice aP nP cP)).setCell ⟨D, 3, none⟩ (.slice aR nR cR)).setCell ⟨D, 4, none⟩ (.int .i64 b)) (.agg #[.bool s, .slice a n c, .slice aP nP cP, .slice aR nR cR, .int .i64 b]) ⟨N, P, R, b⟩ ∧
      Below w.heap.size w (((((wx.setCell ⟨D, 0, none⟩ (.bool s)).setCell ⟨D, 1, none⟩ (.slice a n c)).setCell ⟨D, 2, none⟩ (.slice aP nP cP)).setCell ⟨D, 3, none⟩ (.slice aR nR cR)).setCell ⟨D, 4, none⟩ (.int .i64 b)) := by
  have hfin : ButS (fun k => k = D) wx (((((wx.setCell ⟨D, 0, none⟩ (.bool s)).setCell ⟨D, 1, none⟩ (.slice a n c)).setCell ⟨D, 2, none⟩ (.slice aP nP cP)).setCell ⟨D, 3, none⟩ (.slice aR nR cR)).setCell ⟨D, 4, none⟩ (.int .i64 b)) :=
    ((((ButS.set wx _ 0 _).trans (ButS.set _ _ 1 _)).trans (ButS.set _ _ 2 _)).trans (ButS.set _ _ 3 _)).trans (ButS.set _ _ 4 _)
  have hnw : ∀ g, g = D → NoW wx g := by
    rintro g rfl o x hx
    simp only [World.cell?, hD] at hx
    rcases o with _ | _ | _ | _ | _ | o <;> simp at hx
  exact ⟨by simp [World.setCell, Array.getElem?_modify, hD], ⟨s, a, n, c, _, _, rfl, hi.fr hfin hnw, hP.fr hfin hnw (fun hl => hP.not_fact hD hl), hR.fr hfin hnw (fun hl => hR.not_fact hD hl)⟩, ButS.below hL hfin hL.size (fun g e => by omega)⟩
theorem chd_pack {w W : World} {T TD D B : Nat} {vP vR : Value} {N b : Int} {P R : List (Int × Int)} (h : BuT T W B vP vR N P R b) (hs : SzC ⟨N, P, R, b⟩)
    (hD : W.heap[D]? = some (.cells #[.bool false, .slice none 0 0, .slice none 0 0, .slice none 0 0, .int .i64 0] TD (0, 0))) (hL : Below w.heap.size w W) (hlt : w.heap.size ≤ D) :
    ∃ (s : Bool) (a aP aR : Option Addr) (n c nP cP nR cR : Nat), W.cell? ⟨B, 0, none⟩ = some (.bool s) ∧ W.cell? ⟨B, 1, none⟩ = some (.slice a n c) ∧ W.cell? ⟨B, 2, none⟩ = some (.slice aP nP cP) ∧ W.cell? ⟨B, 3, none⟩ = some (.slice aR nR cR) ∧ W.cell? ⟨B, 4, none⟩ = some (.int .i64 b) ∧
      (((((W.setCell ⟨D, 0, none⟩ (.bool s)).setCell ⟨D, 1, none⟩ (.slice a n c)).setCell ⟨D, 2, none⟩ (.slice aP nP cP)).setCell ⟨D, 3, none⟩ (.slice aR nR cR)).setCell ⟨D, 4, none⟩ (.int .i64 b)).heap[D]? = some (.cells #[.bool s, .slice a n c, .slice aP nP cP, .slice aR nR cR, .int .i64 b] TD (0, 0)) ∧
      ∃ g, Fx (((((W.setCell ⟨D, 0, none⟩ (.bool s)).setCell ⟨D, 1, none⟩ (.slice a n c)).setCell ⟨D, 2, none⟩ (.slice aP nP cP)).setCell ⟨D, 3, none⟩ (.slice aR nR cR)).setCell ⟨D, 4, none⟩ (.int .i64 b)) (.agg #[.bool s, .slice a n c, .slice aP nP cP, .slice aR nR cR, .int .i64 b]) g ∧ SzC g ∧ Below w.heap.size w (((((W.setCell ⟨D, 0, none⟩ (.bool s)).setCell ⟨D, 1, none⟩ (.slice a n c)).setCell ⟨D, 2, none⟩ (.slice aP nP cP)).setCell ⟨D, 3, none⟩ (.slice aR nR cR)).setCell ⟨D, 4, none⟩ (.int .i64 b)) := by
  obtain ⟨aP, cP, rfl, -⟩ := id h.hP.slice
  obtain ⟨aR, cR, rfl, -⟩ := id h.hR.slice
  obtain ⟨s, a, n, c, t0, t1, t2, t3, t4, -, -, -, -, -, hi⟩ := h.cellsA
  obtain ⟨k1, k2, k3⟩ := chd_end hi h.hP.sr h.hR.sr hD hL hlt
  exact ⟨s, a, aP, aR, n, c, _, cP, _, cR, t0, t1, t2, t3, t4, k1, _, k2, hs, k3⟩
set_option maxRecDepth 100000 in
theorem changed_any (va vz : Value) (f : Fz) (w : World) (ha : Fx w va f) (hz : Zx w vz) (hs : SzC f) (hlP : f.P.length ≤ 65536) (hlR : f.R.length ≤ 65536) :
    Calls Tryz.prog 15 #[va, vz] w fun e w' => ∃ v g, e = .returned v ∧ Fx w' v g ∧ SzC g ∧ Below w.heap.size w w' := by
  obtain ⟨W, s, a, n, c, aP, cP, aR, cR, rfl, hW, bl, hsz, hF⟩ := boxF w ha
  obtain ⟨kd, at', sz', az, nz, cz, kz, rfl, hkd, hat, hNx⟩ := hz
  replace hNx := hNx.up bl
  clear ha
  go_enter Tryz.func15, Tryz.ntmps15
  go_upto_region 1 with fail
  rw [← hW]
  have hDz := heap_alloc_new W (.cells #[.int .u8 (kd : Int), .int .u8 (at' : Int), .bool sz', .slice az nz cz, .int .i64 kz] 30)
  have hbz := below_new W (.cells #[.int .u8 (kd : Int), .int .u8 (at' : Int), .bool sz', .slice az nz cz, .int .i64 kz] 30)
  have hDr := heap_alloc_new (W.alloc (.cells #[.int .u8 (kd : Int), .int .u8 (at' : Int), .bool sz', .slice az nz cz, .int .i64 kz] 30)) (.cells #[.bool false, .slice none 0 0, .slice none 0 0, .slice none 0 0, .int .i64 0] 36)
  have hbr := below_new (W.alloc (.cells #[.int .u8 (kd : Int), .int .u8 (at' : Int), .bool sz', .slice az nz cz, .int .i64 kz] 30)) (.cells #[.bool false, .slice none 0 0, .slice none 0 0, .slice none 0 0, .int .i64 0] 36)
  have hDz' := (hbr.block _ (Array.getElem?_eq_some_iff.1 hDz).1).trans hDz
  have hb2 := Bl.up hbz hbr
  rw [World.size_alloc, hsz] at hDr
  rw [hsz] at hDz'
  have hs2 : ((W.alloc (.cells #[.int .u8 (kd : Int), .int .u8 (at' : Int), .bool sz', .slice az nz cz, .int .i64 kz] 30)).alloc (.cells #[.bool false, .slice none 0 0, .slice none 0 0, .slice none 0 0, .int .i64 0] 36)).heap.size = w.heap.size + 3 := by rw [World.size_alloc, World.size_alloc, hsz]
  have hF2 := hF.up hb2
  have HNx := Lib.hid (hNx.up hb2)
  have HL := Lib.hid (Bl.up bl hb2)
  clear hW hF hNx bl hDz hbz hbr hb2 hsz
  generalize (W.alloc (.cells #[.int .u8 (kd : Int), .int .u8 (at' : Int), .bool sz', .slice az nz cz, .int .i64 kz] 30)).alloc (.cells #[.bool false, .slice none 0 0, .slice none 0 0, .slice none 0 0, .int .i64 0] 36) = W1 at *
  have HDz := Lib.hid hDz'
  have HDr := Lib.hid hDr
  obtain ⟨p0, p1, p2, p3, p4⟩ := hF2.cells
  have HF := Lib.hid hF2
  clear hDz' hDr hF2
  refine wp_region_T (by kernel_rfl) [9] (S := fun w' => w'.cell? ⟨w.heap.size, 2, none⟩ = some (.slice aP f.P.length cP) ∧ w'.cell? ⟨w.heap.size, 3, none⟩ = some (.slice aR f.R.length cR)) ⟨p2, p3⟩ (fun hHeld => ?_)
  refine pL 1 rfl ?_
  refine kL 2 rfl ?_
  refine pL 5 rfl ?_
  refine kL 6 rfl ?_
  clear hHeld
  refine wpAnyT_all [(0, some 8), (3, some 11), (4, some 12), (7, some 15), (8, some 16)] 3 (fun b x w' => Ap2 f.P f.R W1 b x w' ∧ (b 8 = true → x 8 = .pointer (some ⟨w.heap.size, 2, none⟩))) rfl (by kernel_rfl) (by decide) (by kernel_rfl) (by kernel_rfl) (by kernel_rfl)
    (fun bb xx wz h => ⟨keepc h.1.bl p2, keepc h.1.bl p3⟩) (fun xx => ⟨Ap2.start _ _ _ _, fun h => nomatch h⟩) ?_ ?_
  · intro i hi
    have hi' : i = 0 ∨ i = 3 ∨ i = 4 ∨ i = 7 ∨ i = 8 := by simpa using hi
    clear hi
    rcases hi' with rfl | rfl | rfl | rfl | rfl
    · refine ⟨_, rfl, fun bb xx wz hJ hbf hw K hK => ?_⟩
      clear hw
      simp only [actsD, List.foldl_cons, List.foldl_nil, Act.put, List.setIfInBounds_toArray, List.set_cons_zero, List.set_cons_succ] at hK ⊢
      go_simp
      exact hK.out _ _ ⟨hJ.1.zero hbf, hJ.2⟩
    · refine ⟨_, rfl, fun bb xx wz hJ hbf hw K hK => ?_⟩
      have h0 := hw 0 (by kernel_rfl)
      clear hw
      obtain ⟨k1, -⟩ := hJ.1.s0 h0 hbf
      refine step_apSr (E := eP) (by rfl) (.tmp 8) (.tmp 10) _ (by rfl) Tryz.underlying34 W1.heap.size (xx 0) (.slice aP f.P.length cP) [] f.P (by rfl) k1 hJ.1.bl.size (by rfl) (HF.out.hP.up hJ.1.bl) (by simp; omega) ?_
      intro v' w' h1 h2 h3 _
      exact hK.out _ _ ⟨hJ.1.three h0 hbf h1 h2 h3, hJ.2⟩
    · refine ⟨_, rfl, fun bb xx wz hJ hbf hw K hK => ?_⟩
      clear hw
      simp only [actsD, List.foldl_cons, List.foldl_nil, Act.put, List.setIfInBounds_toArray, List.set_cons_zero, List.set_cons_succ] at hK ⊢
      go_simp
      exact hK.out _ _ ⟨hJ.1.four hbf, hJ.2⟩
    · refine ⟨_, rfl, fun bb xx wz hJ hbf hw K hK => ?_⟩
      have h3 := hw 3 (by kernel_rfl)
      have h4 := hw 4 (by kernel_rfl)
      clear hw
      refine step_apSr (E := eP) (by rfl) (.tmp 12) (.tmp 14) _ (by rfl) Tryz.underlying34 W1.heap.size (xx 4) (.slice aR f.R.length cR) [] f.R (by rfl) (hJ.1.s4 h4 hbf) hJ.1.bl.size (by rfl) (HF.out.hR.up hJ.1.bl) (by simp; omega) ?_
      intro v' w' h1 h2 h5 _
      exact hK.out _ _ ⟨hJ.1.seven h3 h4 hbf h1 h2 h5, hJ.2⟩
    · refine ⟨_, rfl, fun bb xx wz hJ hbf hw K hK => ?_⟩
      clear hw
      simp only [actsD, List.foldl_cons, List.foldl_nil, Act.put, List.setIfInBounds_toArray, List.set_cons_zero, List.set_cons_succ] at hK ⊢
      go_simp
      exact hK.out _ _ ⟨hJ.1.skip (by decide) (by decide) (by decide) (by decide) _, fun _ => fset_same _ _ _⟩
  intro bb xx wz hbb hJ
  obtain ⟨hA, hP8⟩ := hJ
  have hx8 := hP8 (hbb 8 (by decide))
  obtain ⟨k3, -⟩ := hA.s3 (hbb 3 (by decide))
  obtain ⟨k7, kd7⟩ := hA.s7 (hbb 7 (by decide))
  have hbz := hA.bl
  clear hbb hP8 hA
  obtain ⟨a3, c3, hx3, -⟩ := k3.slice
  obtain ⟨a7, c7, hx7, -⟩ := k7.slice
  rw [hx3] at k3 kd7
  rw [hx7] at k7 kd7
  obtain ⟨u0, hu0⟩ : ∃ u0, u0 = xx 0 := ⟨_, rfl⟩
  obtain ⟨u4, hu4⟩ : ∃ u4, u4 = xx 4 := ⟨_, rfl⟩
  simp only [actsD, markOf, List.map_cons, List.map_nil, List.foldl_cons, List.foldl_nil, Act.put, List.setIfInBounds_toArray, List.set_cons_zero, List.set_cons_succ, hx3, hx7, hx8, ← hu0, ← hu4]
  clear hx3 hx7 hx8 hu0 hu4
  have hFz := HF.out.up hbz
  have hB := hFz.hb
  have d2 : wz.cell? ⟨w.heap.size, 2, none⟩ = some (.slice aP f.P.length cP) := by simp [World.cell?, hB]
  have d3 : wz.cell? ⟨w.heap.size, 3, none⟩ = some (.slice aR f.R.length cR) := by simp [World.cell?, hB]
  have f2 : wz.frozen? ⟨w.heap.size, 2, none⟩ = false := by simp [World.frozen?, hB]
  have f3 : wz.frozen? ⟨w.heap.size, 3, none⟩ = false := by simp [World.frozen?, hB]
  have HB := Lib.hid hB
  have HFz := Lib.hid hFz
  have K3 := Lib.hid k3
  have K7 := Lib.hid k7
  have KD := Lib.hid kd7
  have HBZ := Lib.hid hbz
  clear hB hFz k3 k7 kd7 hbz
  (refine oL 9 rfl fun K hK => tL ?_; go_simp)
  (go_wp2_with fail; refine hK.out _ _ (fun h => absurd h (by decide)) ?_; clear hK; refine tL ?_)
  refine pL 10 rfl ?_
  (refine oL 11 rfl fun K hK => tL ?_; go_simp)
  (go_wp2_with fail; refine hK.out _ _ (fun h => absurd h (by decide)) ?_; clear hK; refine tL ?_)
  refine wpAnyT_done (by kernel_rfl) ?_ _
  clear d2 d3 f2 f3 p0 p1 p2 p3 p4
  have hs1 : w.heap.size + 3 ≤ wz.heap.size := by have := HBZ.out.size; omega
  have hbu := (ButS.set wz w.heap.size 2 (.slice a3 f.P.length c3)).trans (ButS.set _ w.heap.size 3 (.slice a7 f.R.length c7))
  have hnw : ∀ g, g = w.heap.size → NoW wz g := fun g e o x hx => by
    rw [e] at hx
    simp only [World.cell?, HB.out] at hx
    rcases o with _ | _ | _ | _ | _ | o <;> simp at hx
  have ho3 : ∀ g, (Value.slice a3 f.P.length c3).ownBlock = some g → ¬ g = w.heap.size := fun g hg e => by have := (K3.out.lt g hg).1; omega
  have ho7 : ∀ g, (Value.slice a7 f.R.length c7).ownBlock = some g → ¬ g = w.heap.size := fun g hg e => by have := (K7.out.lt g hg).1; omega
  have hBu : BuT 36 ((wz.setCell ⟨w.heap.size, 2, none⟩ (.slice a3 f.P.length c3)).setCell ⟨w.heap.size, 3, none⟩ (.slice a7 f.R.length c7)) w.heap.size (.slice a3 f.P.length c3) (.slice a7 f.R.length c7) f.N f.P f.R f.B :=
    ⟨⟨s, a, n, c, by simp [World.setCell, Array.getElem?_modify, HB.out], HFz.out.hN.fr hbu hnw⟩, (K3.out.fr hbu hnw ho3).base (Nat.zero_le _), (K7.out.fr hbu hnw ho7).base (Nat.zero_le _), KD.out, fun e => ho3 _ e rfl, fun e => ho7 _ e rfl⟩
  have hown : ∀ g, bset w.heap.size (.slice a3 f.P.length c3) (.slice a7 f.R.length c7) g → g = w.heap.size ∨ w.heap.size + 3 ≤ g := fun g hg => by
    rcases hg with h | h | h
    · exact .inl h
    · have := (K3.out.lt g h).1; exact .inr (by omega)
    · have := (K7.out.lt g h).1; exact .inr (by omega)
  have hDz2 := (hbu.block _ (by omega) (by omega)).trans ((HBZ.out.block _ (Array.getElem?_eq_some_iff.1 HDz.out).1).trans HDz.out)
  have hDr2 := (hbu.block _ (by omega) (by omega)).trans ((HBZ.out.block _ (Array.getElem?_eq_some_iff.1 HDr.out).1).trans HDr.out)
  have hNx2 : Nx ((wz.setCell ⟨w.heap.size, 2, none⟩ (.slice a3 f.P.length c3)).setCell ⟨w.heap.size, 3, none⟩ (.slice a7 f.R.length c7)) (.agg #[.bool sz', .slice az nz cz]) := by
    obtain ⟨s', a', n', c', f', e, h1, h2, h3, h4⟩ := HNx.out.up HBZ.out
    exact ⟨s', a', n', c', f', e, h1.fr hbu hnw, h2, h3, h4⟩
  have hL4 := ButS.below (Bl.up HL.out HBZ.out) hbu (by omega) (fun g e => by omega)
  have hsz4 : w.heap.size + 3 ≤ ((wz.setCell ⟨w.heap.size, 2, none⟩ (.slice a3 f.P.length c3)).setCell ⟨w.heap.size, 3, none⟩ (.slice a7 f.R.length c7)).heap.size := by rw [World.size_setCell, World.size_setCell]; exact hs1
  have HBU := Lib.hid hBu
  have HOW := Lib.hid hown
  clear hBu hown
  replace HDz := Lib.hid hDz2
  replace HDr := Lib.hid hDr2
  replace HNx := Lib.hid hNx2
  replace HL := Lib.hid hL4
  clear hDz2 hDr2 hNx2 hL4 hbu hnw ho3 ho7 hs1 HB HFz K3 K7 KD HBZ HF
  generalize (wz.setCell ⟨w.heap.size, 2, none⟩ (.slice a3 f.P.length c3)).setCell ⟨w.heap.size, 3, none⟩ (.slice a7 f.R.length c7) = w4 at *
  generalize hv3 : Value.slice a3 f.P.length c3 = v3 at *
  generalize hv7 : Value.slice a7 f.R.length c7 = v7 at *
  clear hv3 hv7
  have hDz := HDz.out
  have q0 : w4.cell? ⟨w.heap.size + 1, 0, none⟩ = some (.int .u8 (kd : Int)) := by simp [World.cell?, hDz]
  have q1 : w4.cell? ⟨w.heap.size + 1, 1, none⟩ = some (.int .u8 (at' : Int)) := by simp [World.cell?, hDz]
  have q2 : w4.cell? ⟨w.heap.size + 1, 2, none⟩ = some (.bool sz') := by simp [World.cell?, hDz]
  have q3 : w4.cell? ⟨w.heap.size + 1, 3, none⟩ = some (.slice az nz cz) := by simp [World.cell?, hDz]
  have q4 : w4.cell? ⟨w.heap.size + 1, 4, none⟩ = some (.int .i64 kz) := by simp [World.cell?, hDz]
  have e1 : IntKind.i64.wrap (at' : Int) = (at' : Int) := by rw [IntKind.wrap_i64]; omega
  clear hDz
  go_upto_region 2 with fail
  refine wp_region_T (by kernel_rfl) [11] (S := fun w' => w'.cell? ⟨w.heap.size + 1, 0, none⟩ = some (.int .u8 (kd : Int)) ∧ w'.cell? ⟨w.heap.size + 1, 1, none⟩ = some (.int .u8 (at' : Int)) ∧ w'.cell? ⟨w.heap.size + 1, 2, none⟩ = some (.bool sz') ∧ w'.cell? ⟨w.heap.size + 1, 3, none⟩ = some (.slice az nz cz) ∧ w'.cell? ⟨w.heap.size + 1, 4, none⟩ = some (.int .i64 kz)) ⟨q0, q1, q2, q3, q4⟩ (fun hHeld => ?_)
  refine pL 0 rfl ?_
  refine kL 1 rfl ?_
  (refine pL 2 rfl ?_; refine pL 3 rfl ?_)
  refine kL 4 rfl ?_
  refine pL 6 rfl ?_
  refine kL 7 rfl ?_
  clear hHeld
  refine wpAnyT_all [(5, some 23), (8, some 26), (9, some 6), (10, some 5)] 1 (FlV (kvC at' kz) w4) rfl (by kernel_rfl) (by decide) (by kernel_rfl) (by kernel_rfl) (by kernel_rfl)
    (fun bb xx wz h => ⟨keepc h.bl q0, keepc h.bl q1, keepc h.bl q2, keepc h.bl q3, keepc h.bl q4⟩) (fun xx => FlV.start _ _ _) ?_ ?_
  · intro i hi
    have hi' : i = 5 ∨ i = 8 ∨ i = 9 ∨ i = 10 := by simpa using hi
    clear hi
    rcases hi' with rfl | rfl | rfl | rfl
    · refine ⟨_, rfl, fun bb xx wz hJ hbf hw K hK => ?_⟩
      clear hbf hw
      simp only [actsD, List.foldl_cons, List.foldl_nil, Act.put, List.setIfInBounds_toArray, List.set_cons_zero, List.set_cons_succ] at hK ⊢
      go_simp
      refine (r1made_any _ wz (HNx.out.up hJ.bl)).mono ?_
      rintro e w8 ⟨v, z, rfl, hv, hz, hb⟩
      exact hK.out _ _ (hJ.call (i := 5) rfl ⟨fun _ => ⟨z, hv, hz⟩, (fun e => absurd e (by decide)), fun e => absurd e (by decide)⟩ hb)
    · refine ⟨_, rfl, fun bb xx wz hJ hbf hw K hK => ?_⟩
      have hp := num_shape ((hJ.pr 5 rfl (hw 5 (by kernel_rfl))).1 rfl)
      have hh := Classical.choose_spec hp
      generalize Classical.choose hp = p at hh
      have hxu := hh.1
      have HH := Lib.hid hh.2
      clear hbf hw hp hh
      simp only [actsD, List.foldl_cons, List.foldl_nil, Act.put, List.setIfInBounds_toArray, List.set_cons_zero, List.set_cons_succ, hxu] at hK ⊢
      go_simp
      exact hK.out _ _ (hJ.call (i := 8) rfl ⟨(fun e => absurd e (by decide)), (fun _ => ⟨_, _, _, _, p.2, rfl, HH.out.1, HH.out.2⟩), fun e => absurd e (by decide)⟩ (Below.refl _ _))
    · refine ⟨_, rfl, fun bb xx wz hJ hbf hw K hK => ?_⟩
      clear hbf hw
      simp only [actsD, List.foldl_cons, List.foldl_nil, Act.put, List.setIfInBounds_toArray, List.set_cons_zero, List.set_cons_succ] at hK ⊢
      go_simp
      exact hK.out _ _ (hJ.var (i := 9) (W' := wz.alloc (.cells #[.bool false, .slice none 0 0, .int .i64 0] 49)) rfl (heap_alloc_new wz _) (below_new _ _))
    · refine ⟨_, rfl, fun bb xx wz hJ hbf hw K hK => ?_⟩
      clear hbf hw
      simp only [actsD, List.foldl_cons, List.foldl_nil, Act.put, List.setIfInBounds_toArray, List.set_cons_zero, List.set_cons_succ] at hK ⊢
      go_simp
      exact hK.out _ _ (hJ.call (i := 10) rfl ⟨(fun e => absurd e (by decide)), (fun e => absurd e (by decide)), fun _ => rfl⟩ (Below.refl _ _))
  intro bb xx wz hbb hJ
  obtain ⟨s5, a5, n5, c5, z5, hx8, hI5, hz5⟩ := (hJ.pr 8 rfl (hbb 8 (by decide))).2.1 rfl
  have hx10 := (hJ.pr 10 rfl (hbb 10 (by decide))).2.2 rfl
  obtain ⟨B6, hx9, hB6, hV6⟩ := hJ.pj 9 rfl (hbb 9 (by decide))
  have hbz := hJ.bl
  clear hbb hJ
  obtain ⟨u5, hu5⟩ : ∃ u5, u5 = xx 5 := ⟨_, rfl⟩
  simp only [actsD, markOf, List.map_cons, List.map_nil, List.foldl_cons, List.foldl_nil, Act.put, List.setIfInBounds_toArray, List.set_cons_zero, List.set_cons_succ, hx8, hx9, hx10, ← hu5]
  clear hx8 hx9 hx10 hu5
  have hV6 : wz.heap[B6]? = some (.cells #[.bool false, .slice none 0 0, .int .i64 0] 49 (0, 0)) := hV6
  have d0 : wz.cell? ⟨B6, 0, none⟩ = some (.bool false) := by simp [World.cell?, hV6]
  have d1 : wz.cell? ⟨B6, 1, none⟩ = some (.slice none 0 0) := by simp [World.cell?, hV6]
  have d2 : wz.cell? ⟨B6, 2, none⟩ = some (.int .i64 0) := by simp [World.cell?, hV6]
  have f0 : wz.frozen? ⟨B6, 0, none⟩ = false := by simp [World.frozen?, hV6]
  have f1 : wz.frozen? ⟨B6, 1, none⟩ = false := by simp [World.frozen?, hV6]
  have f2 : wz.frozen? ⟨B6, 2, none⟩ = false := by simp [World.frozen?, hV6]
  have HV6 := Lib.hid hV6
  have HI5 := Lib.hid hI5
  have HZ5 := Lib.hid hz5
  have HBZ := Lib.hid hbz
  have HB6 := Lib.hid hB6
  clear hV6 hI5 hz5 hbz hB6
  (refine oL 11 rfl fun K hK => tL ?_; go_simp)
  (go_wp2_with fail; refine hK.out _ _ (fun h => absurd h (by decide)) ?_; clear hK; refine tL ?_)
  refine wpAnyT_done (by kernel_rfl) ?_ _
  clear d0 d1 d2 f0 f1 f2 q0 q1 q2 q3 q4 e1
  have hbu : ButS (fun k => k = B6) wz (((wz.setCell ⟨B6, 0, none⟩ (.bool s5)).setCell ⟨B6, 1, none⟩ (.slice a5 n5 c5)).setCell ⟨B6, 2, none⟩ (.int .i64 kz)) := ((ButS.set wz B6 0 (.bool s5)).trans (ButS.set _ B6 1 (.slice a5 n5 c5))).trans (ButS.set _ B6 2 (.int .i64 kz))
  have hnw : ∀ g, g = B6 → NoW wz g := fun g e o x hx => by
    rw [e] at hx
    simp only [World.cell?, HV6.out] at hx
    rcases o with _ | _ | _ | o <;> simp at hx
  have hb5 : Below w4.heap.size w4 (((wz.setCell ⟨B6, 0, none⟩ (.bool s5)).setCell ⟨B6, 1, none⟩ (.slice a5 n5 c5)).setCell ⟨B6, 2, none⟩ (.int .i64 kz)) := ButS.below HBZ.out hbu HBZ.out.size (fun g e => by rw [e]; exact HB6.out)
  have hM : (((wz.setCell ⟨B6, 0, none⟩ (.bool s5)).setCell ⟨B6, 1, none⟩ (.slice a5 n5 c5)).setCell ⟨B6, 2, none⟩ (.int .i64 kz)).heap[B6]? = some (.cells #[.bool s5, .slice a5 n5 c5, .int .i64 kz] 49 (0, 0)) := by simp [World.setCell, Array.getElem?_modify, HV6.out]
  have hnb : ¬ bset w.heap.size v3 v7 B6 := fun hb => by have := HBU.out.slt B6 hb; have := HB6.out; omega
  have hB63 : w.heap.size + 3 ≤ B6 := by have := HB6.out; omega
  replace HBU := Lib.hid (HBU.out.up hb5)
  replace HNx := Lib.hid (HNx.out.up hb5)
  replace HDz := Lib.hid ((hb5.block _ (Array.getElem?_eq_some_iff.1 HDz.out).1).trans HDz.out)
  replace HDr := Lib.hid ((hb5.block _ (Array.getElem?_eq_some_iff.1 HDr.out).1).trans HDr.out)
  replace HL := Lib.hid (Bl.up HL.out hb5)
  replace HI5 := Lib.hid (HI5.out.fr hbu hnw)
  have HM := Lib.hid hM
  have HNB := Lib.hid hnb
  clear hbu hnw hb5 hM hnb HV6 HBZ HB6 hsz4
  generalize (((wz.setCell ⟨B6, 0, none⟩ (.bool s5)).setCell ⟨B6, 1, none⟩ (.slice a5 n5 c5)).setCell ⟨B6, 2, none⟩ (.int .i64 kz)) = w5 at *
  have hDz := HDz.out
  have q0 : w5.cell? ⟨w.heap.size + 1, 0, none⟩ = some (.int .u8 (kd : Int)) := by simp [World.cell?, hDz]
  obtain ⟨km, hkm⟩ : ∃ km : Nat, km = kd % 8 := ⟨_, rfl⟩
  have e1 : ((kd : Nat) : Int).tmod 8 = (km : Int) := by rw [Int.tmod_eq_emod_of_nonneg (by omega)]; omega
  have hk8 : km < 8 := by omega
  have HS := Lib.hid hs
  clear hkm hDz hs
  have hcases : km = 0 ∨ km = 1 ∨ km = 2 ∨ km = 3 ∨ km = 4 ∨ km = 5 ∨ km = 6 ∨ km = 7 := by omega
  clear hk8
  have HK := Lib.hid hcases
  clear hcases
  go_upto_region 4 with fail
  clear q0 e1
  rcases HK.out with rfl | rfl | rfl | rfl | rfl | rfl | rfl | rfl
  case' inl =>
    have HE := HBU
    have HSZ := HS
    have HDr6 := HDr
    have HL6 := HL
    go_upto_region 22 with fail
  case' inr.inl =>
    have hDz := HDz.out
    have q2 : w5.cell? ⟨w.heap.size + 1, 2, none⟩ = some (.bool sz') := by simp [World.cell?, hDz]
    have q3 : w5.cell? ⟨w.heap.size + 1, 3, none⟩ = some (.slice az nz cz) := by simp [World.cell?, hDz]
    clear hDz
    go_wp2_with fail
    refine (r1made_any _ w5 HNx.out).mono ?_
    rintro e w6 ⟨v, z, rfl, hv, hz, hb⟩
    obtain ⟨s6, a6, n6, c6, rfl⟩ := hv.shape
    have hB6 := HBU.out.up hb
    obtain ⟨x1, x2, x3, x4, t0, t1, -, -, -, r0, r1, -, -, -, -⟩ := hB6.cellsA
    obtain ⟨kF, kB⟩ := hB6.setN hv
    have hb2 := Bl.up HL.out hb
    have hDr6 := (kB.block _ (Nat.lt_of_lt_of_le (Array.getElem?_eq_some_iff.1 HDr.out).1 hb.size) (by omega)).trans ((hb.block _ (Array.getElem?_eq_some_iff.1 HDr.out).1).trans HDr.out)
    have hL6 := ButS.below hb2 kB hb2.size (fun g e => by omega)
    have HE := Lib.hid kF
    have HSZ := Lib.hid (show SzC ⟨z, f.P, f.R, f.B⟩ from ⟨Nat.le_trans hz (by decide), HS.out.P, HS.out.R, HS.out.lP, HS.out.lR⟩)
    have HDr6 := Lib.hid hDr6
    have HL6 := Lib.hid hL6
    clear kF kB hDr6 hL6 hB6 hb2 hz hv hb q2 q3
    go_upto_region 22 with fail
    clear t0 t1 r0 r1
    generalize (w6.setCell ⟨w.heap.size, 0, none⟩ (.bool s6)).setCell ⟨w.heap.size, 1, none⟩ (.slice a6 n6 c6) = w6' at *
  case' inr.inr.inl =>
    have hDz := HDz.out
    have q4 : w5.cell? ⟨w.heap.size + 1, 4, none⟩ = some (.int .i64 kz) := by simp [World.cell?, hDz]
    obtain ⟨x1, x2, x3, x4, -, -, -, -, t4, -, -, -, -, r4, -⟩ := HBU.out.cellsA
    have kB := ButS.set w5 w.heap.size 4 (.int .i64 kz)
    have hDr6 := (kB.block _ (Array.getElem?_eq_some_iff.1 HDr.out).1 (by omega)).trans HDr.out
    have hL6 := ButS.below HL.out kB HL.out.size (fun g e => by omega)
    have HE := Lib.hid (HBU.out.setB (b' := kz))
    have HSZ := Lib.hid (show SzC ⟨f.N, f.P, f.R, kz⟩ from ⟨HS.out.N, HS.out.P, HS.out.R, HS.out.lP, HS.out.lR⟩)
    have HDr6 := Lib.hid hDr6
    have HL6 := Lib.hid hL6
    clear kB hDr6 hL6 hDz
    go_upto_region 22 with fail
    clear t4 r4 q4
    generalize w5.setCell ⟨w.heap.size, 4, none⟩ (.int .i64 kz) = w6 at *
  case' inr.inr.inr.inl =>
    obtain ⟨a3, c3, rfl, -⟩ := HBU.out.hP.slice
    have hM := HM.out
    have m0 : w5.cell? ⟨B6, 0, none⟩ = some (.bool s5) := by simp [World.cell?, hM]
    have m1 : w5.cell? ⟨B6, 1, none⟩ = some (.slice a5 n5 c5) := by simp [World.cell?, hM]
    have m2 : w5.cell? ⟨B6, 2, none⟩ = some (.int .i64 kz) := by simp [World.cell?, hM]
    obtain ⟨x1, x2, x3, x4, -, -, t2, t3, -, -, -, r2, r3, -, -⟩ := HBU.out.cellsA
    have hD7 := heap_alloc_new w5 (.cells #[.bool s5, .slice a5 n5 c5, .int .i64 kz] 49)
    have hsc : Sc eP (w5.alloc (.cells #[.bool s5, .slice a5 n5 c5, .int .i64 kz] 49)) w5.heap.size 0 [(z5, kz)] := Sc.one (E := eP) (cs := [.bool s5, .slice a5 n5 c5, .int .i64 kz]) hD7 ⟨s5, a5, n5, c5, rfl, HI5.out.alloc _⟩
    have hBu7 := HBU.out.alloc (.cells #[.bool s5, .slice a5 n5 c5, .int .i64 kz] 49)
    have hb7 := below_new w5 (.cells #[.bool s5, .slice a5 n5 c5, .int .i64 kz] 49)
    obtain ⟨y1, y2, y3, y4, -, -, y5, y6, -, -, -, y7, y8, -, -⟩ := hBu7.cellsA
    have HY6 := Lib.hid y5
    have HY8 := Lib.hid y7
    clear y5 y6 y7 y8
    have hln : f.P.length + 1 ≤ 1099511627776 := by have := HS.out.lP; omega
    have hlt := HBU.out.lt
    clear hM hD7
    go_upto_region 22 with (at_builtin; go_must (refine wpl_apS (E := eP) rfl (.tmp 44) (.tmp 46) _ rfl Tryz.underlying34 0 _ f.P [(z5, kz)] rfl hBu7.hP (Nat.zero_le _) _ 0 1 1 rfl rfl hsc (by decide) hln ?_); intro g' cap' w14 hS' hb' hg'; have t8 := cell_fr hb' hBu7.lt hBu7.d2 HY6.out; have r8 := frozen_fr hb' hBu7.lt hBu7.d2 HY8.out)
    all_goals
      have hg8' : ∀ g, (Value.slice (some ⟨g', 0, none⟩) (f.P.length + 1) cap').ownBlock = some g → (Value.slice a3 f.P.length c3).ownBlock = some g ∨ g = (w5.alloc (.cells #[.bool s5, .slice a5 n5 c5, .int .i64 kz] 49)).heap.size := fun g hg => by
        have : g' = g := by simpa [Value.ownBlock] using hg
        rw [← this]; exact hg'
      obtain ⟨k1, k2, k3⟩ := hBu7.setP hb' hS' hg8'
      have hLs := hb7.size
      have hDr6 := (k2.block _ (Nat.lt_of_lt_of_le (Array.getElem?_eq_some_iff.1 HDr.out).1 hb7.size) (fun hb => by rcases HOW.out _ hb with h | h <;> omega)).trans ((hb7.block _ (Array.getElem?_eq_some_iff.1 HDr.out).1).trans HDr.out)
      have hL6 := ButS.below (Bl.up HL.out hb7) k2 (Bl.up HL.out hb7).size (fun g hg => by rcases HOW.out g hg with h | h <;> omega)
      have HE := Lib.hid k1
      have HSZ := Lib.hid (show SzC ⟨f.N, f.P ++ [(z5, kz)], f.R, f.B⟩ from ⟨HS.out.N, fun x hx => (List.mem_append.1 hx).elim (HS.out.P x) (fun h => by rw [List.mem_singleton.1 h]; exact Nat.le_trans HZ5.out (by decide)), HS.out.R, by rw [List.length_append, List.length_singleton]; omega, HS.out.lR⟩)
      have HDr6 := Lib.hid hDr6
      have HL6 := Lib.hid hL6
      clear hDr6 hL6 k1 k2 k3 hBu7 hsc hb7 hLs m0 m1 m2 t2 t3 r2 r3 hb' hS' hg' hg8' hln hlt
      clear t8 r8
      generalize w14.setCell ⟨w.heap.size, 2, none⟩ (.slice (some ⟨g', 0, none⟩) (f.P.length + 1) cap') = w6 at *
      generalize (Value.slice (some ⟨g', 0, none⟩) (f.P.length + 1) cap') = vn at *
  case' inr.inr.inr.inr.inl =>
    obtain ⟨a7, c7, rfl, -⟩ := HBU.out.hR.slice
    have hM := HM.out
    have m0 : w5.cell? ⟨B6, 0, none⟩ = some (.bool s5) := by simp [World.cell?, hM]
    have m1 : w5.cell? ⟨B6, 1, none⟩ = some (.slice a5 n5 c5) := by simp [World.cell?, hM]
    have m2 : w5.cell? ⟨B6, 2, none⟩ = some (.int .i64 kz) := by simp [World.cell?, hM]
    obtain ⟨x1, x2, x3, x4, -, -, t2, t3, -, -, -, r2, r3, -, -⟩ := HBU.out.cellsA
    have hD7 := heap_alloc_new w5 (.cells #[.bool s5, .slice a5 n5 c5, .int .i64 kz] 49)
    have hsc : Sc eP (w5.alloc (.cells #[.bool s5, .slice a5 n5 c5, .int .i64 kz] 49)) w5.heap.size 0 [(z5, kz)] := Sc.one (E := eP) (cs := [.bool s5, .slice a5 n5 c5, .int .i64 kz]) hD7 ⟨s5, a5, n5, c5, rfl, HI5.out.alloc _⟩
    have hBu7 := HBU.out.alloc (.cells #[.bool s5, .slice a5 n5 c5, .int .i64 kz] 49)
    have hb7 := below_new w5 (.cells #[.bool s5, .slice a5 n5 c5, .int .i64 kz] 49)
    obtain ⟨y1, y2, y3, y4, -, -, y5, y6, -, -, -, y7, y8, -, -⟩ := hBu7.cellsA
    have HY6 := Lib.hid y6
    have HY8 := Lib.hid y8
    clear y5 y6 y7 y8
    have hln : f.R.length + 1 ≤ 1099511627776 := by have := HS.out.lR; omega
    have hlt := HBU.out.lt
    clear hM hD7
    go_upto_region 22 with (at_builtin; go_must (refine wpl_apS (E := eP) rfl (.tmp 52) (.tmp 54) _ rfl Tryz.underlying34 0 _ f.R [(z5, kz)] rfl hBu7.hR (Nat.zero_le _) _ 0 1 1 rfl rfl hsc (by decide) hln ?_); intro g' cap' w14 hS' hb' hg'; have t8 := cell_fr hb' hBu7.lt hBu7.d3 HY6.out; have r8 := frozen_fr hb' hBu7.lt hBu7.d3 HY8.out)
    all_goals
      have hg8' : ∀ g, (Value.slice (some ⟨g', 0, none⟩) (f.R.length + 1) cap').ownBlock = some g → (Value.slice a7 f.R.length c7).ownBlock = some g ∨ g = (w5.alloc (.cells #[.bool s5, .slice a5 n5 c5, .int .i64 kz] 49)).heap.size := fun g hg => by
        have : g' = g := by simpa [Value.ownBlock] using hg
        rw [← this]; exact hg'
      obtain ⟨k1, k2, k3⟩ := hBu7.setR hb' hS' hg8'
      have hLs := hb7.size
      have hDr6 := (k2.block _ (Nat.lt_of_lt_of_le (Array.getElem?_eq_some_iff.1 HDr.out).1 hb7.size) (fun hb => by rcases HOW.out _ hb with h | h <;> omega)).trans ((hb7.block _ (Array.getElem?_eq_some_iff.1 HDr.out).1).trans HDr.out)
      have hL6 := ButS.below (Bl.up HL.out hb7) k2 (Bl.up HL.out hb7).size (fun g hg => by rcases HOW.out g hg with h | h <;> omega)
      have HE := Lib.hid k1
      have HSZ := Lib.hid (show SzC ⟨f.N, f.P, f.R ++ [(z5, kz)], f.B⟩ from ⟨HS.out.N, HS.out.P, fun x hx => (List.mem_append.1 hx).elim (HS.out.R x) (fun h => by rw [List.mem_singleton.1 h]; exact Nat.le_trans HZ5.out (by decide)), HS.out.lP, by rw [List.length_append, List.length_singleton]; omega⟩)
      have HDr6 := Lib.hid hDr6
      have HL6 := Lib.hid hL6
      clear hDr6 hL6 k1 k2 k3 hBu7 hsc hb7 hLs m0 m1 m2 t2 t3 r2 r3 hb' hS' hg' hg8' hln hlt
      clear t8 r8
      generalize w14.setCell ⟨w.heap.size, 3, none⟩ (.slice (some ⟨g', 0, none⟩) (f.R.length + 1) cap') = w6 at *
      generalize (Value.slice (some ⟨g', 0, none⟩) (f.R.length + 1) cap') = vn at *
  case' inr.inr.inr.inr.inr.inl =>
    have hDz := HDz.out
    have q4 : w5.cell? ⟨w.heap.size + 1, 4, none⟩ = some (.int .i64 kz) := by simp [World.cell?, hDz]
    clear hDz
    by_cases h0 : f.P.length = 0
    case' pos =>
      obtain ⟨a3, c3, rfl, -⟩ := HBU.out.hP.slice
      obtain ⟨x1, x2, x3, x4, -, -, t2, t3, -, -, -, r2, r3, -, -⟩ := HBU.out.cellsA
      have h1 : ¬ (f.P.length : Int) > 0 := by omega
      have HE := HBU
      have HSZ := HS
      have HDr6 := HDr
      have HL6 := HL
      clear h0
      go_upto_region 22 with fail
      clear t2 t3 r2 r3 q4 h1
    case' neg =>
      have hform : ∃ g3 c3, v3 = .slice (some ⟨g3, 0, none⟩) f.P.length c3 := by
        rcases HBU.out.hP.form with ⟨-, e⟩ | ⟨g, cap, e, -⟩
        · rw [e] at h0; exact absurd rfl h0
        · exact ⟨g, cap, e⟩
      obtain ⟨g3, c3, rfl⟩ := hform
      obtain ⟨im, him⟩ : ∃ im, at' % f.P.length = im := ⟨_, rfl⟩
      have himl : im < f.P.length := by rw [← him]; exact Nat.mod_lt _ (by omega)
      have e2 : (at' : Int).tmod (f.P.length : Int) = (im : Int) := by rw [Int.tmod_eq_emod_of_nonneg (by omega), ← him]; simp
      have h1 : (f.P.length : Int) > 0 := by omega
      have h2 : ¬ (f.P.length : Int) = 0 := by omega
      have h3 : (0 : Int) ≤ (im : Int) := by omega
      have h4 : (im : Int) < (f.P.length : Int) := by omega
      obtain ⟨x1, x2, x3, x4, -, -, t2, t3, -, -, -, r2, r3, -, -⟩ := HBU.out.cellsA
      obtain ⟨se, ae, ne, ke, -, -, y2, hx, -, -, o2⟩ := sc_cells HBU.out.hP himl
      have kP := HBU.out.hP.setK himl kz
      have kB := ButS.set w5 g3 (im * 3 + 2) (.int .i64 kz)
      have hge := HOW.out g3 (.inr (.inl rfl))
      have hne : g3 ≠ w.heap.size := fun e => HBU.out.d2 (by rw [e]; rfl)
      have k1 := HBU.out.newP (kB.mono (fun k _ hk => by rw [hk]; rfl)) kP
      have hDr6 := (kB.block _ (Array.getElem?_eq_some_iff.1 HDr.out).1 (by omega)).trans HDr.out
      have hL6 := ButS.below HL.out kB HL.out.size (fun g e => by omega)
      have hmem : f.P.getD im (0, 0) ∈ f.P := by rw [List.getD_eq_getElem?_getD, List.getElem?_eq_getElem himl]; exact List.getElem_mem _
      have HE := Lib.hid k1
      have HSZ := Lib.hid (show SzC ⟨f.N, f.P.set im ((f.P.getD im (0, 0)).1, kz), f.R, f.B⟩ from ⟨HS.out.N, fun x hx => (List.mem_or_eq_of_mem_set hx).elim (HS.out.P x) (fun h => by rw [h]; exact HS.out.P (f.P.getD im (0, 0)) hmem), HS.out.R, by rw [List.length_set]; exact HS.out.lP, HS.out.lR⟩)
      have HDr6 := Lib.hid hDr6
      have HL6 := Lib.hid hL6
      clear him kP kB k1 hDr6 hL6 hmem hx hge hne
      generalize f.P.length = pl at t2 e2 h0 h1 h2 h4 himl
      go_upto_region 14 with fail
      refine wp_region_T (by kernel_rfl) [11] (S := fun w' => w'.cell? ⟨w.heap.size, 2, none⟩ = some (.slice (some ⟨g3, 0, none⟩) pl c3) ∧ w'.cell? ⟨w.heap.size + 1, 4, none⟩ = some (.int .i64 kz)) ⟨t2, q4⟩ (fun hHeld => ?_)
      refine pL 0 rfl ?_
      refine kL 1 rfl ?_
      (refine pL 2 rfl ?_; refine pL 3 rfl ?_)
      refine kL 4 rfl ?_
      (refine pL 5 rfl ?_; refine pL 6 rfl ?_; refine pL 7 rfl ?_)
      refine kL 8 rfl ?_
      (refine pL 9 rfl ?_; refine pL 10 rfl ?_)
      (refine oL 11 rfl fun K hK => tL ?_; go_simp)
      (go_wp2_with fail; refine hK.out _ _ (fun h => absurd h (by decide)) ?_; clear hK; refine tL ?_)
      refine wpAnyT_done (by kernel_rfl) ?_ _
      clear hHeld
      go_upto_region 22 with fail
      clear t2 t3 r2 r3 q4 y2 o2 e2 h0 h1 h2 h3 h4 himl
      replace HE := Lib.hid HE.out.drew
      replace HL6 := Lib.hid HL6.out.drew
      replace HDr6 := Lib.hid (show (w5.setCell ⟨g3, im * 3 + 2, none⟩ (.int .i64 kz)).drew.heap[w.heap.size + 2]? = _ from HDr6.out)
      generalize (w5.setCell ⟨g3, im * 3 + 2, none⟩ (.int .i64 kz)).drew = w6 at *
  case' inr.inr.inr.inr.inr.inr.inl =>
    by_cases h0 : f.R.length > 1
    case' neg =>
      obtain ⟨a7, c7, rfl, -⟩ := HBU.out.hR.slice
      obtain ⟨x1, x2, x3, x4, -, -, t2, t3, -, -, -, r2, r3, -, -⟩ := HBU.out.cellsA
      have h1 : ¬ (f.R.length : Int) > 1 := by omega
      have HE := HBU
      have HSZ := HS
      have HDr6 := HDr
      have HL6 := HL
      go_upto_region 22 with fail
      clear t2 t3 r2 r3 h1 h0
    case' pos =>
      have hform : ∃ g7 c7, v7 = .slice (some ⟨g7, 0, none⟩) f.R.length c7 := by
        rcases HBU.out.hR.form with ⟨-, e⟩ | ⟨g, cap, e, -⟩
        · rw [e] at h0; simp at h0
        · exact ⟨g, cap, e⟩
      obtain ⟨g7, c7, rfl⟩ := hform
      have h1 : (f.R.length : Int) > 1 := by omega
      have i0 : 0 < f.R.length := by omega
      obtain ⟨x1, x2, x3, x4, -, -, t2, t3, -, -, -, r2, r3, -, -⟩ := HBU.out.cellsA
      obtain ⟨s0, a0, n0, k0, y0, y1, y2, hx0, o0, o1, o2⟩ := sc_cells HBU.out.hR i0
      obtain ⟨s1, a1, n1, k1, y3, y4, y5, hx1, o3, o4, o5⟩ := sc_cells HBU.out.hR h0
      replace y0 : w5.cell? ⟨g7, 0, none⟩ = some (.bool s0) := y0
      replace y1 : w5.cell? ⟨g7, 1, none⟩ = some (.slice a0 n0 k0) := y1
      replace y2 : w5.cell? ⟨g7, 2, none⟩ = some (.int .i64 (f.R.getD 0 (0, 0)).2) := y2
      generalize hf0 : f.R.getD 0 (0, 0) = x0 at *
      generalize hf1 : f.R.getD 1 (0, 0) = x1' at *
      obtain ⟨X0, K0⟩ := x0
      obtain ⟨X1, K1⟩ := x1'
      have HF0 := Lib.hid hf0
      have HF1 := Lib.hid hf1
      clear hf0 hf1
      go_upto_region 17 with fail
      have H0 := Lib.hid h0
      have HI0 := Lib.hid i0
      generalize f.R.length = rl at t3 h0 h1 i0
      go_upto_region 18 with fail
      have hge := HOW.out g7 (.inr (.inr rfl))
      have hnw5 : ∀ g, g = g7 → NoW w5 g := fun g e => HBU.out.hR.nw g (by rw [e]; rfl)
      have hglt : g7 < w5.heap.size := by
        rcases Nat.lt_or_ge g7 w5.heap.size with h | h
        · exact h
        · have : w5.heap[g7]? = none := Array.getElem?_eq_none h
          simp [World.cell?, this] at y0
      have hb6 := below_new w5 (.cells #[.bool s0, .slice a0 n0 k0, .int .i64 K0] 49)
      have hD6 := heap_alloc_new w5 (.cells #[.bool s0, .slice a0 n0 k0, .int .i64 K0] 49)
      have hc : ∀ o, (w5.alloc (.cells #[.bool s0, .slice a0 n0 k0, .int .i64 K0] 49)).cell? ⟨g7, o, none⟩ = w5.cell? ⟨g7, o, none⟩ := fun o => by simp only [World.cell?, hb6.block g7 hglt]
      have HB6' := HBU.out.up hb6
      have hx0' := hx0.up hb6
      have hx1' := hx1.up hb6
      have hL6 := Bl.up HL.out hb6
      have hDr6 := (hb6.block _ (Array.getElem?_eq_some_iff.1 HDr.out).1).trans HDr.out
      have y0' := (hc 0).trans y0
      have y1' := (hc 1).trans y1
      have y2' := (hc 2).trans y2
      have y3' := (hc 3).trans y3
      have y4' := (hc 4).trans y4
      have y5' : (w5.alloc (.cells #[.bool s0, .slice a0 n0 k0, .int .i64 K0] 49)).cell? ⟨g7, 5, none⟩ = some (.int .i64 K1) := (hc 5).trans y5
      obtain ⟨-, -, -, -, -, -, -, t3', -, -, -, -, -, -, -⟩ := HB6'.cellsA
      obtain ⟨-, -, -, -, -, -, -, -, o0', o1', o2'⟩ := sc_cells HB6'.hR HI0.out
      replace o0' : (w5.alloc (.cells #[.bool s0, .slice a0 n0 k0, .int .i64 K0] 49)).frozen? ⟨g7, 0, none⟩ = false := o0'
      replace o1' : (w5.alloc (.cells #[.bool s0, .slice a0 n0 k0, .int .i64 K0] 49)).frozen? ⟨g7, 1, none⟩ = false := o1'
      replace o2' : (w5.alloc (.cells #[.bool s0, .slice a0 n0 k0, .int .i64 K0] 49)).frozen? ⟨g7, 2, none⟩ = false := o2'
      have hglt5 : g7 ≠ w5.heap.size := by omega
      clear y0 y1 y2 y3 y4 y5 o0 o1 o2 o3 o4 o5 hx0 hx1 hc hglt t3 t2 r2 r3 hb6 hnw5
      generalize (w5.alloc (.cells #[.bool s0, .slice a0 n0 k0, .int .i64 K0] 49)) = w6 at *
      generalize w5.heap.size = B7 at hD6 hglt5 ⊢
      have HX0 := Lib.hid hx0'
      have HX1 := Lib.hid hx1'
      have HB6 := Lib.hid HB6'
      have HD6 := Lib.hid hD6
      have HL6' := Lib.hid hL6
      have HDr6' := Lib.hid hDr6
      have HNE := Lib.hid hglt5
      have HGE := Lib.hid hge
      clear HB6' hx0' hx1' hL6 hDr6 hD6 hglt5 hge
      have HRL := Lib.hid t3'
      have hrl : ∃ r2, f.R.length = r2 ∧ r2 > 1 ∧ 0 < r2 := ⟨_, rfl, H0.out, HI0.out⟩
      clear h0 h1 i0
      obtain ⟨r2, hr2, h0, i0⟩ := hrl
      rw [hr2] at t3'
      clear hr2
      have h1 : (r2 : Int) > 1 := by omega
      have h2 : (0 : Int) < (r2 : Int) := by omega
      have h3 : (1 : Int) < (r2 : Int) := by omega
      refine wp_region_T (by kernel_rfl) [7] (S := fun w' => w'.cell? ⟨w.heap.size, 3, none⟩ = some (.slice (some ⟨g7, 0, none⟩) r2 c7) ∧ w'.cell? ⟨g7, 3, none⟩ = some (.bool s1) ∧ w'.cell? ⟨g7, 4, none⟩ = some (.slice a1 n1 k1) ∧ w'.cell? ⟨g7, 5, none⟩ = some (.int .i64 K1)) ⟨t3', y3', y4', y5'⟩ (fun hHeld => ?_)
      refine pL 0 rfl ?_
      refine kL 1 rfl ?_
      refine pL 2 rfl ?_
      refine kL 3 rfl ?_
      refine pL 4 rfl ?_
      refine kL 5 rfl ?_
      refine pL 6 rfl ?_
      (refine oL 7 rfl fun K hK => tL ?_; go_simp)
      (go_wp2_with fail; refine hK.out _ _ (fun h => absurd h (by decide)) ?_; clear hK; refine tL ?_)
      refine wpAnyT_done (by kernel_rfl) ?_ _
      clear hHeld
      go_upto_region 19 with fail
      have kB1 : ButS (fun k => k = g7) w6 (((w6.setCell ⟨g7, 0, none⟩ (.bool s1)).setCell ⟨g7, 1, none⟩ (.slice a1 n1 k1)).setCell ⟨g7, 2, none⟩ (.int .i64 K1)) := ((ButS.set _ _ _ _).trans (ButS.set _ _ _ _)).trans (ButS.set _ _ _ _)
      have hnw6 : ∀ g, g = g7 → NoW w6 g := fun g e => HB6.out.hR.nw g (by rw [e]; rfl)
      have kR1 : So eP (((w6.setCell ⟨g7, 0, none⟩ (.bool s1)).setCell ⟨g7, 1, none⟩ (.slice a1 n1 k1)).setCell ⟨g7, 2, none⟩ (.int .i64 K1)) 0 (.slice (some ⟨g7, 0, none⟩) f.R.length c7) (f.R.set 0 (X1, K1)) := HB6.out.hR.set3 HI0.out (x := (X1, K1)) HX1.out
      have kx0 := HX0.out.fr kB1 hnw6
      have kE7 := (HB6.out.newR (kB1.mono (fun k _ hk => by rw [hk]; rfl)) kR1).drew
      have kD7 := (kB1.block B7 (Array.getElem?_eq_some_iff.1 HD6.out).1 (fun e => HNE.out e.symm)).trans HD6.out
      have kDr7 := (kB1.block _ (Array.getElem?_eq_some_iff.1 HDr6'.out).1 (by have := HGE.out; omega)).trans HDr6'.out
      have kL7 := (ButS.below HL6'.out kB1 HL6'.out.size (fun g e => by have := HGE.out; omega)).drew
      obtain ⟨-, -, -, -, -, -, -, t3, -, -, -, -, -, -, -⟩ := kE7.cellsA
      have kR1' := kE7.hR
      obtain ⟨_, _, _, _, v3', v4', v5', -, o3, o4, o5⟩ := sc_cells kR1' (by rw [List.length_set]; exact H0.out)
      have kx0' := kx0.up ((Below.refl _ _).drew)
      obtain ⟨W7, hW7⟩ : ∃ W7, W7 = (((w6.setCell ⟨g7, 0, none⟩ (.bool s1)).setCell ⟨g7, 1, none⟩ (.slice a1 n1 k1)).setCell ⟨g7, 2, none⟩ (.int .i64 K1)).drew := ⟨_, rfl⟩
      rw [← hW7] at kE7 kL7 t3 kR1' v3' v4' v5' o3 o4 o5 kx0' ⊢
      replace kD7 := (congrArg (fun x : World => x.heap[B7]?) hW7).trans kD7
      replace kDr7 := (congrArg (fun x : World => x.heap[w.heap.size + 2]?) hW7).trans kDr7
      have z0 : W7.cell? ⟨B7, 0, none⟩ = some (.bool s0) := by simp [World.cell?, kD7]
      have z1 : W7.cell? ⟨B7, 1, none⟩ = some (.slice a0 n0 k0) := by simp [World.cell?, kD7]
      have z2 : W7.cell? ⟨B7, 2, none⟩ = some (.int .i64 K0) := by simp [World.cell?, kD7]
      have kB2 : ButS (fun k => k = g7) W7 (((W7.setCell ⟨g7, 3, none⟩ (.bool s0)).setCell ⟨g7, 4, none⟩ (.slice a0 n0 k0)).setCell ⟨g7, 5, none⟩ (.int .i64 K0)) := ((ButS.set _ _ _ _).trans (ButS.set _ _ _ _)).trans (ButS.set _ _ _ _)
      have kR2 : So eP (((W7.setCell ⟨g7, 3, none⟩ (.bool s0)).setCell ⟨g7, 4, none⟩ (.slice a0 n0 k0)).setCell ⟨g7, 5, none⟩ (.int .i64 K0)) 0 (.slice (some ⟨g7, 0, none⟩) f.R.length c7) ((f.R.set 0 (X1, K1)).set 1 (X0, K0)) := kR1'.set3 (i := 1) (by rw [List.length_set]; exact H0.out) (x := (X0, K0)) kx0'
      have hm0 : (X0, K0) ∈ f.R := by rw [← HF0.out, List.getD_eq_getElem?_getD, List.getElem?_eq_getElem HI0.out]; exact List.getElem_mem _
      have hm1 : (X1, K1) ∈ f.R := by rw [← HF1.out, List.getD_eq_getElem?_getD, List.getElem?_eq_getElem H0.out]; exact List.getElem_mem _
      have HE := Lib.hid (kE7.newR (kB2.mono (fun k _ hk => by rw [hk]; rfl)) kR2)
      have HSZ := Lib.hid (show SzC ⟨f.N, f.P, (f.R.set 0 (X1, K1)).set 1 (X0, K0), f.B⟩ from ⟨HS.out.N, HS.out.P, fun x hx => (List.mem_or_eq_of_mem_set hx).elim (fun h => (List.mem_or_eq_of_mem_set h).elim (HS.out.R x) (fun h => by rw [h]; exact HS.out.R (X1, K1) hm1)) (fun h => by rw [h]; exact HS.out.R (X0, K0) hm0), HS.out.lP, by rw [List.length_set, List.length_set]; exact HS.out.lR⟩)
      have HDr6 := Lib.hid ((kB2.block _ (Array.getElem?_eq_some_iff.1 kDr7).1 (by have := HGE.out; omega)).trans kDr7)
      have HL6 := Lib.hid (ButS.below kL7 kB2 kL7.size (fun g e => by have := HGE.out; omega))
      replace v3' : W7.cell? ⟨g7, 3, none⟩ = _ := v3'
      replace v4' : W7.cell? ⟨g7, 4, none⟩ = _ := v4'
      replace v5' : W7.cell? ⟨g7, 5, none⟩ = _ := v5'
      replace o3 : W7.frozen? ⟨g7, 3, none⟩ = false := o3
      replace o4 : W7.frozen? ⟨g7, 4, none⟩ = false := o4
      replace o5 : W7.frozen? ⟨g7, 5, none⟩ = false := o5
      clear hW7 kE7 kL7 kR1' kx0' kx0 kD7 kDr7 kB2 kR2 hm0 hm1 kB1 hnw6 kR1 t3' y0' y1' y2' y3' y4' y5' o0' o1' o2'
      clear h0 i0 h1 h2 h3
      have hrl : ∃ r2, f.R.length = r2 ∧ r2 > 1 := ⟨_, rfl, H0.out⟩
      obtain ⟨r2', hr2, h0⟩ := hrl
      rw [hr2] at t3
      clear hr2
      have h1 : (r2' : Int) > 1 := by omega
      have h3 : (1 : Int) < (r2' : Int) := by omega
      go_upto_region 22 with fail
      clear t3 z0 z1 z2 v3' v4' v5' o3 o4 o5 h0 h1 h3
      generalize (((W7.setCell ⟨g7, 3, none⟩ (.bool s0)).setCell ⟨g7, 4, none⟩ (.slice a0 n0 k0)).setCell ⟨g7, 5, none⟩ (.int .i64 K0)) = w6' at *
  case' inr.inr.inr.inr.inr.inr.inr =>
    obtain ⟨a3, c3, rfl, -⟩ := HBU.out.hP.slice
    obtain ⟨a7, c7, rfl, -⟩ := HBU.out.hR.slice
    obtain ⟨x1, x2, x3, x4, -, -, t2, t3, -, -, -, r2, r3, -, -⟩ := HBU.out.cellsA
    have kB := (ButS.set w5 w.heap.size 2 (.slice a7 f.R.length c7)).trans (ButS.set _ w.heap.size 3 (.slice a3 f.P.length c3))
    have hDr6 := (kB.block _ (Array.getElem?_eq_some_iff.1 HDr.out).1 (by omega)).trans HDr.out
    have hL6 := ButS.below HL.out kB HL.out.size (fun g e => by omega)
    have HE := Lib.hid HBU.out.swap
    have HSZ := Lib.hid (show SzC ⟨f.N, f.R, f.P, f.B⟩ from ⟨HS.out.N, HS.out.R, HS.out.P, HS.out.lR, HS.out.lP⟩)
    have HDr6 := Lib.hid hDr6
    have HL6 := Lib.hid hL6
    clear kB hDr6 hL6
    go_upto_region 22 with fail
    clear t2 t3 r2 r3
    generalize (w5.setCell ⟨w.heap.size, 2, none⟩ (.slice a7 f.R.length c7)).setCell ⟨w.heap.size, 3, none⟩ (.slice a3 f.P.length c3) = w6 at *
  all_goals
    obtain ⟨s9, a9, aP9, aR9, n9, c9, nP9, cP9, nR9, cR9, t0, t1, t2, t3, t4, hfin, hpost⟩ := chd_pack HE.out HSZ.out HDr6.out HL6.out (by omega)
    obtain ⟨d0, d1, d2, d3, d4, f0, f1, f2, f3, f4⟩ := heap5 HDr6.out
    have HFIN := Lib.hid hfin
    have HPOST := Lib.hid hpost
    clear hfin hpost HE HSZ HDr6 HL6 HS HDr HBU HNx HDz HL
    go_wp2_with fail
    refine ret_fact (B := w.heap.size + 2) (T := 36) (fr := (0, 0)) rfl rfl rfl HFIN.out ?_
    obtain ⟨g9, k1, k2, k3⟩ := HPOST.out
    first | exact ⟨_, rfl, g9, k1, k2, k3⟩ | exact ⟨_, g9, rfl, k1, k2, k3⟩
end Go.Proofs.YtblebpmlkpobnaaGreat
