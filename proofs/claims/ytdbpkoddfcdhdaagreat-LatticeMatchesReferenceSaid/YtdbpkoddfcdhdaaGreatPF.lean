/-
  Integers: mod, Gcd.
  Bezout: the plain law.
-/
import Derived.Deep.LoopGhost
import Derived.Test.YtdbpkoddfcdhdaaGreatPE
set_option linter.unusedSimpArgs false
set_option linter.unusedVariables false

namespace Go.Proofs.YtdbpkoddfcdhdaaGreat
open Go.RowKit
attribute [local go_sem ↓] Go.wp_at_zero Go.wp_at_succ

/-- Three boxes: two of arguments, one of a result. -/
theorem boxes3 (w : World) {va vb : Value} {x y : Int} (hx : It w va x) (hy : It w vb y) :
    ∃ W s1 a1 n1 c1 s2 a2 n2 c2, va = .agg #[.bool s1, .slice a1 n1 c1] ∧ vb = .agg #[.bool s2, .slice a2 n2 c2] ∧ W = ((w.alloc (.cells #[.bool s1, .slice a1 n1 c1] 56)).alloc (.cells #[.bool s2, .slice a2 n2 c2] 56)).alloc (.cells #[.bool false, .slice none 0 0] 56) ∧
      Below w.heap.size w W ∧ Vx W w.heap.size x ∧ Vx W (w.heap.size + 1) y ∧ Vx W (w.heap.size + 1 + 1) 0 ∧ W.heap.size = w.heap.size + 3 ∧
      W.cell? ⟨w.heap.size, 0, none⟩ = some (.bool s1) ∧ W.cell? ⟨w.heap.size, 1, none⟩ = some (.slice a1 n1 c1) ∧ W.cell? ⟨w.heap.size + 1, 0, none⟩ = some (.bool s2) ∧ W.cell? ⟨w.heap.size + 1, 1, none⟩ = some (.slice a2 n2 c2) ∧
      It W va x ∧ It W vb y := by
  obtain ⟨s1, a1, n1, c1, rfl⟩ := hx.shape
  obtain ⟨s2, a2, n2, c2, rfl⟩ := hy.shape
  obtain ⟨W, hW, b, d1, d2, d3, k1, k2, k3, hs⟩ := three_boxes w s1 s2 a1 a2 n1 n2 c1 c2 56
  exact ⟨W, s1, a1, n1, c1, s2, a2, n2, c2, rfl, rfl, hW, b, ⟨_, _, _, _, d1, hx.up b, k1⟩, ⟨_, _, _, _, d2, hy.up b, k2⟩, ⟨_, _, _, _, d3, it_zero _, k3⟩, hs, d1.c0, d1.c1, d2.c0, d2.c1, hx.up b, hy.up b⟩

theorem mod_any (va vb : Value) (x y : Int) (w : World) (hx : It w va x) (hy : It w vb y) (hy0 : y ≠ 0) (hsx : sz x ≤ 1099511627776) (hsy : sz y ≤ 1099511627776) :
    Calls Tryz.prog 69 #[va, vb] w fun e w' => ∃ v, e = .returned v ∧ It w' v (x % y) ∧ Below w.heap.size w w' := by
  obtain ⟨W, s1, a1, n1, c1, s2, a2, n2, c2, rfl, rfl, hW, b, vX, vY, vR, hs, p0, p1, q0, q1, hx', hy'⟩ := boxes3 w hx hy
  clear hx hy
  go_enter Tryz.func69, Tryz.ntmps69
  go_wp2_with fail
  rw [← hW]
  clear hW
  refine (divmod_any _ _ x y W hx' hy' hy0 hsx hsy).mono ?_
  rintro e w1 ⟨vq, vr, rfl, hq, hr, hb1⟩
  have z1 := hb1.size
  rw [hs] at z1
  obtain ⟨sq, aq, nq, cq, rfl⟩ := hq.shape
  obtain ⟨sr, ar, nr, cr, rfl⟩ := hr.shape
  replace vR := vR.up hb1
  have hbw := Bl.up b hb1
  obtain ⟨s3, a3, n3, k3, g0, g1, g2, g3, -⟩ := vR.cells
  have t3 := vR.lt
  have t4 : w.heap.size + 1 + 1 ≤ w1.heap.size := Nat.le_of_lt t3
  have t5 : w.heap.size + 1 < w1.heap.size := t4
  clear p0 p1 q0 q1 vX vY hq
  go_wp2_with fail
  refine ret_vx (B := w.heap.size + 1 + 1) (z := x % y) rfl rfl rfl ?_ (fun v hv => ⟨v, rfl, hv, ?_⟩)
  all_goals exact srch
/-- A variable's cells, with the sign and the size. -/
theorem Vx.szs {w : World} {B : Nat} {z : Int} (h : Vx w B z) : ∃ a c, w.cell? ⟨B, 0, none⟩ = some (.bool (decide (z < 0))) ∧ w.cell? ⟨B, 1, none⟩ = some (.slice a (sz z) c) ∧ w.frozen? ⟨B, 0, none⟩ = false ∧ w.frozen? ⟨B, 1, none⟩ = false ∧ It w (.agg #[.bool (decide (z < 0)), .slice a (sz z) c]) z := by
  obtain ⟨s, a, n, c, h1, h2, h3⟩ := h
  obtain ⟨a', c', f, e, -⟩ := h2.parts
  simp at e
  obtain ⟨rfl, rfl, rfl, rfl⟩ := e
  exact ⟨a, c, h1.c0, h1.c1, h1.f0, h1.f1, h2⟩

theorem sz_mono {x y : Int} (h : x.natAbs ≤ y.natAbs) : sz x ≤ sz y := words_mono h

theorem gcd_step (p q : Int) (hq : q ≠ 0) : Int.gcd q (p % q) = Int.gcd p q := by
  have h := Int.emod_add_mul_ediv p q
  conv => rhs; rw [← h, Int.gcd_comm]
  rw [Int.gcd_add_mul_left_right]

theorem mod_less (p q : Int) (hq : q ≠ 0) : (p % q).natAbs < q.natAbs := by
  have h1 := Int.emod_nonneg p hq
  have h2 := Int.emod_lt p hq
  omega

theorem gcd_any (va vb : Value) (x y : Int) (w : World) (hx : It w va x) (hy : It w vb y) (hsx : sz x ≤ 1099511627776) (hsy : sz y ≤ 1099511627776) :
    Calls Tryz.prog 33 #[va, vb] w fun e w' => ∃ v, e = .returned v ∧ It w' v (Int.gcd x y) ∧ Below w.heap.size w w' := by
  obtain ⟨W, s1, a1, n1, c1, s2, a2, n2, c2, rfl, rfl, hW, b, vX, vY, vR, hs, p0, p1, q0, q1, hx', hy'⟩ := boxes3 w hx hy
  clear hx hy p0 p1 q0 q1 hx' hy'
  go_enter Tryz.func33, Tryz.ntmps33
  go_wp2_with fail
  rw [← hW]
  clear hW
  go_loopg [] (y.natAbs) (fun k wr => ∃ p q : Int, k = q.natAbs ∧ Below w.heap.size w wr ∧ Vx wr w.heap.size p ∧ Vx wr (w.heap.size + 1) q ∧ Vx wr (w.heap.size + 1 + 1) 0 ∧ Int.gcd p q = Int.gcd x y ∧ sz p ≤ 1099511627776 ∧ sz q ≤ 1099511627776)
  case atStart => exact ⟨x, y, rfl, b, vX, vY, vR, rfl, hsx, hsy⟩
  case round =>
    obtain ⟨p, q, rfl, hb, vp, vq, vr, hg, hsp, hsq⟩ := hrel
    have HG := Lib.hid hg
    clear hg vX vY vR b hs
    obtain ⟨ap, cp, p0, p1, p2, p3, ip⟩ := vp.szs
    obtain ⟨aq, cq, q0, q1, q2, q3, iq⟩ := vq.szs
    by_cases hq0 : q = 0
    · subst hq0
      rw [show sz 0 = 0 from rfl] at *
      obtain ⟨ar, cr, r0, r1, r2, r3, ir⟩ := vr.szs
      clear q2 q3 iq vq hsq ir
      have z4 := vp.lt
      have z5 := vr.lt
      go_wp2_with fail
      refine (abs_any _ p _ ip (by omega)).mono ?_
      rintro e w1 ⟨v, rfl, hv, hb1⟩
      obtain ⟨s', a', n', cap', rfl⟩ := hv.shape
      have vr' := vr.up hb1
      have hb' := Bl.up hb hb1
      obtain ⟨ar, cr, r0, r1, r2, r3, ir⟩ := vr'.szs
      have e1 : p.natAbs = Int.gcd x y := by rw [← HG.out, Int.gcd_zero]
      rw [e1] at hv
      clear e1
      go_wp2_with fail
      refine ret_vx (B := w.heap.size + 1 + 1) (z := Int.gcd x y) rfl rfl rfl ?_ (fun v hv => ⟨v, rfl, hv, ?_⟩)
      · exact Vx.put vr'.va hv
      · exact Bl.st hb' (by omega)
    · have hz : (0 : Int) < (sz q : Int) := by have := mt sz_zero.1 hq0; omega
      have z4 := vr.lt
      go_upto_region 2 with fail
      go_region_with
        (first
          | (go_at_call 69; with_reducible (refine (mod_any _ _ p q _ (by exact srch) (by exact srch) (by exact hq0) (by exact hsp) (by exact hsq)).mono ?_); rintro e w4 ⟨r, rfl, hv4, hb4⟩; obtain ⟨hc4, hf4⟩ := bcell hb4; have z4 := hb4.size; (try simp only [World.size_alloc, World.size_drew, World.size_setCell] at z4); (try have y4 := Nat.lt_of_succ_le z4); (try have x4 := Nat.lt_of_succ_le (Nat.le_of_succ_le z4)); have m40 : w4.cell? ⟨w.heap.size + 1, 0, none⟩ = some (.bool (decide (q < 0))) := (by (repeat' (first | with_reducible assumption | (with_reducible refine And.intro ?_ ?_) | (with_reducible refine cellD ?_) | (with_reducible refine cellN ?_ _) | (with_reducible refine cellS ?_ (by omega)) | (with_reducible refine keepc (by with_reducible assumption) ?_)))); have m41 : w4.cell? ⟨w.heap.size + 1, 1, none⟩ = some (.slice aq (sz q) cq) := (by (repeat' (first | with_reducible assumption | (with_reducible refine And.intro ?_ ?_) | (with_reducible refine cellD ?_) | (with_reducible refine cellN ?_ _) | (with_reducible refine cellS ?_ (by omega)) | (with_reducible refine keepc (by with_reducible assumption) ?_)))); obtain ⟨sj, aj, nj, kj, j0, j1, j2, j3⟩ := Va.cells (show Va w4 w.heap.size by exact srch); obtain ⟨j4, j5⟩ := Va.free (show Va w4 (w.heap.size + 1) by exact srch); obtain ⟨s4, a4, n4, k4, rfl⟩ := hv4.shape))
      all_goals go_wp2_with fail
      all_goals (go_roundg (p % q).natAbs)
      all_goals first
        | exact mod_less p q hq0
        | (refine ⟨q, p % q, rfl, ?_, ?_, ?_, ?_, (gcd_step p q hq0).trans HG.out, hsq, Nat.le_trans (sz_mono (Nat.le_of_lt (mod_less p q hq0))) hsq⟩ <;> exact srch)
end Go.Proofs.YtdbpkoddfcdhdaaGreat

namespace Go.Proofs.YtdbpkoddfcdhdaaGreat
open Go.RowKit

/-- What Bezout gives. -/
structure BezP (x y u v : Int) : Prop where
  eq : u * x + v * y = Int.gcd x y
  u1 : u.natAbs ≤ y.natAbs
  v1 : v.natAbs ≤ x.natAbs + 1
  u0 : 0 ≤ u
  u2 : u < ((y / Int.gcd x y).natAbs : Int)

/-- One more fact that the code keeps: u·a = g, v·a = n modulo b; |v|·g + |u|·n = |b|; the signs of u and v are opposite. -/
structure BezI (a b g n u v : Int) : Prop where
  pos : 0 < g
  nn : 0 ≤ n
  gc : Int.gcd g n = Int.gcd a b
  cg : ∃ t, g = u * a + t * b
  cn : ∃ t, n = v * a + t * b
  bu : u.natAbs ≤ b.natAbs
  eq : (v.natAbs : Int) * g + u.natAbs * n = b.natAbs
  sg : (0 ≤ u ∧ v ≤ 0) ∨ (u ≤ 0 ∧ 0 ≤ v)


theorem BezI.start (x y : Int) (hy : y ≠ 0) : BezI x y (y.natAbs : Int) (x % y) 0 1 where
  pos := by omega
  nn := Int.emod_nonneg _ hy
  gc := by
    rw [show Int.gcd (y.natAbs : Int) (x % y) = Int.gcd y (x % y) by simp [Int.gcd]]
    exact gcd_step x y hy
  cg := by
    rcases Int.lt_or_gt_of_ne hy with h | h
    · exact ⟨-1, by omega⟩
    · exact ⟨1, by omega⟩
  cn := ⟨-(x / y), by have := Int.emod_add_mul_ediv x y; rw [Int.neg_mul, Int.mul_comm (x / y) y]; omega⟩
  bu := by simp
  eq := by simp
  sg := by omega

theorem BezI.step {x y g n u v : Int} (h : BezI x y g n u v) (hn : n ≠ 0) : BezI x y n (g % n) v (u - g / n * v) ∧ (g / n * v).natAbs ≤ y.natAbs := by
  obtain ⟨pos, nn, gc, ⟨t, cg⟩, ⟨t', cn⟩, bu, eq, sg⟩ := h
  have hn' : 0 < n := by omega
  have hq : 0 ≤ g / n := Int.ediv_nonneg (Int.le_of_lt pos) nn
  have hr := Int.emod_nonneg g hn
  have hd := Int.emod_add_mul_ediv g n
  have hv1 : (u - g / n * v).natAbs = u.natAbs + (g / n).natAbs * v.natAbs := by
    have e : (g / n * v).natAbs = (g / n).natAbs * v.natAbs := Int.natAbs_mul _ _
    rcases sg with ⟨s1, s2⟩ | ⟨s1, s2⟩
    · have : g / n * v ≤ 0 := Int.mul_nonpos_of_nonneg_of_nonpos hq s2
      omega
    · have : 0 ≤ g / n * v := Int.mul_nonneg hq s2
      omega
  have hq' : ((g / n).natAbs : Int) = g / n := by omega
  have key : ((u - g / n * v).natAbs : Int) * n + v.natAbs * (g % n) = y.natAbs := by
    rw [hv1, ← eq]
    have e2 : ((u.natAbs + (g / n).natAbs * v.natAbs : Nat) : Int) = u.natAbs + g / n * v.natAbs := by rw [Int.natCast_add, Int.natCast_mul, hq']
    rw [e2]
    generalize (v.natAbs : Int) = V
    generalize (u.natAbs : Int) = U
    generalize g / n = q at *
    generalize g % n = r at *
    subst hd
    simp only [Int.mul_add, Int.add_mul]
    rw [show V * (n * q) = q * V * n by rw [Int.mul_comm n q, ← Int.mul_assoc, Int.mul_comm V q]]
    omega
  have hV : (v.natAbs : Int) ≤ y.natAbs := by
    have h1 : (v.natAbs : Int) * 1 ≤ v.natAbs * g := Int.mul_le_mul_of_nonneg_left (by omega) (by omega)
    have h2 : (0 : Int) ≤ u.natAbs * n := Int.mul_nonneg (by omega) nn
    omega
  have hW : ((u - g / n * v).natAbs : Int) ≤ y.natAbs := by
    have h1 : ((u - g / n * v).natAbs : Int) * 1 ≤ (u - g / n * v).natAbs * n := Int.mul_le_mul_of_nonneg_left (by omega) (by omega)
    have h2 : (0 : Int) ≤ v.natAbs * (g % n) := Int.mul_nonneg (by omega) hr
    omega
  refine ⟨⟨hn', hr, ?_, ⟨t', cn⟩, ⟨t - g / n * t', ?_⟩, by omega, key, ?_⟩, ?_⟩
  · rw [gcd_step g n hn]; exact gc
  · have e1 : g / n * n = g / n * (v * x + t' * y) := congrArg (g / n * ·) cn
    rw [Int.mul_add] at e1
    have hd' : g % n + g / n * n = g := by rw [Int.mul_comm n] at hd; exact hd
    rw [Int.sub_mul, Int.sub_mul, Int.mul_assoc (g / n) v x, Int.mul_assoc (g / n) t' y]
    omega
  · rcases sg with ⟨s1, s2⟩ | ⟨s1, s2⟩
    · have : g / n * v ≤ 0 := Int.mul_nonpos_of_nonneg_of_nonpos hq s2
      omega
    · have : 0 ≤ g / n * v := Int.mul_nonneg hq s2
      omega
  · rw [Int.natAbs_mul]; omega

theorem BezI.done {x y g u v : Int} (h : BezI x y g 0 u v) (hy : y ≠ 0) :
    g = Int.gcd x y ∧ y / g ≠ 0 ∧ (u % (y / g)) * x + (g - u % (y / g) * x) / y * y = Int.gcd x y ∧ (u % (y / g)).natAbs ≤ y.natAbs ∧ ((g - u % (y / g) * x) / y).natAbs ≤ x.natAbs + 1 := by
  obtain ⟨pos, nn, gc, ⟨t, cg⟩, cn, bu, eq, sg⟩ := h
  have hg : g = Int.gcd x y := by rw [← gc, Int.gcd_zero]; omega
  obtain ⟨p, hp⟩ : g ∣ y := by rw [hg]; exact Int.gcd_dvd_right ..
  obtain ⟨m, hm⟩ : g ∣ x := by rw [hg]; exact Int.gcd_dvd_left ..
  have hyg : y / g = p := by rw [hp]; exact Int.mul_ediv_cancel_left _ (by omega)
  have hp0 : p ≠ 0 := by rintro rfl; rw [Int.mul_zero] at hp; exact hy hp
  have hu := Int.emod_add_mul_ediv u p
  have hul := mod_less u p hp0
  have hpy : p.natAbs ≤ y.natAbs := by rw [hp, Int.natAbs_mul]; exact Nat.le_mul_of_pos_left _ (by omega)
  rw [hyg]
  generalize hk : u / p = k at *
  generalize hr : u % p = r at *
  have hdv : g - r * x = y * (t + k * m) := by
    have e1 : g = u * x + t * y := cg
    have epk : p * k * x = y * (k * m) := by rw [hp, hm]; ac_rfl
    rw [← hu, Int.add_mul, epk] at e1
    rw [Int.mul_add, Int.mul_comm y t]
    omega
  have hq : (g - r * x) / y = t + k * m := by rw [hdv]; exact Int.mul_ediv_cancel_left _ hy
  refine ⟨hg, hp0, ?_, by omega, ?_⟩
  · rw [hq, Int.mul_comm (t + k * m) y, ← hdv, ← hg]; omega
  · rw [hq]
    have h1 : (y * (t + k * m)).natAbs ≤ y.natAbs * (x.natAbs + 1) := by
      rw [← hdv]
      have h2 : (r * x).natAbs ≤ y.natAbs * x.natAbs := by rw [Int.natAbs_mul]; exact Nat.mul_le_mul_right _ (by omega)
      have h3 : g.natAbs ≤ y.natAbs := by rw [hp, Int.natAbs_mul]; exact Nat.le_mul_of_pos_right _ (by omega)
      rw [Nat.mul_add, Nat.mul_one]
      omega
    rw [Int.natAbs_mul] at h1
    exact Nat.le_of_mul_le_mul_left h1 (by omega)
end Go.Proofs.YtdbpkoddfcdhdaaGreat
