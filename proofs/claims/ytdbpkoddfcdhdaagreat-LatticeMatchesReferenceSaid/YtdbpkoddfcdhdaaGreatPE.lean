/-
  Integers: DivMod.
-/
import Derived.Test.YtdbpkoddfcdhdaaGreatPD
set_option linter.unusedSimpArgs false
set_option linter.unusedVariables false

namespace Go.Proofs.YtdbpkoddfcdhdaaGreat
open Go.RowKit
attribute [local go_sem ↓] Go.wp_at_zero Go.wp_at_succ

/-- Four boxes: two of arguments, two of results. -/
theorem four_boxes (w : World) (s1 s2 : Bool) (a1 a2 : Option Addr) (n1 n2 c1 c2 T : Nat) :
    ∃ W, W = (((w.alloc (.cells #[.bool s1, .slice a1 n1 c1] T)).alloc (.cells #[.bool s2, .slice a2 n2 c2] T)).alloc (.cells #[.bool false, .slice none 0 0] T)).alloc (.cells #[.bool false, .slice none 0 0] T) ∧ Below w.heap.size w W ∧
      Bx W w.heap.size (.bool s1) (.slice a1 n1 c1) ∧ Bx W (w.heap.size + 1) (.bool s2) (.slice a2 n2 c2) ∧ Bx W (w.heap.size + 2) (.bool false) (.slice none 0 0) ∧ Bx W (w.heap.size + 3) (.bool false) (.slice none 0 0) ∧
      NoW W w.heap.size ∧ NoW W (w.heap.size + 1) ∧ NoW W (w.heap.size + 2) ∧ NoW W (w.heap.size + 3) ∧ W.heap.size = w.heap.size + 4 := by
  obtain ⟨W, hW, b, d1, d2, d3, n1', n2', n3', hs⟩ := three_boxes w s1 s2 a1 a2 n1 n2 c1 c2 T
  rw [← hW]
  have d4 := Bx.new W (.bool false) (.slice none 0 0) T
  have n4 := NoW.new W #[.bool false, .slice none 0 0] T rfl
  rw [hs] at d4 n4
  exact ⟨_, rfl, b.alloc b.size _, d1.up (below_new _ _), d2.up (below_new _ _), d3.up (below_new _ _), d4, n1'.alloc d1.lt _, n2'.alloc d2.lt _, n3'.alloc d3.lt _, n4, by rw [World.size_alloc, hs]⟩

theorem divmod_zero (va vb : Value) (x : Int) (w : World) (hx : It w va x) (hy : It w vb 0) :
    Calls Tryz.prog 82 #[va, vb] w fun e w' => ∃ vq vr, e = .returned (.tuple #[vq, vr, .int .i64 4]) ∧ It w' vq 0 ∧ It w' vr 0 ∧ Below w.heap.size w w' := by
  obtain ⟨a, ca, f, rfl, h1, h2, h3, h4, h5⟩ := hx.parts
  obtain ⟨b, cb, g, rfl, k1, k2, k3, k4, k5⟩ := hy.parts
  rw [show sz 0 = 0 from rfl]
  clear h1 h2 h3 h4 h5 k1 k2 k3 k4 k5 hx hy
  go_enter Tryz.func82, Tryz.ntmps82
  go_wp2_with fail
  refine ret_vx2e (B := w.heap.size + 1 + 1) (C := w.heap.size + 1 + 1 + 1) (y := 0) (z := 0) rfl rfl rfl rfl rfl ?_ ?_ (fun u v hu hv => ⟨u, v, rfl, hu, hv, ?_⟩)
  · refine Vx.alloc (Vx.new0 (by simp)) _
  · refine Vx.new0 (by simp)
  · exact (((below_new _ _).alloc (by simp) _).alloc (by simp; omega) _).alloc (by simp; omega) _

set_option maxRecDepth 100000 in
set_option maxHeartbeats 4000000 in
theorem divmod_any (va vb : Value) (x y : Int) (w : World) (hx : It w va x) (hy : It w vb y) (hy0 : y ≠ 0) (hsx : sz x ≤ 1099511627776) (hsy : sz y ≤ 1099511627776) :
    Calls Tryz.prog 82 #[va, vb] w fun e w' => ∃ vq vr, e = .returned (.tuple #[vq, vr, .int .i64 0]) ∧ It w' vq (x / y) ∧ It w' vr (x % y) ∧ Below w.heap.size w w' := by
  obtain ⟨a, ca, f, rfl, h1, h2, h3, h4, h5⟩ := hx.parts
  obtain ⟨b, cb, g, rfl, k1, k2, k3, k4, k5⟩ := hy.parts
  have H5 := Lib.hid h5
  have K5 := Lib.hid k5
  clear h5 k5
  have hz : ((sz y : Int) == 0) = false := by rw [beq_eq_false_iff_ne]; have := mt sz_zero.1 hy0; omega
  obtain ⟨W, hW, hw, d1, d2, d3, d4, n1, n2, n3, n4, -⟩ := four_boxes w (decide (x < 0)) (decide (y < 0)) a b (sz x) (sz y) ca cb 56
  replace hx := hx.up hw
  replace hy := hy.up hw
  have hnx : Nt W (.slice a (sz x) ca) x.natAbs := ⟨a, sz x, ca, f, rfl, h1, h2.up hw, h3, h4, H5.out⟩
  have hny : Nt W (.slice b (sz y) cb) y.natAbs := ⟨b, sz y, cb, g, rfl, k1, k2.up hw, k3, k4, K5.out⟩
  have p1 := d1.c1
  have p2 := d2.c1
  clear h1 h2 h3 h4 k1 k2 k3 k4 H5 K5
  go_enter Tryz.func82, Tryz.ntmps82
  go_wp2_with fail
  rw [← hW]
  clear hW
  have vX := Vx.mk d1 hx n1
  have vY := Vx.mk d2 hy n2
  have vQ := Vx.mk d3 (it_zero W) n3
  have vR := Vx.mk d4 (it_zero W) n4
  have p0 := d1.c0
  have q0 := d2.c0
  have q1 := d2.c1
  clear d1 d2 d3 d4 n1 n2 n3 n4
  refine (natdiv_any _ _ x.natAbs y.natAbs W hnx hny (by omega) hsx hsy).mono ?_
  rintro e w1 ⟨vq, vr, rfl, hq, hr, hb1⟩
  have zW := vR.lt
  have z1 := hb1.size
  have hwq : words (x.natAbs / y.natAbs) ≤ 4611686018427387904 := Nat.le_trans (words_mono (Nat.div_le_self _ _)) (Nat.le_trans hsx (by decide))
  have hwr : words (x.natAbs % y.natAbs) ≤ 4611686018427387904 := Nat.le_trans (words_mono (Nat.mod_le _ _)) (Nat.le_trans hsx (by decide))
  clear p1 p2
  go_upto_region 4 with fail
  go_cut [9, 10] (fun s9 s10 wc => ∃ B9 B10 : Nat, s9 = .pointer (some ⟨B9, 0, none⟩) ∧ s10 = .pointer (some ⟨B10, 0, none⟩) ∧ B9 ≠ B10 ∧ w.heap.size + 4 ≤ B9 ∧ w.heap.size + 4 ≤ B10 ∧ Below w.heap.size w wc ∧
    Vx wc (w.heap.size + 1) y ∧ Vx wc (w.heap.size + 2) 0 ∧ Vx wc (w.heap.size + 3) 0 ∧ Vx wc B9 (sg (!(decide (x < 0) == decide (y < 0))) (x.natAbs / y.natAbs)) ∧ Vx wc B10 (sg (decide (x < 0)) (x.natAbs % y.natAbs)))
  case first =>
    go_region_held3 (fun w' => w'.cell? ⟨w.heap.size, 0, none⟩ = some (.bool (decide (x < 0))) ∧ w'.cell? ⟨w.heap.size + 1, 0, none⟩ = some (.bool (decide (y < 0))))
    ((repeat' (first | with_reducible assumption | (with_reducible refine And.intro ?_ ?_) | (with_reducible refine cellD ?_) | (with_reducible refine cellN ?_ _) | (with_reducible refine cellS ?_ (by omega)) | (with_reducible refine keepc (by with_reducible assumption) ?_))))
    (first
      | (go_at_call 71; with_reducible (refine (of_nt _ vq (x.natAbs / y.natAbs) _ (by exact srch) (by exact hwq)).mono ?_); rintro e w2 ⟨q, rfl, hvq, hb2⟩; obtain ⟨hc2, hf2⟩ := bcell hb2; have z2 := hb2.size; (try simp only [World.size_alloc, World.size_drew, World.size_setCell] at z2); (try have y2 := Nat.lt_of_succ_le z2); (try have x2 := Nat.lt_of_succ_le (Nat.le_of_succ_le z2)); (try have y3_2 := Nat.lt_of_lt_of_le y3 z2); (try have x3_2 := Nat.lt_of_lt_of_le x3 z2); (try have y3_2 := Nat.lt_of_lt_of_le y3 (Nat.le_of_succ_le z2)); (try have x3_2 := Nat.lt_of_lt_of_le x3 (Nat.le_of_succ_le z2)); (try have y3_2 := Nat.lt_of_lt_of_le y3 (Nat.le_of_succ_le (Nat.le_of_succ_le z2))); (try have x3_2 := Nat.lt_of_lt_of_le x3 (Nat.le_of_succ_le (Nat.le_of_succ_le z2))); obtain ⟨sq, aq, nq, cq, rfl⟩ := hvq.shape)
      | (go_at_call 71; with_reducible (refine (of_nt _ vr (x.natAbs % y.natAbs) _ (by exact srch) (by exact hwr)).mono ?_); rintro e w3 ⟨r, rfl, hvr, hb3⟩; obtain ⟨hc3, hf3⟩ := bcell hb3; have z3 := hb3.size; (try simp only [World.size_alloc, World.size_drew, World.size_setCell] at z3); (try have y3 := Nat.lt_of_succ_le z3); (try have x3 := Nat.lt_of_succ_le (Nat.le_of_succ_le z3)); (try have y2_3 := Nat.lt_of_lt_of_le y2 z3); (try have x2_3 := Nat.lt_of_lt_of_le x2 z3); (try have y2_3 := Nat.lt_of_lt_of_le y2 (Nat.le_of_succ_le z3)); (try have x2_3 := Nat.lt_of_lt_of_le x2 (Nat.le_of_succ_le z3)); (try have y2_3 := Nat.lt_of_lt_of_le y2 (Nat.le_of_succ_le (Nat.le_of_succ_le z3))); (try have x2_3 := Nat.lt_of_lt_of_le x2 (Nat.le_of_succ_le (Nat.le_of_succ_le z3))); obtain ⟨sr, ar, nr, cr, rfl⟩ := hvr.shape))

    all_goals go_wp2_with fail
    all_goals (go_meet; case rel => (refine ⟨_, _, rfl, rfl, by omega, by omega, by omega, ?_, ?_, ?_, ?_, ?_, ?_⟩ <;> exact srch))
  case rest =>
    obtain ⟨B9, B10, rfl, rfl, hne, hl9, hl10, hbc, cY, cQ, cR, c9, c10⟩ := hcut
    have hr0 : sz (sg (decide (x < 0)) (x.natAbs % y.natAbs)) ≤ 2199023255552 := by
      rw [sz_sg]
      exact Nat.le_trans (words_mono (Nat.mod_le _ _)) (Nat.le_trans hsx (by decide))
    have hq0 : sz (sg (!(decide (x < 0) == decide (y < 0))) (x.natAbs / y.natAbs)) ≤ 2199023255552 := by
      rw [sz_sg]
      exact Nat.le_trans (words_mono (Nat.div_le_self _ _)) (Nat.le_trans hsx (by decide))
    have hya : sz (y.natAbs : Int) ≤ 2199023255552 := Nat.le_trans (Nat.le_of_eq (sz_abs y)) (Nat.le_trans hsy (by decide))
    obtain ⟨s10, a10, n10, k10, e0, e1, e2, e3, i10⟩ := c10.cells
    have es := i10.sgn
    by_cases hneg : sg (decide (x < 0)) (x.natAbs % y.natAbs) < 0
    · obtain ⟨v1, v2⟩ := divmod_neg x y hy0 hneg
      replace v1 := Lib.hid v1
      replace v2 := Lib.hid v2
      have es' : s10 = true := by rw [es]; simpa using hneg
      subst es'
      clear es hneg
      obtain ⟨sy, ay, ny, ky, y0, y1, y2, y3, iy⟩ := cY.cells
      have hc9 := c9.lt
      have hc10 := c10.lt
      clear vX vY vQ vR p0 q0 q1 hq hr hb1 zW z1 hx hy hnx hny hw hwq hwr
      go_upto_region 6 with fail
      go_cut [] (fun wd => Below w.heap.size w wd ∧ Vx wd (w.heap.size + 1) y ∧ Vx wd (w.heap.size + 2) 0 ∧ Vx wd (w.heap.size + 3) 0 ∧ Vx wd B9 (sg (!(decide (x < 0) == decide (y < 0))) (x.natAbs / y.natAbs)) ∧ Vx wd B10 (x % y))
      case first =>
        go_region_with
        (first
          | (go_at_call 70; with_reducible (refine (abs_any _ y _ (by exact srch) (by exact Nat.le_trans hsy (by decide))).mono ?_); rintro e w4 ⟨q, rfl, hv4, hb4⟩; obtain ⟨hc4, hf4⟩ := bcell hb4; have z4 := hb4.size; (try simp only [World.size_alloc, World.size_drew, World.size_setCell] at z4); (try have y4 := Nat.lt_of_succ_le z4); (try have x4 := Nat.lt_of_succ_le (Nat.le_of_succ_le z4)); have m40 : w4.cell? ⟨B10, 0, none⟩ = some (.bool true) := (by (repeat' (first | with_reducible assumption | (with_reducible refine And.intro ?_ ?_) | (with_reducible refine cellD ?_) | (with_reducible refine cellN ?_ _) | (with_reducible refine cellS ?_ (by omega)) | (with_reducible refine keepc (by with_reducible assumption) ?_)))); have m41 : w4.cell? ⟨B10, 1, none⟩ = some (.slice a10 n10 k10) := (by (repeat' (first | with_reducible assumption | (with_reducible refine And.intro ?_ ?_) | (with_reducible refine cellD ?_) | (with_reducible refine cellN ?_ _) | (with_reducible refine cellS ?_ (by omega)) | (with_reducible refine keepc (by with_reducible assumption) ?_)))); obtain ⟨s4, a4, n4, k4, rfl⟩ := hv4.shape)
          | (go_at_call 84; with_reducible (refine (add_any _ _ (sg (decide (x < 0)) (x.natAbs % y.natAbs)) (y.natAbs : Int) _ (by exact srch) (by exact srch) (by exact hr0) (by exact hya)).mono ?_); rintro e w5 ⟨r, rfl, hv5, hb5⟩; rw [v2.out] at hv5; obtain ⟨hc5, hf5⟩ := bcell hb5; have z5 := hb5.size; (try simp only [World.size_alloc, World.size_drew, World.size_setCell] at z5); (try have y5 := Nat.lt_of_succ_le z5); (try have x5 := Nat.lt_of_succ_le (Nat.le_of_succ_le z5)); (try have y4_5 := Nat.lt_of_lt_of_le y4 z5); (try have x4_5 := Nat.lt_of_lt_of_le x4 z5); (try have y4_5 := Nat.lt_of_lt_of_le y4 (Nat.le_of_succ_le z5)); (try have x4_5 := Nat.lt_of_lt_of_le x4 (Nat.le_of_succ_le z5)); (try have y4_5 := Nat.lt_of_lt_of_le y4 (Nat.le_of_succ_le (Nat.le_of_succ_le z5))); (try have x4_5 := Nat.lt_of_lt_of_le x4 (Nat.le_of_succ_le (Nat.le_of_succ_le z5))); obtain ⟨sj, aj, nj, kj, j50, j51, j52, j53⟩ := Va.cells (show Va w5 B10 by exact srch); obtain ⟨s5, a5, n5, k5, rfl⟩ := hv5.shape))
        all_goals (go_wp2_with fail; go_meet; case rel => (refine ⟨?_, ?_, ?_, ?_, ?_, ?_⟩ <;> exact srch))
      case rest =>
        obtain ⟨hbd, dY, dQ, dR, d9, d10⟩ := hcut
        clear c9 c10 cY cQ cR hbc hc9 hc10 e0 e1 e2 e3 i10 y0 y1 y2 y3 iy hr0 hya v2
        obtain ⟨s9, a9, n9, k9, e0, e1, e2, e3, i9⟩ := d9.cells
        obtain ⟨sy, ay, ny, ky, y0, y1, y2, y3, iy⟩ := dY.cells
        go_upto_region 7 with fail
        go_cut [] (fun we => Below w.heap.size w we ∧ Vx we (w.heap.size + 1) y ∧ Vx we (w.heap.size + 2) 0 ∧ Vx we (w.heap.size + 3) 0 ∧ Vx we B9 (x / y) ∧ Vx we B10 (x % y))
        case first =>
          go_region_with
          (first
          | (go_at_call 46; with_reducible (refine (sign_any _ y _ (by exact srch)).mono ?_); rintro e w6 ⟨rfl, hb6⟩; obtain ⟨hc6, hf6⟩ := bcell hb6; have z6 := hb6.size; (try simp only [World.size_alloc, World.size_drew, World.size_setCell] at z6); (try have y6 := Nat.lt_of_succ_le z6); (try have x6 := Nat.lt_of_succ_le (Nat.le_of_succ_le z6)); have m60 : w6.cell? ⟨B9, 0, none⟩ = some (.bool s9) := (by (repeat' (first | with_reducible assumption | (with_reducible refine And.intro ?_ ?_) | (with_reducible refine cellD ?_) | (with_reducible refine cellN ?_ _) | (with_reducible refine cellS ?_ (by omega)) | (with_reducible refine keepc (by with_reducible assumption) ?_)))); have m61 : w6.cell? ⟨B9, 1, none⟩ = some (.slice a9 n9 k9) := (by (repeat' (first | with_reducible assumption | (with_reducible refine And.intro ?_ ?_) | (with_reducible refine cellD ?_) | (with_reducible refine cellN ?_ _) | (with_reducible refine cellS ?_ (by omega)) | (with_reducible refine keepc (by with_reducible assumption) ?_)))))
          | (go_at_call 83; with_reducible (refine (intof_any (cmpI y 0) _ (by exact (cmpI_in y 0).1) (by exact (cmpI_in y 0).2)).mono ?_); rintro e w7 ⟨q, rfl, hv7, hb7⟩; obtain ⟨hc7, hf7⟩ := bcell hb7; have z7 := hb7.size; (try simp only [World.size_alloc, World.size_drew, World.size_setCell] at z7); (try have y7 := Nat.lt_of_succ_le z7); (try have x7 := Nat.lt_of_succ_le (Nat.le_of_succ_le z7)); have m70 : w7.cell? ⟨B9, 0, none⟩ = some (.bool s9) := (by (repeat' (first | with_reducible assumption | (with_reducible refine And.intro ?_ ?_) | (with_reducible refine cellD ?_) | (with_reducible refine cellN ?_ _) | (with_reducible refine cellS ?_ (by omega)) | (with_reducible refine keepc (by with_reducible assumption) ?_)))); have m71 : w7.cell? ⟨B9, 1, none⟩ = some (.slice a9 n9 k9) := (by (repeat' (first | with_reducible assumption | (with_reducible refine And.intro ?_ ?_) | (with_reducible refine cellD ?_) | (with_reducible refine cellN ?_ _) | (with_reducible refine cellS ?_ (by omega)) | (with_reducible refine keepc (by with_reducible assumption) ?_)))); obtain ⟨s7, a7, n7, k7, rfl⟩ := hv7.shape)
          | (go_at_call 59; with_reducible (refine (sub_any _ _ (sg (!(decide (x < 0) == decide (y < 0))) (x.natAbs / y.natAbs)) (cmpI y 0) _ (by exact srch) (by exact srch) (by exact hq0) (by exact sz_cmpI y 0)).mono ?_); rintro e w8 ⟨r, rfl, hv8, hb8⟩; rw [v1.out] at hv8; obtain ⟨hc8, hf8⟩ := bcell hb8; have z8 := hb8.size; (try simp only [World.size_alloc, World.size_drew, World.size_setCell] at z8); (try have y8 := Nat.lt_of_succ_le z8); (try have x8 := Nat.lt_of_succ_le (Nat.le_of_succ_le z8)); (try have y7_8 := Nat.lt_of_lt_of_le y7 z8); (try have x7_8 := Nat.lt_of_lt_of_le x7 z8); (try have y7_8 := Nat.lt_of_lt_of_le y7 (Nat.le_of_succ_le z8)); (try have x7_8 := Nat.lt_of_lt_of_le x7 (Nat.le_of_succ_le z8)); (try have y7_8 := Nat.lt_of_lt_of_le y7 (Nat.le_of_succ_le (Nat.le_of_succ_le z8))); (try have x7_8 := Nat.lt_of_lt_of_le x7 (Nat.le_of_succ_le (Nat.le_of_succ_le z8))); obtain ⟨sj, aj, nj, kj, j50, j51, j52, j53⟩ := Va.cells (show Va w8 B9 by exact srch); obtain ⟨s8, a8, n8, k8, rfl⟩ := hv8.shape))
          all_goals (go_wp2_with fail; go_meet; case rel => (refine ⟨?_, ?_, ?_, ?_, ?_, ?_⟩ <;> exact srch))
        case rest =>
          obtain ⟨hbe, eY, eQ, eR, e9, e10⟩ := hcut
          clear d9 d10 dY dQ dR hbd e0 e1 e2 e3 i9 y0 y1 y2 y3 iy
          obtain ⟨s1, a1, n1, k1, e0, e1, e2, e3, i1⟩ := e9.cells
          obtain ⟨s2, a2, n2, k2, f0, f1, f2, f3, i2⟩ := e10.cells
          obtain ⟨s3, a3, n3, k3, g0, g1, g2, g3, i3⟩ := eQ.cells
          obtain ⟨s4, a4, n4, k4, l0, l1, l2, l3, i4⟩ := eR.cells
          go_upto_region 8 with fail
          go_region
          all_goals go_wp2_with fail
          all_goals (refine ret_vx2e (B := w.heap.size + 1 + 1) (C := w.heap.size + 1 + 1 + 1) (y := x / y) (z := x % y) rfl rfl rfl rfl rfl ?_ ?_ (fun u v hu hv => ⟨u, v, rfl, hu, hv, ?_⟩))
          all_goals exact srch
    · obtain ⟨v1, v2⟩ := divmod_pos x y hy0 hneg
      rw [v1] at c9
      have es' : s10 = false := by rw [es]; simpa using hneg
      rw [v2] at c10 i10
      subst es'
      clear es hneg v1 v2 hq0 hr0 hya
      clear vX vY vQ vR p0 q0 q1 hq hr hb1 zW z1 hx hy hnx hny hw hwq hwr
      obtain ⟨s1, a1, n1, k1, f0, f1, f2, f3, i1⟩ := c9.cells
      obtain ⟨s3, a3, n3, k3, g0, g1, g2, g3, i3⟩ := cQ.cells
      obtain ⟨s4, a4, n4, k4, l0, l1, l2, l3, i4⟩ := cR.cells
      go_upto_region 8 with fail
      go_region
      all_goals go_wp2_with fail
      all_goals (refine ret_vx2e (B := w.heap.size + 1 + 1) (C := w.heap.size + 1 + 1 + 1) (y := x / y) (z := x % y) rfl rfl rfl rfl rfl ?_ ?_ (fun u v hu hv => ⟨u, v, rfl, hu, hv, ?_⟩))
      all_goals exact srch

end Go.Proofs.YtdbpkoddfcdhdaaGreat
