/-
  Integers: Bezout (the divisor not 0).
-/
import Derived.Test.YtdbpkoddfcdhdaaGreatPF
import Derived.Test.YtdbpkoddfcdhdaaGreatPH
set_option linter.unusedSimpArgs false
set_option linter.unusedVariables false

namespace Go.Proofs.YtdbpkoddfcdhdaaGreat
open Go.RowKit
attribute [local go_sem ↓] Go.wp_at_zero Go.wp_at_succ

/-- Five boxes: two of arguments, three of results. -/
theorem boxes5 (w : World) {va vb : Value} {x y : Int} (hx : It w va x) (hy : It w vb y) :
    ∃ W s1 a1 n1 c1 s2 a2 n2 c2, va = .agg #[.bool s1, .slice a1 n1 c1] ∧ vb = .agg #[.bool s2, .slice a2 n2 c2] ∧ W = ((((w.alloc (.cells #[.bool s1, .slice a1 n1 c1] 56)).alloc (.cells #[.bool s2, .slice a2 n2 c2] 56)).alloc (.cells #[.bool false, .slice none 0 0] 56)).alloc (.cells #[.bool false, .slice none 0 0] 56)).alloc (.cells #[.bool false, .slice none 0 0] 56) ∧
      Below w.heap.size w W ∧ Vx W w.heap.size x ∧ Vx W (w.heap.size + 1) y ∧ Va W (w.heap.size + 1 + 1) ∧ Va W (w.heap.size + 1 + 1 + 1) ∧ Va W (w.heap.size + 1 + 1 + 1 + 1) ∧ W.heap.size = w.heap.size + 1 + 1 + 1 + 1 + 1 := by
  obtain ⟨W, s1, a1, n1, c1, s2, a2, n2, c2, e1, e2, hW, b, v1, v2, v3, hs, -⟩ := boxes3 w hx hy
  refine ⟨_, s1, a1, n1, c1, s2, a2, n2, c2, e1, e2, by rw [← hW], (b.alloc b.size _).alloc ?_ _, (v1.alloc _).alloc _, (v2.alloc _).alloc _, (v3.va.alloc _).alloc _, (Va.new0 (by rw [hs])).alloc _, Va.new0 (by rw [World.size_alloc, hs]), by rw [World.size_alloc, World.size_alloc, hs]⟩
  rw [World.size_alloc]; have := b.size; omega

theorem ret_vx3 {fn : Func} {R : Ending → World → Prop} {a : Act} {w : World} {B C D : Nat} {x y z : Int} (hr : fn.results = #[.cell 4 56, .cell 5 56, .cell 6 56]) (ht : a.tmps.getD 4 undef = .pointer (some ⟨B, 0, none⟩)) (ht' : a.tmps.getD 5 undef = .pointer (some ⟨C, 0, none⟩)) (ht'' : a.tmps.getD 6 undef = .pointer (some ⟨D, 0, none⟩)) (hd : a.defers = [])
    (h : Vx w B x) (h' : Vx w C y) (h'' : Vx w D z) (hR : ∀ u v t, It w u x → It w v y → It w t z → R (.returned (.tuple #[u, v, t])) w) : bodyPost Tryz.prog fn R .ret a w := by
  obtain ⟨s, x1, n, c, h1, h2, h3⟩ := h
  obtain ⟨s', x', n', c', k1, k2, k3⟩ := h'
  obtain ⟨s'', x'', n'', c'', j1, j2, j3⟩ := h''
  refine bodyPost_ret ?_ hd (hR _ _ _ h2 k2 j2)
  have hl := load_int w B 0 _ _ h1.c0 h1.c1
  have kl := load_int w C 0 _ _ k1.c0 k1.c1
  have jl := load_int w D 0 _ _ j1.c0 j1.c1
  have ht1 : a.tmps[4]?.getD undef = .pointer (some ⟨B, 0, none⟩) := by simpa using ht
  have ht2 : a.tmps[5]?.getD undef = .pointer (some ⟨C, 0, none⟩) := by simpa using ht'
  have ht3 : a.tmps[6]?.getD undef = .pointer (some ⟨D, 0, none⟩) := by simpa using ht''
  have hA : ∀ B, (asAddr (.pointer (some ⟨B, 0, none⟩))).run Tryz.prog w = .ok ⟨B, 0, none⟩ w := fun _ => rfl
  simp [results, hr, ht1, ht2, ht3, hl, kl, jl, hA]

set_option maxRecDepth 100000 in
set_option maxHeartbeats 40000000 in
theorem bezout_any (va vb : Value) (x y : Int) (w : World) (hx : It w va x) (hy : It w vb y) (hy0 : y ≠ 0) (hsx : sz x ≤ 274877906944) (hsy : sz y ≤ 274877906944) :
    Calls Tryz.prog 87 #[va, vb] w fun e w' => ∃ vg vu vw u v, e = .returned (.tuple #[vg, vu, vw]) ∧ It w' vg (Int.gcd x y) ∧ It w' vu u ∧ It w' vw v ∧ BezP x y u v ∧ Below w.heap.size w w' := by
  obtain ⟨W, s1, a1, n1, c1, s2, a2, n2, c2, rfl, rfl, hW, b, vX, vY, v4, v5, v6, hs⟩ := boxes5 w hx hy
  clear hx hy
  have hz : ((sz y : Int) == 0) = false := by rw [beq_eq_false_iff_ne]; have := mt sz_zero.1 hy0; omega
  obtain ⟨ax, cx, x0, x1, x2, x3, ix⟩ := vX.szs
  obtain ⟨ay, cy, y0, y1, y2, y3, iy⟩ := vY.szs
  have zW := vY.lt
  have hs5 : w.heap.size + 5 ≤ W.heap.size := by omega
  clear hs
  go_enter Tryz.func87, Tryz.ntmps87
  go_upto_region 1 with fail
  rw [← hW]
  clear hW
  go_upto_region 3 with fail
  go_cut [7, 8] (fun s7 s8 wc => ∃ B7 B8 : Nat, s7 = .pointer (some ⟨B7, 0, none⟩) ∧ s8 = .pointer (some ⟨B8, 0, none⟩) ∧ B7 ≠ B8 ∧ w.heap.size + 5 ≤ B7 ∧ w.heap.size + 5 ≤ B8 ∧ Below w.heap.size w wc ∧
    Vx wc w.heap.size x ∧ Vx wc (w.heap.size + 1) y ∧ Va wc (w.heap.size + 1 + 1) ∧ Va wc (w.heap.size + 1 + 1 + 1) ∧ Va wc (w.heap.size + 1 + 1 + 1 + 1) ∧ Vx wc B7 (y.natAbs : Int) ∧ Vx wc B8 (x % y))
  case first =>
    --[
    as_aux_lemma =>
    go_region_held3 (fun w' => w'.cell? ⟨w.heap.size, 0, none⟩ = some (.bool (decide (x < 0))) ∧ w'.cell? ⟨w.heap.size, 1, none⟩ = some (.slice ax (sz x) cx) ∧ w'.cell? ⟨w.heap.size + 1, 0, none⟩ = some (.bool (decide (y < 0))) ∧ w'.cell? ⟨w.heap.size + 1, 1, none⟩ = some (.slice ay (sz y) cy))
    ((repeat' (first | with_reducible assumption | (with_reducible refine And.intro ?_ ?_) | (with_reducible refine cellD ?_) | (with_reducible refine cellN ?_ _) | (with_reducible refine cellS ?_ (by omega)) | (with_reducible refine keepc (by with_reducible assumption) ?_))))
    (first
      | (go_at_call 70; with_reducible (refine (abs_any _ y _ (by exact srch) (by exact Nat.le_trans hsy (by decide))).mono ?_); rintro e w2 ⟨q, rfl, hvq, hb2⟩; obtain ⟨hc2, hf2⟩ := bcell hb2; have z2 := hb2.size; (try simp only [World.size_alloc, World.size_drew, World.size_setCell] at z2); (try have y2 := Nat.lt_of_succ_le z2); (try have x2 := Nat.lt_of_succ_le (Nat.le_of_succ_le z2)); obtain ⟨sq, aq, nq, cq, rfl⟩ := hvq.shape)
      | (go_at_call 69; with_reducible (refine (mod_any _ _ x y _ (by exact srch) (by exact srch) (by exact hy0) (by exact Nat.le_trans hsx (by decide)) (by exact Nat.le_trans hsy (by decide))).mono ?_); rintro e w3 ⟨r, rfl, hvr, hb3⟩; obtain ⟨hc3, hf3⟩ := bcell hb3; have z3 := hb3.size; (try simp only [World.size_alloc, World.size_drew, World.size_setCell] at z3); (try have y3 := Nat.lt_of_succ_le z3); (try have x3 := Nat.lt_of_succ_le (Nat.le_of_succ_le z3)); (try have y2_3 := Nat.lt_of_lt_of_le y2 z3); (try have x2_3 := Nat.lt_of_lt_of_le x2 z3); (try have y2_3 := Nat.lt_of_lt_of_le y2 (Nat.le_of_succ_le z3)); (try have x2_3 := Nat.lt_of_lt_of_le x2 (Nat.le_of_succ_le z3)); (try have y2_3 := Nat.lt_of_lt_of_le y2 (Nat.le_of_succ_le (Nat.le_of_succ_le z3))); (try have x2_3 := Nat.lt_of_lt_of_le x2 (Nat.le_of_succ_le (Nat.le_of_succ_le z3))); obtain ⟨sr, ar, nr, cr, rfl⟩ := hvr.shape))
    all_goals go_wp2_with fail --A
    all_goals (go_meet; case rel => (refine ⟨_, _, rfl, rfl, by omega, by omega, by omega, ?_, ?_, ?_, ?_, ?_, ?_, ?_, ?_⟩ <;> exact srch)) --A
    --]
  case rest =>
    obtain ⟨B7, B8, rfl, rfl, hne, hl7, hl8, hbc, cX, cY, c4, c5, c6, c7, c8⟩ := hcut
    clear x0 x1 x2 x3 ix y0 y1 y2 y3 iy zW hs5 b vX vY v4 v5 v6
    have hszw := hbc.size
    have l7 := c7.lt
    have l8 := c8.lt
    have l6 := c6.choose_spec.lt
    go_wp2_with fail
    refine (intof_any 1 _ (by decide) (by decide)).mono ?_
    rintro e w4 ⟨v1, rfl, hv1, hb4⟩
    obtain ⟨t1, b1, m1, k1, rfl⟩ := hv1.shape
    have z4 := hb4.size
    simp only [World.size_alloc] at z4
    have y4 := Nat.lt_of_succ_le z4
    have d9 : Vx w4 wc.heap.size 0 := Vx.up (Vx.new0 rfl) hb4
    replace cX := (cX.alloc (.cells #[.bool false, .slice none 0 0] 56)).up hb4
    replace cY := (cY.alloc (.cells #[.bool false, .slice none 0 0] 56)).up hb4
    replace c4 := (c4.alloc (.cells #[.bool false, .slice none 0 0] 56)).up hb4
    replace c5 := (c5.alloc (.cells #[.bool false, .slice none 0 0] 56)).up hb4
    replace c6 := (c6.alloc (.cells #[.bool false, .slice none 0 0] 56)).up hb4
    replace c7 := (c7.alloc (.cells #[.bool false, .slice none 0 0] 56)).up hb4
    replace c8 := (c8.alloc (.cells #[.bool false, .slice none 0 0] 56)).up hb4
    replace hbc := Bl.up (Bl.alloc hbc (.cells #[.bool false, .slice none 0 0] 56)) hb4
    clear hb4
    go_wp2_with fail
    generalize wc.heap.size = B9 at l6 l7 l8 z4 y4 d9 hszw ⊢
    go_loopg [] (x % y).natAbs (fun k wr => ∃ g n u v : Int, k = n.natAbs ∧ Below w.heap.size w wr ∧ Vx wr w.heap.size x ∧ Vx wr (w.heap.size + 1) y ∧ Va wr (w.heap.size + 1 + 1) ∧ Va wr (w.heap.size + 1 + 1 + 1) ∧ Va wr (w.heap.size + 1 + 1 + 1 + 1) ∧
      Vx wr B7 g ∧ Vx wr B8 n ∧ Vx wr B9 u ∧ Vx wr w4.heap.size v ∧ BezI x y g n u v ∧ sz g ≤ 274877906944 ∧ sz n ≤ 274877906944)
    case atStart => exact ⟨y.natAbs, x % y, 0, 1, rfl, hbc.alloc hbc.size _, cX.alloc _, cY.alloc _, c4.alloc _, c5.alloc _, c6.alloc _, c7.alloc _, c8.alloc _, d9.alloc _, Vx.new rfl hv1, BezI.start x y hy0, Nat.le_trans (Nat.le_of_eq (sz_abs y)) hsy, Nat.le_trans (sz_mono (Nat.le_of_lt (mod_less x y hy0))) hsy⟩
    case round =>
      obtain ⟨g, n, u, v, rfl, hb, vX, vY, v4, v5, v6, v7, v8, v9, v10, hI, hsg, hsn⟩ := hrel
      clear cX cY c4 c5 c6 c7 c8 d9 hbc hv1
      obtain ⟨a7, m7, p0, p1, p2, p3, ip⟩ := v7.szs
      obtain ⟨a8, m8, q0, q1, q2, q3, iq⟩ := v8.szs
      have z7 := v10.lt
      by_cases hn : n = 0
      · subst hn
        rw [show sz 0 = 0 from rfl] at q1
        obtain ⟨D1, D2, D3, D4, D5⟩ := hI.done hy0
        have HD1 := Lib.hid D1
        have HD3 := Lib.hid D3
        have D6 := Int.emod_nonneg u D2
        have D7 := Int.emod_lt u D2
        clear D1 D3
        obtain ⟨a2', m2', y0, y1, y2, y3, iy⟩ := vY.szs
        have hsu := Nat.le_trans (sz_mono hI.bu) hsy
        have hg0 : g ≠ 0 := by have := hI.pos; omega
        have hzp : sz (y / g) ≤ 274877906944 := Nat.le_trans (sz_mono (by rw [Int.natAbs_ediv_of_dvd (by rw [HD1.out]; exact Int.gcd_dvd_right ..)]; exact Nat.div_le_self _ _)) hsy
        go_upto_region 11 with (first | (go_at_call 82; refine (divmod_any _ _ y g _ iy ip hg0 (Nat.le_trans hsy (by decide)) (Nat.le_trans hsg (by decide))).mono ?_; rintro e w5 ⟨vq, vr, rfl, hvq, hvr, hb5⟩; have z5 := hb5.size; obtain ⟨s3, a3, n3, k3, rfl⟩ := hvq.shape; obtain ⟨s4, a4, n4, k4, rfl⟩ := hvr.shape))
        obtain ⟨W6, hW6⟩ : ∃ W6, W6 = (w5.alloc (.cells #[.bool s3, .slice a3 n3 k3] 56)).alloc (.cells #[.bool s4, .slice a4 n4 k4] 56) := ⟨_, rfl⟩
        rw [← hW6]
        have hb6 : Below w.heap.size w W6 := by rw [hW6]; exact srch
        have gX : Vx W6 w.heap.size x := by rw [hW6]; exact srch
        have gY : Vx W6 (w.heap.size + 1) y := by rw [hW6]; exact srch
        have g4 : Va W6 (w.heap.size + 1 + 1) := by rw [hW6]; exact srch
        have g5 : Va W6 (w.heap.size + 1 + 1 + 1) := by rw [hW6]; exact srch
        have g6 : Va W6 (w.heap.size + 1 + 1 + 1 + 1) := by rw [hW6]; exact srch
        have g7 : Vx W6 B7 g := by rw [hW6]; exact srch
        have g9 : Vx W6 B9 u := by rw [hW6]; exact srch
        have g11 : Vx W6 w5.heap.size (y / g) := by rw [hW6]; exact (Vx.new rfl hvq).alloc _
        have z11 := g11.lt
        clear hW6 hvq hvr hb5 p0 p1 p2 p3 ip q0 q1 q2 q3 iq vX vY v4 v5 v6 v7 v8 v9 v10 hb y0 y1 y2 y3 iy
        obtain ⟨a9, m9, p0, p1, p2, p3, ip⟩ := g9.szs
        obtain ⟨a11, m11, q0, q1, q2, q3, iq⟩ := g11.szs
        go_wp2_with fail
        refine (mod_any _ _ u (y / g) _ ip iq D2 (Nat.le_trans hsu (by decide)) (Nat.le_trans hzp (by decide))).mono ?_
        rintro e w6 ⟨vu, rfl, hvu, hb7⟩
        have z6 := hb7.size
        obtain ⟨s5, a5, n5, k5, rfl⟩ := hvu.shape
        obtain ⟨sj, aj, nj, kj, j0, j1, j2, j3⟩ := Va.cells (show Va w6 B9 by exact srch)
        go_upto_region 12 with fail
        obtain ⟨W7, hW7⟩ : ∃ W7, W7 = (w6.setCell ⟨B9, 0, none⟩ (.bool s5)).setCell ⟨B9, 1, none⟩ (.slice a5 n5 k5) := ⟨_, rfl⟩
        rw [← hW7]
        have hl9 : w.heap.size ≤ B9 := by omega
        have hb8 : Below w.heap.size w W7 := by rw [hW7]; exact srch
        have eX : Vx W7 w.heap.size x := by rw [hW7]; exact srch
        have eY : Vx W7 (w.heap.size + 1) y := by rw [hW7]; exact srch
        have e4 : Va W7 (w.heap.size + 1 + 1) := by rw [hW7]; exact srch
        have e5 : Va W7 (w.heap.size + 1 + 1 + 1) := by rw [hW7]; exact srch
        have e6 : Va W7 (w.heap.size + 1 + 1 + 1 + 1) := by rw [hW7]; exact srch
        have e7 : Vx W7 B7 g := by rw [hW7]; exact srch
        have e9 : Vx W7 B9 (u % (y / g)) := by rw [hW7]; exact srch
        clear hW7 hvu hb7 j0 j1 j2 j3 p0 p1 p2 p3 ip q0 q1 q2 q3 iq gX gY g4 g5 g6 g7 g9 g11 z11 hb6 z6 z5 z7
        have z8 := hb8.size
        have z9 := e9.lt
        have hszu : sz (u % (y / g)) ≤ 274877906944 := Nat.le_trans (sz_mono D4) hsy
        have hszm : sz (u % (y / g) * x) ≤ 549755813888 := Nat.le_trans (sz_mul _ _) (by omega)
        have hszs : sz (g - u % (y / g) * x) ≤ 1099511627776 := Nat.le_trans (sz_sub _ _) (by omega)
        generalize hu' : u % (y / g) = u' at *
        clear hu'
        obtain ⟨aX, mX, p0, p1, p2, p3, ip⟩ := eX.szs
        obtain ⟨aY, mY, q0, q1, q2, q3, iq⟩ := eY.szs
        obtain ⟨aG, mG, r0, r1, r2, r3, ir⟩ := e7.szs
        obtain ⟨aU, mU, t0, t1, t2, t3, it⟩ := e9.szs
        go_cut [17] (fun s17 we => ∃ B17 : Nat, s17 = .pointer (some ⟨B17, 0, none⟩) ∧ w.heap.size + 5 ≤ B17 ∧ Below w.heap.size w we ∧ Vx we w.heap.size x ∧ Va we (w.heap.size + 1 + 1) ∧ Va we (w.heap.size + 1 + 1 + 1) ∧ Va we (w.heap.size + 1 + 1 + 1 + 1) ∧
          Vx we B7 g ∧ Vx we B9 u' ∧ Vx we B17 ((g - u' * x) / y))
        case first =>
          --[
          as_aux_lemma =>
          go_region_held3 (fun w' => w'.cell? ⟨w.heap.size, 0, none⟩ = some (.bool (decide (x < 0))) ∧ w'.cell? ⟨w.heap.size, 1, none⟩ = some (.slice aX (sz x) mX) ∧ w'.cell? ⟨w.heap.size + 1, 0, none⟩ = some (.bool (decide (y < 0))) ∧ w'.cell? ⟨w.heap.size + 1, 1, none⟩ = some (.slice aY (sz y) mY) ∧ w'.cell? ⟨B7, 0, none⟩ = some (.bool (decide (g < 0))) ∧ w'.cell? ⟨B7, 1, none⟩ = some (.slice aG (sz g) mG) ∧ w'.cell? ⟨B9, 0, none⟩ = some (.bool (decide (u' < 0))) ∧ w'.cell? ⟨B9, 1, none⟩ = some (.slice aU (sz u') mU))
            ((repeat' (first | with_reducible assumption | (with_reducible refine And.intro ?_ ?_) | (with_reducible refine cellD ?_) | (with_reducible refine cellN ?_ _) | (with_reducible refine cellS ?_ (by omega)) | (with_reducible refine keepc (by with_reducible assumption) ?_))))
            (first
              | (go_at_call 34; with_reducible (refine (mul_any _ _ u' x _ (by exact srch) (by exact srch) (by exact Nat.le_trans hszu (by decide)) (by exact Nat.le_trans hsx (by decide))).mono ?_); rintro e w2 ⟨q, rfl, hv2, hb2⟩; obtain ⟨hc2, hf2⟩ := bcell hb2; have z2 := hb2.size; (try simp only [World.size_alloc, World.size_drew, World.size_setCell] at z2); (try have y2 := Nat.lt_of_succ_le z2); (try have x2 := Nat.lt_of_succ_le (Nat.le_of_succ_le z2)); obtain ⟨s2, a2, n2, c2, rfl⟩ := hv2.shape)
              | (go_at_call 59; with_reducible (refine (sub_any _ _ g (u' * x) _ (by exact srch) (by exact srch) (by exact Nat.le_trans hsg (by decide)) (by exact Nat.le_trans hszm (by decide))).mono ?_); rintro e w3 ⟨r, rfl, hv3, hb3⟩; obtain ⟨hc3, hf3⟩ := bcell hb3; have z3 := hb3.size; (try simp only [World.size_alloc, World.size_drew, World.size_setCell] at z3); (try have y3 := Nat.lt_of_succ_le z3); (try have x3 := Nat.lt_of_succ_le (Nat.le_of_succ_le z3)); (try have y2_3 := Nat.lt_of_lt_of_le y2 z3); (try have x2_3 := Nat.lt_of_lt_of_le x2 z3); (try have y2_3 := Nat.lt_of_lt_of_le y2 (Nat.le_of_succ_le z3)); (try have x2_3 := Nat.lt_of_lt_of_le x2 (Nat.le_of_succ_le z3)); (try have y2_3 := Nat.lt_of_lt_of_le y2 (Nat.le_of_succ_le (Nat.le_of_succ_le z3))); (try have x2_3 := Nat.lt_of_lt_of_le x2 (Nat.le_of_succ_le (Nat.le_of_succ_le z3))); obtain ⟨s3, a3, n3, c3, rfl⟩ := hv3.shape)
              | (go_at_call 82; with_reducible (refine (divmod_any _ _ (g - u' * x) y _ (by exact srch) (by exact srch) (by exact hy0) (by exact hszs) (by exact Nat.le_trans hsy (by decide))).mono ?_); rintro e w4 ⟨vq, vr, rfl, hv4, hv4', hb4⟩; obtain ⟨hc4, hf4⟩ := bcell hb4; have z4 := hb4.size; (try simp only [World.size_alloc, World.size_drew, World.size_setCell] at z4); (try have y4 := Nat.lt_of_succ_le z4); (try have x4 := Nat.lt_of_succ_le (Nat.le_of_succ_le z4)); (try have y3_4 := Nat.lt_of_lt_of_le y3 z4); (try have x3_4 := Nat.lt_of_lt_of_le x3 z4); (try have y3_4 := Nat.lt_of_lt_of_le y3 (Nat.le_of_succ_le z4)); (try have x3_4 := Nat.lt_of_lt_of_le x3 (Nat.le_of_succ_le z4)); (try have y3_4 := Nat.lt_of_lt_of_le y3 (Nat.le_of_succ_le (Nat.le_of_succ_le z4))); (try have x3_4 := Nat.lt_of_lt_of_le x3 (Nat.le_of_succ_le (Nat.le_of_succ_le z4))); (try have y2_3_4 := Nat.lt_of_lt_of_le y2_3 z4); (try have x2_3_4 := Nat.lt_of_lt_of_le x2_3 z4); (try have y2_3_4 := Nat.lt_of_lt_of_le y2_3 (Nat.le_of_succ_le z4)); (try have x2_3_4 := Nat.lt_of_lt_of_le x2_3 (Nat.le_of_succ_le z4)); (try have y2_3_4 := Nat.lt_of_lt_of_le y2_3 (Nat.le_of_succ_le (Nat.le_of_succ_le z4))); (try have x2_3_4 := Nat.lt_of_lt_of_le x2_3 (Nat.le_of_succ_le (Nat.le_of_succ_le z4))); obtain ⟨s4, a4, n4, c4, rfl⟩ := hv4.shape; obtain ⟨s5, a5, n5, c5, rfl⟩ := hv4'.shape))
          all_goals go_wp2_with fail --B
          all_goals (go_meet; case rel => (refine ⟨_, rfl, by omega, ?_, ?_, ?_, ?_, ?_, ?_, ?_, ?_⟩ <;> exact srch)) --B
          --]
        case rest =>
          obtain ⟨B17, rfl, l17, hbe, fX, f4, f5, f6, f7, f9, f17⟩ := hcut
          clear eX eY e4 e5 e6 e7 e9 p0 p1 p2 p3 ip q0 q1 q2 q3 iq r0 r1 r2 r3 ir t0 t1 t2 t3 it hb8 z8 z9
          obtain ⟨a1', m1', p0, p1, p2, p3, ip⟩ := f7.szs
          obtain ⟨a2', m2', q0, q1, q2, q3, iq⟩ := f9.szs
          obtain ⟨a3', m3', r0, r1, r2, r3, ir⟩ := f17.szs
          obtain ⟨s4', a4', n4', k4', g0, g1, g2, g3⟩ := f4.cells
          obtain ⟨s5', a5', n5', k5', h0, h1, h2, h3⟩ := f5.cells
          obtain ⟨s6', a6', n6', k6', l0, l1, l2, l3⟩ := f6.cells
          go_upto_region 13 with fail
          go_region
          all_goals go_wp2_with fail
          all_goals (refine ret_vx3 (B := w.heap.size + 1 + 1) (C := w.heap.size + 1 + 1 + 1) (D := w.heap.size + 1 + 1 + 1 + 1) (x := g) (y := u') (z := (g - u' * x) / y) rfl rfl rfl rfl rfl ?_ ?_ ?_ (fun a b c ha hb hc => ⟨a, b, c, u', _, rfl, by rw [← HD1.out]; exact ha, hb, hc, ⟨HD3.out, D4, D5, D6, by rw [← HD1.out]; exact D7⟩, ?_⟩))
          all_goals exact srch
      · have hzn : (0 : Int) < (sz n : Int) := by have := mt sz_zero.1 hn; omega
        go_upto_region 8 with (first | (go_at_call 82; refine (divmod_any _ _ g n _ ip iq hn (Nat.le_trans hsg (by decide)) (Nat.le_trans hsn (by decide))).mono ?_; rintro e w5 ⟨vq, vr, rfl, hvq, hvr, hb5⟩; have z5 := hb5.size; obtain ⟨s3, a3, n3, k3, rfl⟩ := hvq.shape; obtain ⟨s4, a4, n4, k4, rfl⟩ := hvr.shape))
        obtain ⟨W6, hW6⟩ : ∃ W6, W6 = (w5.alloc (.cells #[.bool s3, .slice a3 n3 k3] 56)).alloc (.cells #[.bool s4, .slice a4 n4 k4] 56) := ⟨_, rfl⟩
        rw [← hW6]
        have hb6 : Below w.heap.size w W6 := by rw [hW6]; exact srch
        have gX : Vx W6 w.heap.size x := by rw [hW6]; exact srch
        have gY : Vx W6 (w.heap.size + 1) y := by rw [hW6]; exact srch
        have g4 : Va W6 (w.heap.size + 1 + 1) := by rw [hW6]; exact srch
        have g5 : Va W6 (w.heap.size + 1 + 1 + 1) := by rw [hW6]; exact srch
        have g6 : Va W6 (w.heap.size + 1 + 1 + 1 + 1) := by rw [hW6]; exact srch
        have g7 : Vx W6 B7 g := by rw [hW6]; exact srch
        have g8 : Vx W6 B8 n := by rw [hW6]; exact srch
        have g9 : Vx W6 B9 u := by rw [hW6]; exact srch
        have g10 : Vx W6 w4.heap.size v := by rw [hW6]; exact srch
        have g11 : Vx W6 w5.heap.size (g / n) := by rw [hW6]; exact (Vx.new rfl hvq).alloc _
        have g12 : Vx W6 (w5.heap.size + 1) (g % n) := by rw [hW6]; exact Vx.new (by simp) (hvr.alloc _)
        have z11 := g11.lt
        clear hW6 hvq hvr hb5 p0 p1 p2 p3 ip q0 q1 q2 q3 iq vX vY v4 v5 v6 v7 v8 v9 v10 hb
        obtain ⟨a7, m7, p0, p1, p2, p3, ip⟩ := g7.szs
        obtain ⟨a8, m8, q0, q1, q2, q3, iq⟩ := g8.szs
        obtain ⟨a12, m12, r0, r1, r2, r3, ir⟩ := g12.szs
        go_cut [] (fun wd => Below w.heap.size w wd ∧ Vx wd w.heap.size x ∧ Vx wd (w.heap.size + 1) y ∧ Va wd (w.heap.size + 1 + 1) ∧ Va wd (w.heap.size + 1 + 1 + 1) ∧ Va wd (w.heap.size + 1 + 1 + 1 + 1) ∧
          Vx wd B7 n ∧ Vx wd B8 (g % n) ∧ Vx wd B9 u ∧ Vx wd w4.heap.size v ∧ Vx wd w5.heap.size (g / n))
        case first =>
          go_region
          all_goals go_wp2_with fail
          all_goals (go_meet; case rel => (refine ⟨?_, ?_, ?_, ?_, ?_, ?_, ?_, ?_, ?_, ?_, ?_⟩ <;> exact srch))
        case rest =>
          obtain ⟨hbd, dX, dY, d4, d5, d6, d7, d8, d9, d10, d11⟩ := hcut
          clear g7 g8 g9 g10 g11 g12 gX gY g4 g5 g6 p0 p1 p2 p3 ip q0 q1 q2 q3 iq r0 r1 r2 r3 ir hb6
          obtain ⟨hI', hqv⟩ := hI.step hn
          have HV := Nat.le_trans (sz_mono hqv) hsy
          have hszu := Nat.le_trans (sz_mono hI.bu) hsy
          have hszv := Nat.le_trans (sz_mono hI'.bu) hsy
          have hszq : sz (g / n) ≤ 274877906944 := Nat.le_trans (sz_mono (by rw [Int.natAbs_ediv_of_nonneg (Int.le_of_lt hI.pos)]; exact Nat.div_le_self _ _)) hsg
          obtain ⟨a9, m9, p0, p1, p2, p3, ip⟩ := d9.szs
          obtain ⟨a10, m10, q0, q1, q2, q3, iq⟩ := d10.szs
          obtain ⟨a11, m11, r0, r1, r2, r3, ir⟩ := d11.szs
          have z12 := d11.lt
          go_upto_region 9 with fail
          obtain ⟨lv9, lv10⟩ : B9 < wc.heap.size ∧ w4.heap.size < wc.heap.size := ⟨d9.lt, d10.lt⟩
          refine wp_region_T (by kernel_rfl) [6, 7] (S := fun w' => w'.cell? ⟨B9, 0, none⟩ = some (.bool (decide (u < 0))) ∧ w'.cell? ⟨B9, 1, none⟩ = some (.slice a9 (sz u) m9) ∧ w'.cell? ⟨w4.heap.size, 0, none⟩ = some (.bool (decide (v < 0))) ∧ w'.cell? ⟨w4.heap.size, 1, none⟩ = some (.slice a10 (sz v) m10) ∧ w'.cell? ⟨w5.heap.size, 0, none⟩ = some (.bool (decide (g / n < 0))) ∧ w'.cell? ⟨w5.heap.size, 1, none⟩ = some (.slice a11 (sz (g / n)) m11)) ⟨p0, p1, q0, q1, r0, r1⟩ (fun hHeld => ?_)
          (refine wpAnyT_take (i := 0) (v := _) rfl (by as_aux_lemma => kernel_rfl) (by as_aux_lemma => kernel_rfl) (by as_aux_lemma => kernel_rfl) (by as_aux_lemma => kernel_rfl) (by as_aux_lemma => kernel_rfl) (fun _ _ _ h => h) (Or.inl ⟨by rfl, by (intro w hSw; (try dsimp only at hSw); go_simp; all_goals (with_reducible rfl))⟩) (by assumption) ?_; (try simp only [Act.put, List.setIfInBounds_toArray, List.set_cons_zero, List.set_cons_succ, List.getElem_toArray, List.getElem_cons_succ, List.getElem_cons_zero]))
          (refine wpAnyT_take (i := 1) (v := _) rfl (by as_aux_lemma => kernel_rfl) (by as_aux_lemma => kernel_rfl) (by as_aux_lemma => kernel_rfl) (by as_aux_lemma => kernel_rfl) (by as_aux_lemma => kernel_rfl) (fun _ _ _ h => h) (Or.inl ⟨by rfl, by (intro w hSw; (try dsimp only at hSw); go_simp; all_goals (with_reducible rfl))⟩) (by assumption) ?_; (try simp only [Act.put, List.setIfInBounds_toArray, List.set_cons_zero, List.set_cons_succ, List.getElem_toArray, List.getElem_cons_succ, List.getElem_cons_zero]))
          (refine wpAnyT_take (i := 2) (v := _) rfl (by as_aux_lemma => kernel_rfl) (by as_aux_lemma => kernel_rfl) (by as_aux_lemma => kernel_rfl) (by as_aux_lemma => kernel_rfl) (by as_aux_lemma => kernel_rfl) (fun _ _ _ h => h) (Or.inl ⟨by rfl, by (intro w hSw; (try dsimp only at hSw); go_simp; all_goals (with_reducible rfl))⟩) (by assumption) ?_; (try simp only [Act.put, List.setIfInBounds_toArray, List.set_cons_zero, List.set_cons_succ, List.getElem_toArray, List.getElem_cons_succ, List.getElem_cons_zero]))
          (refine wpAnyT_take (i := 3) (v := _) rfl (by as_aux_lemma => kernel_rfl) (by as_aux_lemma => kernel_rfl) (by as_aux_lemma => kernel_rfl) (by as_aux_lemma => kernel_rfl) (by as_aux_lemma => kernel_rfl) (fun _ _ _ h => h) (Or.inl ⟨by rfl, by (intro w hSw; (try dsimp only at hSw); go_simp; all_goals (with_reducible rfl))⟩) (by assumption) ?_; (try simp only [Act.put, List.setIfInBounds_toArray, List.set_cons_zero, List.set_cons_succ, List.getElem_toArray, List.getElem_cons_succ, List.getElem_cons_zero]))
          (refine wpAnyT_one (i := 4) (by as_aux_lemma => kernel_rfl) rfl (fun K hK => ?_); (try simp only [Act.put, List.setIfInBounds_toArray, List.set_cons_zero, List.set_cons_succ, List.getElem_toArray, List.getElem_cons_succ, List.getElem_cons_zero]); go_simp)
          refine (mul_any _ _ (g / n) v _ ir.drew iq.drew (by exact Nat.le_trans hszq (by decide)) (by exact Nat.le_trans hszv (by decide))).mono ?_
          rintro e w6 ⟨r, rfl, hv6, hb6⟩
          obtain ⟨s6, a6, n6, k6, rfl⟩ := hv6.shape
          replace p0 := keepc hb6 (cellD p0)
          replace p1 := keepc hb6 (cellD p1)
          replace q0 := keepc hb6 (cellD q0)
          replace q1 := keepc hb6 (cellD q1)
          replace r0 := keepc hb6 (cellD r0)
          replace r1 := keepc hb6 (cellD r1)
          go_wp2_with fail
          refine hK.out _ _ (fun _ => ⟨p0, p1, q0, q1, r0, r1⟩) ?_
          clear hK hHeld
          (try simp only [Act.put, List.setIfInBounds_toArray, List.set_cons_zero, List.set_cons_succ, List.getElem_toArray, List.getElem_cons_succ, List.getElem_cons_zero])
          (refine wpAnyT_one (i := 5) (by as_aux_lemma => kernel_rfl) rfl (fun K hK => ?_); (try simp only [Act.put, List.setIfInBounds_toArray, List.set_cons_zero, List.set_cons_succ, List.getElem_toArray, List.getElem_cons_succ, List.getElem_cons_zero]); go_simp)
          refine (sub_any _ _ u (g / n * v) _ (ip.drew.up hb6) hv6 (by exact Nat.le_trans hszu (by decide)) (by exact Nat.le_trans HV (by decide))).mono ?_
          rintro e w7 ⟨r, rfl, hv7, hb7⟩
          obtain ⟨s7, a7', n7, k7, rfl⟩ := hv7.shape
          replace p0 := keepc hb7 p0
          replace p1 := keepc hb7 p1
          replace q0 := keepc hb7 q0
          replace q1 := keepc hb7 q1
          replace r0 := keepc hb7 r0
          replace r1 := keepc hb7 r1
          have x9 := (d9.drew.up hb6).up hb7
          have x10 := (d10.drew.up hb6).up hb7
          obtain ⟨sj, aj, nj, kj, j0, j1, j2, j3, -⟩ := x9.cells
          obtain ⟨sl, al, nl, kl, l0, l1, l2, l3, il⟩ := x10.cells
          go_wp2_with fail
          refine hK.out _ _ (fun _ => ⟨p0, p1, q0, q1, r0, r1⟩) ?_
          clear hK r0 r1
          (try simp only [Act.put, List.setIfInBounds_toArray, List.set_cons_zero, List.set_cons_succ, List.getElem_toArray, List.getElem_cons_succ, List.getElem_cons_zero])
          clear j0 j1 l0 l1
          (refine wpAnyT_one (i := 6) (by as_aux_lemma => kernel_rfl) rfl (fun K hK => ?_); (try simp only [Act.put, List.setIfInBounds_toArray, List.set_cons_zero, List.set_cons_succ, List.getElem_toArray, List.getElem_cons_succ, List.getElem_cons_zero]); go_simp)
          go_wp2_with fail
          refine hK.out _ _ (fun h => absurd h (by decide)) ?_
          clear hK
          (try simp only [Act.put, List.setIfInBounds_toArray, List.set_cons_zero, List.set_cons_succ, List.getElem_toArray, List.getElem_cons_succ, List.getElem_cons_zero])
          obtain ⟨W8, hW8⟩ : ∃ W8, W8 = (w7.setCell ⟨B9, 0, none⟩ (.bool (decide (v < 0)))).setCell ⟨B9, 1, none⟩ (.slice a10 (sz v) m10) := ⟨_, rfl⟩
          rw [← hW8]
          have y9 : Vx W8 B9 v := by rw [hW8]; exact Vx.put x9.va ((iq.drew.up hb6).up hb7)
          have y10 : Vx W8 w4.heap.size v := by rw [hW8]; exact x10.other x9.va (by omega)
          have yr : It W8 (.agg #[.bool s7, .slice a7' n7 k7]) (u - g / n * v) := by rw [hW8]; exact hv7.st x9.va
          have z11 : Below w.heap.size w w7 := Bl.up (Bl.up (Bl.drew hbd) hb6) hb7
          have yb : Below w.heap.size w W8 := by rw [hW8]; exact Bl.st z11 (by omega)
          have yX : Vx W8 w.heap.size x := by rw [hW8]; exact ((dX.drew.up hb6).up hb7).other x9.va (by omega)
          have yY : Vx W8 (w.heap.size + 1) y := by rw [hW8]; exact ((dY.drew.up hb6).up hb7).other x9.va (by omega)
          have y4' : Va W8 (w.heap.size + 1 + 1) := by rw [hW8]; exact ((d4.drew.up hb6).up hb7).st x9.va (by omega)
          have y5' : Va W8 (w.heap.size + 1 + 1 + 1) := by rw [hW8]; exact ((d5.drew.up hb6).up hb7).st x9.va (by omega)
          have y6' : Va W8 (w.heap.size + 1 + 1 + 1 + 1) := by rw [hW8]; exact ((d6.drew.up hb6).up hb7).st x9.va (by omega)
          have y7' : Vx W8 B7 n := by rw [hW8]; exact ((d7.drew.up hb6).up hb7).other x9.va (by omega)
          have y8' : Vx W8 B8 (g % n) := by rw [hW8]; exact ((d8.drew.up hb6).up hb7).other x9.va (by omega)
          obtain ⟨sl', al', nl', kl', l0', l1', l2', l3', -⟩ := y10.cells
          clear hW8 x9 x10 hb6 hb7 hv6 hv7 dX dY d4 d5 d6 d7 d8 d9 d10 d11 p0 p1 q0 q1 z11 ip iq ir p2 p3 q2 q3 r2 r3 j2 j3 l2 l3 il
          (refine wpAnyT_one (i := 7) (by as_aux_lemma => kernel_rfl) rfl (fun K hK => ?_); (try simp only [Act.put, List.setIfInBounds_toArray, List.set_cons_zero, List.set_cons_succ, List.getElem_toArray, List.getElem_cons_succ, List.getElem_cons_zero]); go_simp)
          go_wp2_with fail
          refine hK.out _ _ (fun h => absurd h (by decide)) ?_
          clear hK
          (try simp only [Act.put, List.setIfInBounds_toArray, List.set_cons_zero, List.set_cons_succ, List.getElem_toArray, List.getElem_cons_succ, List.getElem_cons_zero])
          refine wpAnyT_done (by kernel_rfl) ?_ _
          go_wp2_with fail
          go_roundg (g % n).natAbs
          case measure => exact mod_less g n hn
          case rel => exact ⟨n, g % n, v, u - g / n * v, rfl, Bl.st yb (by omega), yX.other y10.va (by omega), yY.other y10.va (by omega), y4'.st y10.va (by omega), y5'.st y10.va (by omega), y6'.st y10.va (by omega), y7'.other y10.va (by omega), y8'.other y10.va (by omega), y9.other y10.va (by omega), Vx.put y10.va yr, hI', hsn, Nat.le_trans (sz_mono (Nat.le_of_lt (mod_less g n hn))) hsn⟩
end Go.Proofs.YtdbpkoddfcdhdaaGreat
