/-
  The reference: DivMod, Div, Mod.
  The reference: Cmp; a whole row appended; copied, zero.
  The reference: copied, zero, least.
-/
import Derived.Test.YtdbpkoddfcdhdaaGreatPH
import Derived.Test.YtdbpkoddfcdhdaaGreatRB
import Derived.Test.YtdbpkoddfcdhdaaGreatPN
import Derived.Test.YtdbpkoddfcdhdaaGreatQD
import Derived.Test.YtdbpkoddfcdhdaaGreatPI
import Derived.Test.YtdbpkoddfcdhdaaGreatPP
import Derived.Test.YtdbpkoddfcdhdaaGreatPY
set_option linter.unusedSimpArgs false
set_option linter.unusedVariables false

namespace Go.Proofs.YtdbpkoddfcdhdaaGreat
open Go.RowKit
attribute [local go_sem ↓] Go.wp_at_zero Go.wp_at_succ

set_option maxRecDepth 100000 in
set_option maxHeartbeats 4000000 in
theorem rdivmod_any (va vb : Value) (x y : Int) (w : World) (hx : It w va x) (hy : It w vb y) (hy0 : y ≠ 0) (hsx : sz x ≤ 1099511627776) (hsy : sz y ≤ 1099511627776) :
    Calls Tryz.prog 76 #[va, vb] w fun e w' => ∃ vq vr, e = .returned (.tuple #[vq, vr, .int .i64 0]) ∧ It w' vq (x / y) ∧ It w' vr (x % y) ∧ Below w.heap.size w w' := by
  obtain ⟨a, ca, f, rfl, h1, h2, h3, h4, h5⟩ := hx.parts
  obtain ⟨b, cb, g, rfl, k1, k2, k3, k4, k5⟩ := hy.parts
  have H5 := Lib.hid h5
  have K5 := Lib.hid k5
  clear h5 k5
  have hz : ((sz y : Int) == 0) = false := by rw [beq_eq_false_iff_ne]; have := mt sz_zero.1 hy0; omega
  obtain ⟨W, hW, hw, d1, d2, d3, d4, n1, n2, n3, n4, -⟩ := four_boxes w (decide (x < 0)) (decide (y < 0)) a b (sz x) (sz y) ca cb 56
  replace hx := hx.up hw
  replace hy := hy.up hw
  replace h2 := h2.up hw
  replace k2 := k2.up hw
  have p0 := d1.c0
  have p1 := d1.c1
  have p2 := d2.c1
  have p3 := d2.c0
  have hyp : 0 < nv g (sz y) := by rw [K5.out]; omega
  go_enter Tryz.func76, Tryz.ntmps76
  go_wp2_with fail
  rw [← hW]
  clear hW
  have vY := Vx.mk d2 hy n2
  have vQ := Vx.mk d3 (it_zero W) n3
  have vR := Vx.mk d4 (it_zero W) n4
  clear d1 d2 d3 d4 n1 n2 n3 n4 hx hy
  refine (divide_any a b (sz x) (sz y) ca cb f g W hsx hsy h1 k1 h2 k2 h3 k3 h4 k4 hyp).mono ?_
  rintro e w1 ⟨v, rfl, vq, vr, rfl, hq, hr, hb⟩
  rw [H5.out, K5.out] at hq hr
  obtain ⟨aq, nq, cq, fq, rfl, q1, q2, q3, q4, q5⟩ := hq
  obtain ⟨ar, nr, cr, fr, rfl, r1, r2, r3, r4, r5⟩ := hr
  clear h1 h2 h3 h4 k1 k2 k3 k4 H5 K5 hyp
  replace hw := Bl.up hw hb
  replace vY := vY.up hb
  replace vQ := vQ.up hb
  replace vR := vR.up hb
  replace p0 := keepc hb p0
  replace p3 := keepc hb p3
  clear p1 p2 hb
  go_upto_region 4 with fail
  obtain ⟨W2, hW2⟩ : ∃ W2, W2 = w1.alloc (.cells #[.slice aq nq cq, .slice ar nr cr] 104) := ⟨_, rfl⟩
  have hb : Below w1.heap.size w1 W2 := by rw [hW2]; exact below_new _ _
  have m0 : W2.cell? ⟨w1.heap.size, 0, none⟩ = some (.slice aq nq cq) := by rw [hW2, World.cell?_alloc_at _ _ _ _ rfl]; rfl
  have m1 : W2.cell? ⟨w1.heap.size, 1, none⟩ = some (.slice ar nr cr) := by rw [hW2, World.cell?_alloc_at _ _ _ _ rfl]; rfl
  rw [← hW2]
  clear hW2
  replace hw := Bl.up hw hb
  replace vY := vY.up hb
  replace vQ := vQ.up hb
  replace vR := vR.up hb
  replace p0 := keepc hb p0
  replace p3 := keepc hb p3
  replace q3 := q3.up hb
  replace r3 := r3.up hb
  clear hb
  generalize w1.heap.size = B7 at *
  go_wp2_with fail
  refine (made_any _ aq nq cq fq _ q1 (by omega) q3 q4).mono ?_
  rintro e w2 ⟨v, rfl, hv, hb⟩
  rw [q5] at hv
  obtain ⟨s8, a8, n8, c8, rfl⟩ := hv.shape
  replace hw := Bl.up hw hb
  replace vY := vY.up hb
  replace vQ := vQ.up hb
  replace vR := vR.up hb
  replace p0 := keepc hb p0
  replace p3 := keepc hb p3
  replace m1 := keepc hb m1
  replace r3 := r3.up hb
  clear hb q1 q2 q3 q4 q5 m0
  go_upto_region 5 with fail
  obtain ⟨W3, hW3⟩ : ∃ W3, W3 = w2.alloc (.cells #[.bool s8, .slice a8 n8 c8] 56) := ⟨_, rfl⟩
  have hb : Below w2.heap.size w2 W3 := by rw [hW3]; exact below_new _ _
  have v8 : Vx W3 w2.heap.size (sg (!(decide (x < 0) == decide (y < 0))) (x.natAbs / y.natAbs)) := by rw [hW3]; exact Vx.new rfl hv
  rw [← hW3]
  clear hW3 hv
  have y8 := vR.lt
  replace hw := Bl.up hw hb
  replace vY := vY.up hb
  replace vQ := vQ.up hb
  replace vR := vR.up hb
  replace p0 := keepc hb p0
  replace p3 := keepc hb p3
  replace m1 := keepc hb m1
  replace r3 := r3.up hb
  clear hb
  generalize w2.heap.size = B8 at *
  go_wp2_with fail
  refine (made_any _ ar nr cr fr _ r1 (by omega) r3 r4).mono ?_
  rintro e w3 ⟨v, rfl, hv, hb⟩
  rw [r5] at hv
  obtain ⟨s9, a9, n9, c9, rfl⟩ := hv.shape
  replace hw := Bl.up hw hb
  replace vY := vY.up hb
  replace vQ := vQ.up hb
  replace vR := vR.up hb
  replace v8 := v8.up hb
  replace p3 := keepc hb p3
  clear hb r1 r2 r3 r4 r5 m1 p0
  go_upto_region 6 with fail
  obtain ⟨W4, hW4⟩ : ∃ W4, W4 = w3.alloc (.cells #[.bool s9, .slice a9 n9 c9] 56) := ⟨_, rfl⟩
  have hb : Below w3.heap.size w3 W4 := by rw [hW4]; exact below_new _ _
  have v9 : Vx W4 w3.heap.size (sg (decide (x < 0)) (x.natAbs % y.natAbs)) := by rw [hW4]; exact Vx.new rfl hv
  rw [← hW4]
  clear hW4 hv
  have y9 := v8.lt
  replace hw := Bl.up hw hb
  replace vY := vY.up hb
  replace vQ := vQ.up hb
  replace vR := vR.up hb
  replace v8 := v8.up hb
  replace p3 := keepc hb p3
  clear hb
  generalize w3.heap.size = B9 at *
  have hr0 : sz (sg (decide (x < 0)) (x.natAbs % y.natAbs)) ≤ 2199023255552 := by
    rw [sz_sg]
    exact Nat.le_trans (words_mono (Nat.mod_le _ _)) (Nat.le_trans hsx (by decide))
  have hq0 : sz (sg (!(decide (x < 0) == decide (y < 0))) (x.natAbs / y.natAbs)) ≤ 2199023255552 := by
    rw [sz_sg]
    exact Nat.le_trans (words_mono (Nat.div_le_self _ _)) (Nat.le_trans hsx (by decide))
  have hya : sz (y.natAbs : Int) ≤ 2199023255552 := Nat.le_trans (Nat.le_of_eq (sz_abs y)) (Nat.le_trans hsy (by decide))
  clear hsx
  obtain ⟨s10, a10, n10, k10, e0, e1, e2, e3, i10⟩ := v9.cells
  have es := i10.sgn
  by_cases hneg : sg (decide (x < 0)) (x.natAbs % y.natAbs) < 0
  · obtain ⟨v1, v2⟩ := divmod_neg x y hy0 hneg
    have V1 := Lib.hid v1
    have V2 := Lib.hid v2
    have es' : s10 = true := by rw [es]; simpa using hneg
    subst es'
    clear es hneg v1 v2
    obtain ⟨sy, ay, ny, ky, y0, y1, -, -, iy⟩ := vY.cells
    clear p3
    generalize sg (decide (x < 0)) (x.natAbs % y.natAbs) = r0 at *
    generalize sg (!(decide (x < 0) == decide (y < 0))) (x.natAbs / y.natAbs) = q0 at *
    go_upto_region 7 with fail
    refine wp_region_T (by kernel_rfl) [4] (S := fun w' => w'.cell? ⟨B9, 0, none⟩ = some (.bool true) ∧ w'.cell? ⟨B9, 1, none⟩ = some (.slice a10 n10 k10) ∧ w'.cell? ⟨w.heap.size + 1, 0, none⟩ = some (.bool sy) ∧ w'.cell? ⟨w.heap.size + 1, 1, none⟩ = some (.slice ay ny ky)) ⟨e0, e1, y0, y1⟩ (fun hHeld => ?_)
    (refine tK 0 rfl ?_; (try simp only [lay, List.getElem_toArray, List.getElem_cons_succ, List.getElem_cons_zero]))
    (refine tK 1 rfl ?_; (try simp only [lay, List.getElem_toArray, List.getElem_cons_succ, List.getElem_cons_zero]))
    (refine wpAnyT_one (i := 2) (by as_aux_lemma => kernel_rfl) rfl (fun K hK => ?_); (try simp only [lay, List.getElem_toArray, List.getElem_cons_succ, List.getElem_cons_zero]); go_simp)
    refine (rabs_any _ y _ iy.drew (Nat.le_trans hsy (by decide))).mono ?_
    rintro e w4 ⟨r1, rfl, hr1, hb⟩
    obtain ⟨s3, a3, n3, c3, rfl⟩ := hr1.shape
    replace e0 := keepc hb (cellD e0)
    replace e1 := keepc hb (cellD e1)
    replace y0 := keepc hb (cellD y0)
    replace y1 := keepc hb (cellD y1)
    replace i10 := i10.drew.up hb
    replace hw := Bl.up (Bl.drew hw) hb
    replace vY := vY.drew.up hb
    replace vQ := vQ.drew.up hb
    replace vR := vR.drew.up hb
    replace v8 := v8.drew.up hb
    replace v9 := v9.drew.up hb
    clear hb
    go_wp2_with fail
    refine hK.out _ _ (fun _ => ⟨e0, e1, y0, y1⟩) ?_
    have hHeld4 : w4.cell? ⟨B9, 0, none⟩ = some (.bool true) ∧ w4.cell? ⟨B9, 1, none⟩ = some (.slice a10 n10 k10) ∧ w4.cell? ⟨w.heap.size + 1, 0, none⟩ = some (.bool sy) ∧ w4.cell? ⟨w.heap.size + 1, 1, none⟩ = some (.slice ay ny ky) := ⟨e0, e1, y0, y1⟩
    clear hK hHeld
    (try simp only [lay, List.getElem_toArray, List.getElem_cons_succ, List.getElem_cons_zero])
    (refine wpAnyT_one (i := 3) (by as_aux_lemma => kernel_rfl) rfl (fun K hK => ?_); (try simp only [lay, List.getElem_toArray, List.getElem_cons_succ, List.getElem_cons_zero]); go_simp)
    refine (radd_any _ _ r0 (y.natAbs : Int) _ i10 hr1 hr0 hya).mono ?_
    rintro e w5 ⟨r2, rfl, hr2, hb⟩
    rw [V2.out] at hr2
    obtain ⟨s4, a4, n4, c4, rfl⟩ := hr2.shape
    replace e0 := keepc hb e0
    replace e1 := keepc hb e1
    replace y0 := keepc hb y0
    replace y1 := keepc hb y1
    replace hw := Bl.up hw hb
    replace vY := vY.up hb
    replace vQ := vQ.up hb
    replace vR := vR.up hb
    replace v8 := v8.up hb
    replace v9 := v9.up hb
    clear hb i10
    obtain ⟨f2, f3⟩ := v9.va.free
    go_wp2_with fail
    refine hK.out _ _ (fun _ => ⟨e0, e1, y0, y1⟩) ?_
    clear hK hHeld4
    (try simp only [lay, List.getElem_toArray, List.getElem_cons_succ, List.getElem_cons_zero])
    (refine wpAnyT_one (i := 4) (by as_aux_lemma => kernel_rfl) rfl (fun K hK => ?_); (try simp only [lay, List.getElem_toArray, List.getElem_cons_succ, List.getElem_cons_zero]); go_simp)
    go_wp2_with fail
    refine hK.out _ _ (fun h => absurd h (by decide)) ?_
    clear hK
    (try simp only [lay, List.getElem_toArray, List.getElem_cons_succ, List.getElem_cons_zero])
    refine wpAnyT_done (by kernel_rfl) ?_ _
    have z8 := v8.lt
    have w9 := Vx.put v9.va hr2
    have w8 := v8.other v9.va (s := s4) (a := a4) (n := n4) (c := c4) (by omega)
    have wY := vY.other v9.va (s := s4) (a := a4) (n := n4) (c := c4) (by omega)
    have wQ := vQ.other v9.va (s := s4) (a := a4) (n := n4) (c := c4) (by omega)
    have wR := vR.other v9.va (s := s4) (a := a4) (n := n4) (c := c4) (by omega)
    have hw' := Bl.st hw (s := s4) (a := a4) (n := n4) (c := c4) (show w.heap.size ≤ B9 by omega)
    clear v8 v9 vY vQ vR hw e0 e1 e2 e3 y0 y1 f2 f3 hr1 hr2 iy
    generalize (w5.setCell ⟨B9, 0, none⟩ (.bool s4)).setCell ⟨B9, 1, none⟩ (.slice a4 n4 c4) = wa at *
    obtain ⟨sz', ay, ny, ky, y0, y1, -, -, iy⟩ := wY.cells
    have y0'' : sz' = decide (y < 0) := iy.sgn
    obtain ⟨s1, a1, n1, k1, f0, f1, f2, f3, i1⟩ := w8.cells
    by_cases hyn : y < 0
    · rw [decide_eq_true hyn] at y0''
      subst y0''
      rw [cmpI_lt hyn] at V1
      go_upto_region 9 with fail
      refine wp_region_T (by kernel_rfl) [3] (S := fun w' => w'.cell? ⟨B8, 0, none⟩ = some (.bool s1) ∧ w'.cell? ⟨B8, 1, none⟩ = some (.slice a1 n1 k1)) ⟨f0, f1⟩ (fun hHeld => ?_)
      (refine tK 0 rfl ?_; (try simp only [lay, List.getElem_toArray, List.getElem_cons_succ, List.getElem_cons_zero]))
      (refine wpAnyT_one (i := 1) (by as_aux_lemma => kernel_rfl) rfl (fun K hK => ?_); (try simp only [lay, List.getElem_toArray, List.getElem_cons_succ, List.getElem_cons_zero]); go_simp)
      refine (rof_any 1 _ (by decide) (by decide)).mono ?_
      rintro e w6 ⟨r1, rfl, hr1, hb⟩
      obtain ⟨s3, a3, n3, c3, rfl⟩ := hr1.shape
      replace f0 := keepc hb (cellD f0)
      replace f1 := keepc hb (cellD f1)
      replace i1 := i1.drew.up hb
      replace hw' := Bl.up (Bl.drew hw') hb
      replace wQ := wQ.drew.up hb
      replace wR := wR.drew.up hb
      replace w8 := w8.drew.up hb
      replace w9 := w9.drew.up hb
      clear hb wY y0 y1 iy
      go_wp2_with fail
      refine hK.out _ _ (fun _ => ⟨f0, f1⟩) ?_
      have hHeld4 : w6.cell? ⟨B8, 0, none⟩ = some (.bool s1) ∧ w6.cell? ⟨B8, 1, none⟩ = some (.slice a1 n1 k1) := ⟨f0, f1⟩
      clear hK hHeld
      (try simp only [lay, List.getElem_toArray, List.getElem_cons_succ, List.getElem_cons_zero])
      (refine wpAnyT_one (i := 2) (by as_aux_lemma => kernel_rfl) rfl (fun K hK => ?_); (try simp only [lay, List.getElem_toArray, List.getElem_cons_succ, List.getElem_cons_zero]); go_simp)
      refine (radd_any _ _ q0 1 _ i1 hr1 hq0 (by decide)).mono ?_
      rintro e w7 ⟨r2, rfl, hr2, hb⟩
      rw [show q0 + 1 = x / y by have := V1.out; omega] at hr2
      obtain ⟨s5, a5, n5, c5, rfl⟩ := hr2.shape
      replace f0 := keepc hb f0
      replace f1 := keepc hb f1
      replace hw' := Bl.up hw' hb
      replace wQ := wQ.up hb
      replace wR := wR.up hb
      replace w8 := w8.up hb
      replace w9 := w9.up hb
      clear hb i1 f2 f3
      obtain ⟨f2, f3⟩ := w8.va.free
      go_wp2_with fail
      refine hK.out _ _ (fun _ => ⟨f0, f1⟩) ?_
      clear hK hHeld4
      (try simp only [lay, List.getElem_toArray, List.getElem_cons_succ, List.getElem_cons_zero])
      (refine wpAnyT_one (i := 3) (by as_aux_lemma => kernel_rfl) rfl (fun K hK => ?_); (try simp only [lay, List.getElem_toArray, List.getElem_cons_succ, List.getElem_cons_zero]); go_simp)
      go_wp2_with fail
      refine hK.out _ _ (fun h => absurd h (by decide)) ?_
      clear hK
      (try simp only [lay, List.getElem_toArray, List.getElem_cons_succ, List.getElem_cons_zero])
      refine wpAnyT_done (by kernel_rfl) ?_ _
      have v8 := Vx.put w8.va hr2
      have v9 := w9.other w8.va (s := s5) (a := a5) (n := n5) (c := c5) (by omega)
      have vQ := wQ.other w8.va (s := s5) (a := a5) (n := n5) (c := c5) (by omega)
      have vR := wR.other w8.va (s := s5) (a := a5) (n := n5) (c := c5) (by omega)
      have hw := Bl.st hw' (s := s5) (a := a5) (n := n5) (c := c5) (show w.heap.size ≤ B8 by omega)
      clear w8 w9 wQ wR hw' f0 f1 f2 f3 hr1 hr2
      generalize (w7.setCell ⟨B8, 0, none⟩ (.bool s5)).setCell ⟨B8, 1, none⟩ (.slice a5 n5 c5) = wc at *
      obtain ⟨s1, a1, n1, k1, f0, f1, f2, f3, i1⟩ := v8.cells
      obtain ⟨s2, a2, n2, k2, g0, g1, g2, g3, i2⟩ := v9.cells
      obtain ⟨s3, a3, n3, k3, l0, l1, l2, l3, i3⟩ := vQ.cells
      obtain ⟨s4, a4, n4, k4, m0, m1, m2, m3, i4⟩ := vR.cells
      go_upto_region 11 with fail
      go_region
      all_goals go_wp2_with fail
      all_goals (refine ret_vx2e (B := w.heap.size + 1 + 1) (C := w.heap.size + 1 + 1 + 1) (y := x / y) (z := x % y) rfl rfl rfl rfl rfl ?_ ?_ (fun u v hu hv => ⟨u, v, rfl, hu, hv, ?_⟩))
      all_goals exact srch
    · rw [decide_eq_false hyn] at y0''
      subst y0''
      rw [cmpI_gt (by omega)] at V1
      go_upto_region 10 with fail
      refine wp_region_T (by kernel_rfl) [3] (S := fun w' => w'.cell? ⟨B8, 0, none⟩ = some (.bool s1) ∧ w'.cell? ⟨B8, 1, none⟩ = some (.slice a1 n1 k1)) ⟨f0, f1⟩ (fun hHeld => ?_)
      (refine tK 0 rfl ?_; (try simp only [lay, List.getElem_toArray, List.getElem_cons_succ, List.getElem_cons_zero]))
      (refine wpAnyT_one (i := 1) (by as_aux_lemma => kernel_rfl) rfl (fun K hK => ?_); (try simp only [lay, List.getElem_toArray, List.getElem_cons_succ, List.getElem_cons_zero]); go_simp)
      refine (rof_any 1 _ (by decide) (by decide)).mono ?_
      rintro e w6 ⟨r1, rfl, hr1, hb⟩
      obtain ⟨s3, a3, n3, c3, rfl⟩ := hr1.shape
      replace f0 := keepc hb (cellD f0)
      replace f1 := keepc hb (cellD f1)
      replace i1 := i1.drew.up hb
      replace hw' := Bl.up (Bl.drew hw') hb
      replace wQ := wQ.drew.up hb
      replace wR := wR.drew.up hb
      replace w8 := w8.drew.up hb
      replace w9 := w9.drew.up hb
      clear hb wY y0 y1 iy
      go_wp2_with fail
      refine hK.out _ _ (fun _ => ⟨f0, f1⟩) ?_
      have hHeld4 : w6.cell? ⟨B8, 0, none⟩ = some (.bool s1) ∧ w6.cell? ⟨B8, 1, none⟩ = some (.slice a1 n1 k1) := ⟨f0, f1⟩
      clear hK hHeld
      (try simp only [lay, List.getElem_toArray, List.getElem_cons_succ, List.getElem_cons_zero])
      (refine wpAnyT_one (i := 2) (by as_aux_lemma => kernel_rfl) rfl (fun K hK => ?_); (try simp only [lay, List.getElem_toArray, List.getElem_cons_succ, List.getElem_cons_zero]); go_simp)
      refine (rsub_any _ _ q0 1 _ i1 hr1 hq0 (by decide)).mono ?_
      rintro e w7 ⟨r2, rfl, hr2, hb⟩
      rw [show q0 - 1 = x / y by have := V1.out; omega] at hr2
      obtain ⟨s5, a5, n5, c5, rfl⟩ := hr2.shape
      replace f0 := keepc hb f0
      replace f1 := keepc hb f1
      replace hw' := Bl.up hw' hb
      replace wQ := wQ.up hb
      replace wR := wR.up hb
      replace w8 := w8.up hb
      replace w9 := w9.up hb
      clear hb i1 f2 f3
      obtain ⟨f2, f3⟩ := w8.va.free
      go_wp2_with fail
      refine hK.out _ _ (fun _ => ⟨f0, f1⟩) ?_
      clear hK hHeld4
      (try simp only [lay, List.getElem_toArray, List.getElem_cons_succ, List.getElem_cons_zero])
      (refine wpAnyT_one (i := 3) (by as_aux_lemma => kernel_rfl) rfl (fun K hK => ?_); (try simp only [lay, List.getElem_toArray, List.getElem_cons_succ, List.getElem_cons_zero]); go_simp)
      go_wp2_with fail
      refine hK.out _ _ (fun h => absurd h (by decide)) ?_
      clear hK
      (try simp only [lay, List.getElem_toArray, List.getElem_cons_succ, List.getElem_cons_zero])
      refine wpAnyT_done (by kernel_rfl) ?_ _
      have v8 := Vx.put w8.va hr2
      have v9 := w9.other w8.va (s := s5) (a := a5) (n := n5) (c := c5) (by omega)
      have vQ := wQ.other w8.va (s := s5) (a := a5) (n := n5) (c := c5) (by omega)
      have vR := wR.other w8.va (s := s5) (a := a5) (n := n5) (c := c5) (by omega)
      have hw := Bl.st hw' (s := s5) (a := a5) (n := n5) (c := c5) (show w.heap.size ≤ B8 by omega)
      clear w8 w9 wQ wR hw' f0 f1 f2 f3 hr1 hr2
      generalize (w7.setCell ⟨B8, 0, none⟩ (.bool s5)).setCell ⟨B8, 1, none⟩ (.slice a5 n5 c5) = wc at *
      obtain ⟨s1, a1, n1, k1, f0, f1, f2, f3, i1⟩ := v8.cells
      obtain ⟨s2, a2, n2, k2, g0, g1, g2, g3, i2⟩ := v9.cells
      obtain ⟨s3, a3, n3, k3, l0, l1, l2, l3, i3⟩ := vQ.cells
      obtain ⟨s4, a4, n4, k4, m0, m1, m2, m3, i4⟩ := vR.cells
      go_upto_region 11 with fail
      go_region
      all_goals go_wp2_with fail
      all_goals (refine ret_vx2e (B := w.heap.size + 1 + 1) (C := w.heap.size + 1 + 1 + 1) (y := x / y) (z := x % y) rfl rfl rfl rfl rfl ?_ ?_ (fun u v hu hv => ⟨u, v, rfl, hu, hv, ?_⟩))
      all_goals exact srch
  · obtain ⟨v1, v2⟩ := divmod_pos x y hy0 hneg
    rw [v1] at v8
    rw [v2] at v9 i10
    have es' : s10 = false := by rw [es]; simpa using hneg
    subst es'
    clear es hneg v1 v2 hq0 hr0 p3 vY
    obtain ⟨s1, a1, n1, k1, f0, f1, f2, f3, i1⟩ := v8.cells
    obtain ⟨s2, a2, n2, k2, g0, g1, g2, g3, i2⟩ := v9.cells
    obtain ⟨s3, a3, n3, k3, l0, l1, l2, l3, i3⟩ := vQ.cells
    obtain ⟨s4, a4, n4, k4, m0, m1, m2, m3, i4⟩ := vR.cells
    go_upto_region 11 with fail
    go_region
    all_goals go_wp2_with fail
    all_goals (refine ret_vx2e (B := w.heap.size + 1 + 1) (C := w.heap.size + 1 + 1 + 1) (y := x / y) (z := x % y) rfl rfl rfl rfl rfl ?_ ?_ (fun u v hu hv => ⟨u, v, rfl, hu, hv, ?_⟩))
    all_goals exact srch

theorem rdiv_any (va vb : Value) (x y : Int) (w : World) (hx : It w va x) (hy : It w vb y) (hy0 : y ≠ 0) (hsx : sz x ≤ 1099511627776) (hsy : sz y ≤ 1099511627776) :
    Calls Tryz.prog 39 #[va, vb] w fun e w' => ∃ v, e = .returned v ∧ It w' v (x / y) ∧ Below w.heap.size w w' := by
  obtain ⟨W, s1, a1, n1, c1, s2, a2, n2, c2, rfl, rfl, hW, b, vX, vY, vR, hs, p0, p1, q0, q1, hx', hy'⟩ := boxes3 w hx hy
  clear hx hy
  go_enter Tryz.func39, Tryz.ntmps39
  go_wp2_with fail
  rw [← hW]
  clear hW
  refine (rdivmod_any _ _ x y W hx' hy' hy0 hsx hsy).mono ?_
  rintro e w1 ⟨vq, vr, rfl, hq, hr, hb1⟩
  have z1 := hb1.size
  rw [hs] at z1
  obtain ⟨sq, aq, nq, cq, rfl⟩ := hq.shape
  obtain ⟨sr, ar, nr, cr, rfl⟩ := hr.shape
  replace vR := vR.up hb1
  have hbw := Bl.up b hb1
  obtain ⟨s3, a3, n3, k3, g0, g1, g2, g3, -⟩ := vR.cells
  have t3 := vR.lt
  have t4 : w.heap.size + 1 + 1 ≤ w1.heap.size := Nat.le_of_lt t3
  have t5 : w.heap.size + 1 < w1.heap.size := t4
  clear p0 p1 q0 q1 vX vY hr
  go_wp2_with fail
  refine ret_vx (B := w.heap.size + 1 + 1) (z := x / y) rfl rfl rfl ?_ (fun v hv => ⟨v, rfl, hv, ?_⟩)
  all_goals exact srch

theorem rmod_any (va vb : Value) (x y : Int) (w : World) (hx : It w va x) (hy : It w vb y) (hy0 : y ≠ 0) (hsx : sz x ≤ 1099511627776) (hsy : sz y ≤ 1099511627776) :
    Calls Tryz.prog 74 #[va, vb] w fun e w' => ∃ v, e = .returned v ∧ It w' v (x % y) ∧ Below w.heap.size w w' := by
  obtain ⟨W, s1, a1, n1, c1, s2, a2, n2, c2, rfl, rfl, hW, b, vX, vY, vR, hs, p0, p1, q0, q1, hx', hy'⟩ := boxes3 w hx hy
  clear hx hy
  go_enter Tryz.func74, Tryz.ntmps74
  go_wp2_with fail
  rw [← hW]
  clear hW
  refine (rdivmod_any _ _ x y W hx' hy' hy0 hsx hsy).mono ?_
  rintro e w1 ⟨vq, vr, rfl, hq, hr, hb1⟩
  have z1 := hb1.size
  rw [hs] at z1
  obtain ⟨sq, aq, nq, cq, rfl⟩ := hq.shape
  obtain ⟨sr, ar, nr, cr, rfl⟩ := hr.shape
  replace vR := vR.up hb1
  have hbw := Bl.up b hb1
  obtain ⟨s3, a3, n3, k3, g0, g1, g2, g3, -⟩ := vR.cells
  have t3 := vR.lt
  have t4 : w.heap.size + 1 + 1 ≤ w1.heap.size := Nat.le_of_lt t3
  have t5 : w.heap.size + 1 < w1.heap.size := t4
  clear p0 p1 q0 q1 vX vY hq
  go_wp2_with fail
  refine ret_vx (B := w.heap.size + 1 + 1) (z := x % y) rfl rfl rfl ?_ (fun v hv => ⟨v, rfl, hv, ?_⟩)
  all_goals exact srch
end Go.Proofs.YtdbpkoddfcdhdaaGreat

namespace Go.Proofs.YtdbpkoddfcdhdaaGreat
open Go.RowKit
attribute [local go_sem ↓] Go.wp_at_zero Go.wp_at_succ

set_option maxRecDepth 100000 in
set_option maxHeartbeats 2000000 in
theorem rcmp_any (va vb : Value) (x y : Int) (w : World) (hx : It w va x) (hy : It w vb y) (hsx : sz x ≤ 4611686018427387904) (hsy : sz y ≤ 4611686018427387904) :
    Calls Tryz.prog 86 #[va, vb] w fun e w' => e = .returned (.int .i64 (cmpI x y)) ∧ Below w.heap.size w w' := by
  obtain ⟨a, ca, f, rfl, h1, h2, h3, h4, h5⟩ := hx.parts
  obtain ⟨b, cb, g, rfl, k1, k2, k3, k4, k5⟩ := hy.parts
  have H5 := Lib.hid h5
  have K5 := Lib.hid k5
  clear h5 k5 hx hy
  obtain ⟨W, hW, hw, d1, d2, n1, n2, -⟩ := two_boxes w (decide (x < 0)) (decide (y < 0)) a b (sz x) (sz y) ca cb 56
  replace h2 := h2.up hw
  replace k2 := k2.up hw
  have p0 := d1.c0
  have p1 := d1.c1
  have q0 := d2.c0
  have q1 := d2.c1
  by_cases c1 : x < 0
  · by_cases c2 : y < 0
    · have e1 : decide (x < 0) = true := decide_eq_true c1
      have e2 : decide (y < 0) = true := decide_eq_true c2
      simp only [e1, e2] at hW p0 q0 ⊢
      clear e1 e2
      go_enter Tryz.func86, Tryz.ntmps86
      go_wp2_with fail
      rw [← hW]
      clear hW
      refine (size_any b a (sz y) (sz x) cb ca g f _ hsy hsx k2 h2 k3 h3 k4 h4).mono ?_
      rintro e w5 ⟨rfl, nk, rfl⟩
      rw [K5.out, H5.out]
      clear p0 p1 q0 q1
      go_wp2_with fail
      go_ret
      refine ⟨ret_of ?_, Below.drewN hw nk⟩
      show Value.int .i64 (cmpI (y.natAbs : Int) (x.natAbs : Int)) = _
      congr 1
      unfold cmpI
      split <;> split <;> (try split) <;> (try split) <;> omega
    · have e1 : decide (x < 0) = true := decide_eq_true c1
      have e2 : decide (y < 0) = false := decide_eq_false c2
      simp only [e1, e2] at hW p0 q0 ⊢
      clear e1 e2
      go_enter Tryz.func86, Tryz.ntmps86
      go_wp2_with fail
      rw [← hW]
      go_ret
      exact ⟨ret_of (by rw [cmpI_lt (by omega)]; rfl), hw⟩
  · by_cases c2 : y < 0
    · have e1 : decide (x < 0) = false := decide_eq_false c1
      have e2 : decide (y < 0) = true := decide_eq_true c2
      simp only [e1, e2] at hW p0 q0 ⊢
      clear e1 e2
      go_enter Tryz.func86, Tryz.ntmps86
      go_wp2_with fail
      rw [← hW]
      go_ret
      exact ⟨ret_of (by rw [cmpI_gt (by omega)]; rfl), hw⟩
    · have e1 : decide (x < 0) = false := decide_eq_false c1
      have e2 : decide (y < 0) = false := decide_eq_false c2
      simp only [e1, e2] at hW p0 q0 ⊢
      clear e1 e2
      go_enter Tryz.func86, Tryz.ntmps86
      go_wp2_with fail
      rw [← hW]
      clear hW
      refine (size_any a b (sz x) (sz y) ca cb f g _ hsx hsy h2 k2 h3 k3 h4 k4).mono ?_
      rintro e w5 ⟨rfl, nk, rfl⟩
      rw [K5.out, H5.out]
      clear p0 p1 q0 q1
      go_wp2_with fail
      go_ret
      refine ⟨ret_of ?_, Below.drewN hw nk⟩
      show Value.int .i64 (cmpI (x.natAbs : Int) (y.natAbs : Int)) = _
      congr 1
      unfold cmpI
      split <;> split <;> (try split) <;> (try split) <;> omega

theorem run_apRow {w : World} {base : Nat} {v : Value} {l0 l : List Int} (t ty : TypeId) (ht : Tryz.prog.underlying t = some (.slice 56)) (h : Ap w base v l0) (hbase : base ≤ w.heap.size) {a : Option Addr} {N c1 : Nat}
    (hr : Rw w (.slice a N c1) l) (h0 : 0 < N) (hl : l0.length + N ≤ 1099511627776) :
    ∃ g cap w', (Builtin.append_ #[t, t] ty #[v, .slice a N c1]).run Tryz.prog w = .ok (.slice (some ⟨g, 0, none⟩) (l0.length + N) cap) w' ∧
      Ap w' base (.slice (some ⟨g, 0, none⟩) (l0.length + N) cap) (l0 ++ l) ∧ Below base w w' := by
  obtain ⟨i0, hi, hz0, hz1, hz2⟩ := info_parts infoI
  obtain ⟨⟨xs, h1, h2⟩, h3⟩ := h
  have hlt := h1.lt
  have hlN := hr.len
  obtain ⟨_, _, e, hc, hri⟩ := hr
  injection e with e1 e2 e3
  subst e1 e3
  clear e2
  obtain ⟨b, off, rfl, hb, hcell⟩ := hri.at (i := 0) (by omega)
  have hex : ∀ i, ∃ p : Bool × Option Addr × Nat × Nat, i < l.length → w.cell? ⟨b, off + i * 2, none⟩ = some (.bool p.1) ∧ w.cell? ⟨b, off + i * 2 + 1, none⟩ = some (.slice p.2.1 p.2.2.1 p.2.2.2) ∧ It w (.agg #[.bool p.1, .slice p.2.1 p.2.2.1 p.2.2.2]) (l.getD i 0) := fun i => by
    by_cases hh : i < l.length
    · obtain ⟨s, c, n, k, r0, r1, r2⟩ := hcell i hh
      exact ⟨(s, c, n, k), fun _ => ⟨r0, r1, r2⟩⟩
    · exact ⟨(false, none, 0, 0), fun h => absurd h hh⟩
  obtain ⟨F, hF⟩ := Classical.axiomOfChoice hex
  obtain ⟨G, hG⟩ : ∃ G : Nat → Value, G = fun j => if j % 2 = 0 then .bool (F (j / 2)).1 else .slice (F (j / 2)).2.1 (F (j / 2)).2.2.1 (F (j / 2)).2.2.2 := ⟨_, rfl⟩
  have hGc : ∀ j, j < N * 2 → w.cell? ⟨b, off + j, none⟩ = some (G j) := fun j hj => by
    obtain ⟨r0, r1, -⟩ := hF (j / 2) (by omega)
    rw [hG]
    show _ = some (if j % 2 = 0 then _ else _)
    split
    · rw [show off + j = off + j / 2 * 2 by omega]; exact r0
    · rw [show off + j = off + j / 2 * 2 + 1 by omega]; exact r1
  have hG0 : ∀ i, G (i * 2) = .bool (F i).1 := fun i => by
    rw [hG]
    show (if i * 2 % 2 = 0 then _ else _) = _
    rw [if_pos (by omega), show i * 2 / 2 = i by omega]
  have hG1 : ∀ i, G (i * 2 + 1) = .slice (F i).2.1 (F i).2.2.1 (F i).2.2.2 := fun i => by
    rw [hG]
    show (if (i * 2 + 1) % 2 = 0 then _ else _) = _
    rw [if_neg (by omega), show (i * 2 + 1) / 2 = i by omega]
  have hGn : ∀ j, noW (G j) = true := fun j => by rw [hG]; show noW (if j % 2 = 0 then _ else _) = true; split <;> rfl
  have hG2 : ∀ j, (G j).oneCell' = true := fun j => by rw [hG]; show Value.oneCell' (if j % 2 = 0 then _ else _) = true; split <;> rfl
  have hnews : ∀ j u, (lst (N * 2) G)[j]? = some u → w.cell? ((⟨b, off, none⟩ : Addr).add j) = some u := by
    intro j u hu
    obtain ⟨hj, e⟩ := lst_some hu
    rw [e, addr_add]
    exact hGc j hj
  have hmem : ∀ u ∈ lst (N * 2) G, ∃ j, u = G j := fun u hu => by
    obtain ⟨j, _, e⟩ := List.mem_map.1 (show u ∈ (List.range (N * 2)).map G from hu)
    exact ⟨j, e.symm⟩
  obtain ⟨g, cap, w', hrn, k1, k2, k3, k4, k5⟩ := run_app_all noW w t ty base 56 i0 _ 2 32 ht hi hz0 hz1 hz2 rfl (by omega) v l0.length xs h1 ⟨b, off, none⟩ N c1 (lst (N * 2) G) (lst_length _ _)
    hnews (fun u hu => by obtain ⟨j, rfl⟩ := hmem u hu; exact hG2 j) h0 (by unfold maxLen; omega) (by omega) hbase h3 (fun u hu => by obtain ⟨j, rfl⟩ := hmem u hu; exact hGn j) (by simp [Value.cells, noW])
  have hxl := h1.1
  refine ⟨g, cap, w', hrn, ⟨⟨xs ++ lst (N * 2) G, by rw [List.length_append, hlN]; exact k1, fun i hi => ?_⟩, fun g' hg' => ?_⟩, Below.of_grown k2 hbase (fun k hk => (hlt k hk).1)⟩
  · simp only [List.length_append] at hi
    by_cases e : i < l0.length
    · obtain ⟨s', c', n', k', c0, c1, c2⟩ := h2 i e
      refine ⟨s', c', n', k', by rw [List.getElem?_append_left (by omega)]; exact c0, by rw [List.getElem?_append_left (by omega)]; exact c1, ?_⟩
      simp only [List.getD_eq_getElem?_getD, List.getElem?_append_left e] at c2 ⊢
      exact c2.grown k2 h3
    · obtain ⟨-, -, r2⟩ := hF (i - l0.length) (by omega)
      refine ⟨(F (i - l0.length)).1, (F (i - l0.length)).2.1, (F (i - l0.length)).2.2.1, (F (i - l0.length)).2.2.2, ?_, ?_, ?_⟩
      · rw [List.getElem?_append_right (by omega), show i * 2 - xs.length = (i - l0.length) * 2 by omega, lst_get _ _ _ (by omega), hG0]
      · rw [List.getElem?_append_right (by omega), show i * 2 + 1 - xs.length = (i - l0.length) * 2 + 1 by omega, lst_get _ _ _ (by omega), hG1]
      · have := r2.grown k2 h3
        simp only [List.getD_eq_getElem?_getD] at this ⊢
        rw [List.getElem?_append_right (by omega)]
        exact this
  · simp [Value.ownBlock] at hg'
    subst hg'
    exact k5

theorem wpl_apRow {ops : Array Oper} {rest : List Oper} {o : Oper} {a : Act} {Q : Exit → Act → World → Prop} {w : World} (hgd : o.guard = none) (su sx : Operand) (t : TypeId)
    (ho : o.op = .call { callee := .builtin .append, args := #[su, sx], argTypes := #[t, t] }) (ht : Tryz.prog.underlying t = some (.slice 56)) (base : Nat) (v : Value) (l0 l : List Int) (hs : a.eval su = v) (h : Ap w base v l0) (hbase : base ≤ w.heap.size)
    (b : Option Addr) (N c1 : Nat) (hxv : a.eval sx = .slice b N c1) (hr : Rw w (.slice b N c1) l) (h0 : 0 < N) (hl : l0.length + N ≤ 1099511627776)
    (hK : ∀ g cap w', Ap w' base (.slice (some ⟨g, 0, none⟩) (l0.length + N) cap) (l0 ++ l) → Below base w w' → wpList Tryz.prog ops Q rest (a.put o.dst (.slice (some ⟨g, 0, none⟩) (l0.length + N) cap)) w') :
    wpList Tryz.prog ops Q (o :: rest) a w := by
  refine wpList_plain hgd fun K hK' => ?_
  obtain ⟨g, cap, w', hrn, h2, h3⟩ := run_apRow t o.type ht h hbase hr h0 hl
  unfold Oper.wp execOp
  simp only [ho, resolve, invoke, builtin, Sem.run_bind, Sem.run_pure, Result.andThen_ok, List.map_toArray, List.map_cons, List.map_nil, hs, hxv, hrn]
  exact hK' _ _ (hK g cap w' h2 h3)
end Go.Proofs.YtdbpkoddfcdhdaaGreat

namespace Go.Proofs.YtdbpkoddfcdhdaaGreat
open Go.RowKit
attribute [local go_sem ↓] Go.wp_at_zero Go.wp_at_succ

set_option maxRecDepth 100000 in
set_option maxHeartbeats 4000000 in
theorem rcopied_any (v : Value) (m : List (List Int)) (R N : Nat) (w : World) (h : Mx w v m) (hs : Shape R N m) (hN0 : 0 < N) (hN : N ≤ 1000) (hR : R ≤ 1000) :
    Calls Tryz.prog 62 #[v] w fun e w' => ∃ g cap, e = .returned (.slice (some ⟨g, 0, none⟩) R cap) ∧ Am2 w' w.heap.size (.slice (some ⟨g, 0, none⟩) R cap) m ∧ Below w.heap.size w w' := by
  obtain ⟨a, ca, rfl, -, -⟩ := id h
  rw [hs.1] at h ⊢
  go_enter Tryz.func62, Tryz.ntmps62
  go_wp2_with fail
  go_loopw [3, 4] (fun s3 s4 wq => ∃ (i g cap : Nat), i ≤ R ∧ s4 = .int .i64 i ∧ s3 = .slice (some ⟨g, 0, none⟩) i cap ∧ Am2 wq w.heap.size (.slice (some ⟨g, 0, none⟩) i cap) (m.take i) ∧ Below w.heap.size w wq)
    (fun _ s4 _ => R - (intOf s4).toNat)
  case atStart => exact ⟨0, _, 0, Nat.zero_le _, rfl, rfl, Am2.lit0 _ (Nat.le_refl _), below_new _ _⟩
  case round =>
    obtain ⟨i, g, cap, hi, rfl, rfl, hAm, hbl⟩ := hrel
    have i0 : (0 : Int) ≤ (i : Int) := by omega
    by_cases hlt : i < R
    · have i1 : (i : Int) < (R : Int) := by omega
      obtain ⟨ba, offa, ar, k1, rfl, hba, p0, hk1, hrw⟩ := h.row hs hlt
      replace p0 := keepc hbl p0
      replace hrw := hrw.up hbl
      have htl : (m.take i).length = i := by rw [List.length_take, hs.1]; omega
      have hrl := hs.2 i hlt
      have htk : m.take (i + 1) = m.take i ++ [m.getD i []] := by
        rw [List.take_succ_eq_append_getElem (by rw [hs.1]; exact hlt)]
        simp [List.getD_eq_getElem?_getD, hs.1, hlt]
      have HTK := Lib.hid htk
      clear htk
      generalize m.getD i [] = x at *
      generalize m.take i = o at *
      have hol : o.length ≤ 1099511627776 := by omega
      have hap := Ap.lit0 wr (Nat.le_refl wr.heap.size)
      have hsz := hbl.size
      have p0' := cellN p0 (.cells #[] 36)
      have p0'' := cellN p0 (.cells #[] 56)
      have hx0 := (hrw.up (below_new wr (.cells #[] 56)))
      go_wp2_with (at_builtin; first
        | (refine wpl_apRow rfl (.tmp 13) (.tmp 17) _ rfl Tryz.underlying36 wr.heap.size _ [] x rfl hap (by simp) _ N k1 rfl hx0 hN0 (by simp; omega) ?_; intro g2 cap2 w2 hA2 hb2; rw [List.length_nil, Nat.zero_add, List.nil_append] at hA2; rw [List.length_nil, Nat.zero_add])
        | (refine wpl_apR rfl (.tmp 12) (.tmp 19) _ rfl Tryz.underlying27 w.heap.size _ o rfl ((hAm.up ((below_new wr (.cells #[] 56)).trans (hb2.mono (by simp)))).alloc _) (by have := hb2.size; simp at this ⊢; omega) w2.heap.size _ _ _ _ N _ x hrl rfl (heap_alloc_new _ _) (hA2.rw.up (below_new _ _)) hol ?_; intro g4 cap4 w4 hA4 hb4; rw [htl] at hA4 ⊢))
      go_roundw
      case rel => exact ⟨i + 1, g4, cap4, by omega, by go_num, rfl, by rw [HTK.out]; exact hA4, (Bl.alloc (Bl.up hbl ((below_new wr (.cells #[] 56)).trans (hb2.mono (by simp)))) _).trans hb4⟩
      case measure => simp [intOf]; omega
    · have i1 : ¬ (i : Int) < (R : Int) := by omega
      have hiR : i = R := by omega
      subst hiR
      have htk : m.take i = m := List.take_of_length_le (by rw [hs.1]; exact Nat.le_refl _)
      rw [htk] at hAm
      clear htk
      go_wp2_with fail
      go_ret
      exact ⟨g, cap, rfl, hAm, hbl⟩

set_option maxRecDepth 100000 in
set_option maxHeartbeats 4000000 in
theorem rzero_any (v : Value) (l : List Int) (w : World) (h : Rw w v l) (hN : l.length ≤ 1099511627776) :
    Calls Tryz.prog 28 #[v] w fun e w' => e = .returned (.bool (!l.any nz)) ∧ Below w.heap.size w w' := by
  obtain ⟨a, ca, rfl, -, -⟩ := id h
  go_enter Tryz.func28, Tryz.ntmps28
  go_wp2_with fail
  go_loopw [3] (fun s wq => ∃ i : Nat, i ≤ l.length ∧ s = .int .i64 i ∧ (∀ j, j < i → nz (l.getD j 0) = false) ∧ Below w.heap.size w wq)
    (fun s _ => l.length - (intOf s).toNat)
  case atStart => exact ⟨0, Nat.zero_le _, rfl, fun j hj => absurd hj (Nat.not_lt_zero j), Below.refl _ _⟩
  case round =>
    obtain ⟨i, hi, rfl, hz, hbl⟩ := hrel
    have HZ := Lib.hid hz
    clear hz
    have i0 : (0 : Int) ≤ (i : Int) := by omega
    by_cases hlt : i < l.length
    · have i1 : (i : Int) < (l.length : Int) := by omega
      obtain ⟨b, off, s, c, n, q, rfl, hb, p0, p1, p2⟩ := h.get hlt
      replace p0 := keepc hbl p0
      replace p1 := keepc hbl p1
      replace p2 := p2.up hbl
      cases hnz : nz (l.getD i 0) with
      | true =>
        have hany := any_true (p := nz) (d := 0) hlt hnz
        have HA := Lib.hid hany
        rw [← nz_cmp] at hnz
        clear hany
        generalize l.getD i 0 = x at *
        go_wp2_with fail
        refine (rsign_any _ x _ p2).mono ?_
        rintro e w2 ⟨rfl, hb2⟩
        go_wp2_with fail
        go_ret
        exact ⟨ret_of (by rw [HA.out]; rfl), Bl.up hbl hb2⟩
      | false =>
        have HN := Lib.hid hnz
        rw [← nz_cmp] at hnz
        have hx : l.getD i 0 = l.getD i 0 := rfl
        generalize hxe : l.getD i 0 = x at *
        clear hx
        go_wp2_with fail
        refine (rsign_any _ x _ p2).mono ?_
        rintro e w2 ⟨rfl, hb2⟩
        go_wp2_with fail
        go_roundw
        case rel => exact ⟨i + 1, by omega, by go_num, fun j hj => by
          rcases Nat.lt_or_ge j i with c | c
          · exact HZ.out j c
          · obtain rfl : j = i := by omega
            rw [hxe]; exact HN.out, Bl.up hbl hb2⟩
        case measure => simp [intOf]; omega
    · have i1 : ¬ (i : Int) < (l.length : Int) := by omega
      have hany := any_false (p := nz) (l := l) (d := 0) (fun j hj => HZ.out j (by omega))
      have HA := Lib.hid hany
      clear hany
      go_wp2_with fail
      go_ret
      exact ⟨ret_of (by rw [HA.out]; rfl), hbl⟩
end Go.Proofs.YtdbpkoddfcdhdaaGreat
